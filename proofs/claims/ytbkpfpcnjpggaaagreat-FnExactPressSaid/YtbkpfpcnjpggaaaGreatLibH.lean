/- Part 8 of what FnExactPress needs. No conditions. -/
import Derived.Test.YtbkpfpcnjpggaaaGreatLibG
namespace Go.Ag
set_option linter.unusedSimpArgs false
set_option linter.unusedVariables false
noncomputable section
section
set_option maxRecDepth 20000
def Wm(x:B8):Prop:=x.length<=1048576/\∀a∈x,az a
theorem ZcU(a b:B8)(h:Wm a):Pb (a,b)/\(Hq (a,b)=true↔a=b):=by
 rw[uo,ui];obtain⟨h1,s⟩:=h;have n:∀i:Nat,i<a.length->Rg (((So a i (0,[])).1,(So a i (0,[])).2),((So b i (0,[])).1,(So b i (0,[])).2))/\(KN (((So a i (0,[])).1,(So a i (0,[])).2),((So b i (0,[])).1,(So b i (0,[])).2))=true↔a.getD i (0,[])=b.getD i (0,[])):=λi hi=>by
  have:=Zdy (a.getD i (0,[])) (b.getD i (0,[])) (s _ (B5 a i (0,[]) hi));rw[AJ,AJ];exact this
 by_cases j:a.length=b.length
 ·refine⟨⟨λ_=>trivial,λ_=>Ox a b (0,[]) (λi=>U' (KN (((So a i (0,[])).1,(So a i (0,[])).2),((So b i (0,[])).1,(So b i (0,[])).2)))) j (λi hi=>by simp only[Aw,BZ,(n i hi).2]) (by omega) (λi hi=>by simp only[Az,Am,Ak,Ax,Aw,AG,CM]) (λi hi=>rfl) (λi hi=>?_)⟩,?_⟩
  ·simp only[Am,Ak,Ax,Av,AG];exact⟨λt=>⟨by omega,by omega,by omega,by omega,(n i (by omega)).1⟩,λ_=>trivial⟩
  have q:=OE (c:=λi:Int=>W_ (c_ i (U_ a)) (U' ((λi=>U' (KN (((So a i (0,[])).1,(So a i (0,[])).2),((So b i (0,[])).1,(So b i (0,[])).2)))) i.toNat))) (f:=λi=>V' .i64 i 1) a b (0,[]) (λi=>U' (KN (((So a i (0,[])).1,(So a i (0,[])).2),((So b i (0,[])).1,(So b i (0,[])).2)))) j (λi hi=>by simp only[Aw,BZ,(n i hi).2]) (by omega) (λi hi=>by simp only[Az,Am,Ak,Aw,AG,CM]) (λi hi=>rfl);have g:U' (i_ (U_ a) (U_ b))=true:=(by rw[Aw,Bj,Ak,Ak,j];simp);rw[g,Az true,HG,Aw (c_ _ (U_ a)),Am _ (U_ a)];simp only[<- Ax,Ak]at q ⊢;simp only[Bq,Bm];rw[q];simp
 have g:U' (i_ (U_ a) (U_ b))=false:=by rw[Aw,Bj,Ak,Ak];simp;omega
 refine⟨⟨λ_=>trivial,λh=>?_⟩,?_⟩
 ·rw[Aw]at g;rw[h]at g;cases g
 rw[g,Az,LP];constructor
 ·intro h;cases h
 intro e;subst e;exact absurd rfl j
def GS(a:BE)(k:Int):BE×Int:=((k,(GG a.2 (IntKind.i64.wrap (k+1))).1),(GG a.2 (IntKind.i64.wrap (k+1))).2)
theorem ZcL(x:B8)(h:Wm x)(m:Int)(h0:0<=m)(h1:m+1099512676352<=2305843009213693952):OW x/\(m<=(De x m).2/\(De x m).2<=m+1099512676352)/\QW ((De x m).1,m)/\H8 ((De x m).1,m)=(De x m).2:=by
 have z:x.length<=1048576:=h.1;have C:L0 GS x 1048577:=by
  intro a b k U R;have y:IntKind.i64.wrap (k+1)=k+1:=CW (by omega) (by omega);obtain⟨_,⟨G,F⟩,q,n⟩:=m8 a.2 (h.2 a b).1 (k+1) (by omega) (by omega);have t1:¬(GG a.2 (k+1)).2<0:=(by omega);have J:(GS a k).2=(GG a.2 (k+1)).2:=(by simp only[GS,y]);rw[J];omega
 have Y:x.length*1048577<=1099512676352:=NZ z (by decide);have D:=Oi (m:=m) C h0 (by omega);have s:De x m=AW GS x m:=by unfold GS;rw[fk,fP];rfl
 rw[s];have u:=G2 GS x m;have A:∀i,i<x.length->(AW GS x m).1.getD i (0,[])=(GS (x.getD i (0,[])) (Bb GS x m i).2).1:=λi hi=>NY _ _ _ hi _;have M:OW x:=by rw[fj];exact⟨CV h.1 (by decide),λa b=>⟨trivial,⟨CV (h.2 a b).1 (by decide),λa b=>trivial⟩⟩⟩
 rw[qT,qM];dsimp only;generalize (AW GS x m).1=L at u A ⊢;have j:Z_ (λ(x0:Ar)=>(W_ (c_ x0.2 (U_ L)) (W_ (U' (i_ (So L (R_ x0.2) (0,[])).1 x0.1)) (U' (c_ (EU ((So L (R_ x0.2) (0,[])).2,(V' .i64 x0.1 1))) 0))))) (λ(x0:Ar)=>((EU ((So L (R_ x0.2) (0,[])).2,(V' .i64 x0.1 1))),(V' .i64 x0.2 1))) (λ(x0:Ar)=>(((c_ x0.2 (U_ L))=true->((((0:Int)<=x0.2)/\(x0.2<(((List.length L):Int))))/\(((R_ x0.2)<(List.length L))/\(((i_ (So L (R_ x0.2) (0,[])).1 x0.1)=true->True)/\((i_ (So L (R_ x0.2) (0,[])).1 x0.1)=false->((((0:Int)<=x0.2)/\(x0.2<(((List.length L):Int))))/\(((R_ x0.2)<(List.length L))/\(Rb ((So L (R_ x0.2) (0,[])).2,(V' .i64 x0.1 1))))))))))/\((c_ x0.2 (U_ L))=false->True))) (m,0)/\Al (λ(x0:Ar)=>(W_ (c_ x0.2 (U_ L)) (W_ (U' (i_ (So L (R_ x0.2) (0,[])).1 x0.1)) (U' (c_ (EU ((So L (R_ x0.2) (0,[])).2,(V' .i64 x0.1 1))) 0))))) (λ(x0:Ar)=>((EU ((So L (R_ x0.2) (0,[])).2,(V' .i64 x0.1 1))),(V' .i64 x0.2 1))) (m,0)=((AW GS x m).2,(x.length:Int)):=by
  refine NK z (0,[]) (λi hi=>?_) ?_
  ·obtain⟨O,N⟩:=Mz (m:=m) C h0 (by omega) (0,[]) i (by omega);have Z:i*1048577+1048577<=x.length*1048577:=NX hi;have g:=A i hi;have I:(i:Int)<(L.length:Int):=(by omega);have t:i<L.length:=(by omega);have b:=B5 x i (0,[]) hi;generalize (Bb GS x m i).2=k at O N g ⊢;generalize x.getD i (0,[])=a at g b ⊢;have y:IntKind.i64.wrap (k+1)=k+1:=CW (by omega) (by omega);obtain⟨_,⟨G,F⟩,q,n⟩:=m8 a.2 (h.2 a b).1 (k+1) (by omega) (by omega);have t1:¬(GG a.2 (k+1)).2<0:=(by omega);simp only[AJ,Ax,Ak,AG,NQ,NN,Bj,Am,BD,NU,Az,Aw,EF,g,GS,y,q,n,t1];simp[I,t,q,n,t1]
  simp[Am,Ak,u,Az]
 refine⟨M,⟨D.1,by omega⟩,j.1,?_⟩;simp only[j.2];simp[BN,Am,Ak,u]
end
theorem Zbb(x:Oz):Pa x=F7 x:=by
 rw[r8,fC,ga];generalize U' (c_ (Al _ _ _) _)=L;simp only[Az,Aw,Bl,Bj,BD];by_cases h:x.1.1=x.2.1<;>simp[h]
theorem iz(a b:BE)(h:a.2.length<=1048576):Ui (a,b)/\Nj (a,b):=by
 obtain⟨m,a⟩:=a;obtain⟨n,b⟩:=b;rw[sn,rq,wo];have h:a.length<=1048576:=h;have j:∀ {c:Int->Bool} {f:Int->Int} {p:Int->Prop},(∀st,c st=true->st<a.length)->(∀st,f st=V' .i64 st 1)->(∀st:Int,0<=st->st<=a.length->p st)->Z_ c f p 0:=λg s hp=>
  JI (λst=>st) a.length (by omega) (λst _ _ h=>g st h) s hp (by simp) (by simp)
 have q:∀ {st:Int} {t:Bool},W_ (c_ st (U_ a)) t=true->st<a.length:=λ{st t} h=>by
  rw[Az,Am,Ak,Ai,Av]at h;exact h.1
 have pp:a.length=b.length->∀st:Int,0<=st->c_ st (U_ a)=true->(((0:Int)<=st/\st<(a.length:Int))/\R_ st<a.length/\((0:Int)<=st/\st<(b.length:Int))/\R_ st<b.length):=λu st h0 h1=>by
  rw[Am,Ak,Av]at h1;rw[Ax];omega
 refine⟨⟨λ_=>trivial,λi=>?_⟩,λ_=>⟨λ_=>trivial,λi=>?_⟩,λ_=>trivial⟩
 ·simp only[Bl,Bj,Ak,Ce,BZ,Av]at i;exact j (λst g=>q g) (λ_=>rfl) (λst h0 h1=>⟨pp (by omega) st h0,λ_=>trivial⟩)
 simp only[Bj,Ak,BZ,Av]at i;exact j (λst g=>q g) (λ_=>rfl) (λst h0 h1=>⟨pp (by omega) st h0,λ_=>trivial⟩)
theorem NA(x:Cw):D7 x=B4 x:=by
 simp only[vL,Rh,ZE,VC,VJ,Zj,Aw,Az,Bl,EF,BN,BD,Bj,Am,E2,D3,CK,oN,oZ,Ak,LF,AJ,Hx,Lo,aY,B6,cx,Ax,nt];rw[JS];repeat' split
 all_goals simp only[Ai,B7,Bq,BZ,F0,Ce,Av,Bm,Gr,Jb,A7,JF]at *
 all_goals omega
theorem Up(x:Cw):Nr x:=by
 have h:∀y,D8 y:=λy=>by rw[PG];trivial
 rw[uz];simp[h]
theorem QX(x:Cw):Np x:=by
 have h1:∀y,Py y:=λy=>by rw[Zaf];trivial
 have g:∀y,Nv y:=λy=>by rw[zc];trivial
 have b:∀y,Ru y:=λy=>by rw[xJ];trivial
 rw[vc];simp[h1,g,b]
theorem G0(a b c:Int):BM (a,b,c)=(decide (b<=a)&&decide (a<=c)):=by rw[ZE];simp only[Az,CK,E2]
theorem Qc (x):D8 x:=by rw[PG];trivial
theorem ZV (x):O8 x:=by rw[sS];exact Up _
theorem PR(x:Bg):EA x=Ct x:=by
 rw[zX,Vz];have:∀ {c c':Int×Int->Bool} {f:Int×Int->Int×Int} {a:Int×Int} {n:Int},(∀x,c x=c' x)->U' (c_ (Al c f a).2 n)=U' (c_ (Al c' f a).2 n):=by
  intro c c' f a n h;rw[funext h]
 apply this;intro st;rw[JS];simp only[YV,NA,G0,V9,Aw,Az,Bl,BD,Am,D3,Ai,B7,Bq,BZ,F0,Ce,Av,Bm,Gr,Jb,A7,JF];generalize B4 _=A;cases A<;>simp<;>omega
theorem US(x:Bg)(h:x.length<=1048576):Nt x:=by
 rw[yD];refine JI (λst=>st.2) x.length (by omega) (λst _ _ g=>?_) (λst=>rfl) (λst h0 h1=>?_) (by simp) (by simp)
 ·simp only[Az,Am,Ak,Ai,Av]at g;exact g.1
 refine⟨λi=>?_,λ_=>trivial⟩;simp only[Am,Ak,Av]at i;have j:st.2.toNat<x.length:=by omega
 simp only[G0,Ax,j,h0,i,Qc,ZV,Up,Gk,implies_true,HD,Aw,Bl,Ai,B7,Bq,BZ,F0,Ce,Av,Bm,Gr,Jb,A7,JF,BZ,Ce];exact⟨λb=>b.1,λb=>b.1.1⟩
theorem UZ(x:Bg)(h:x.length<=1048576):Nw x:=by
 rw[zG];refine JI (λst=>st.2) x.length (by omega) (λst _ _ b=>?_) (λst=>rfl) (λst h0 h1=>?_) (by simp) (by simp)
 ·simp only[Az,Am,Ak,Ai,Av]at b;exact b.1
 refine⟨λg=>?_,λ_=>trivial⟩;simp only[Am,Ak,Av]at g;have n:st.2.toNat<x.length:=by omega
 simp only[je,Ax,n,h0,g,QX,Gk,implies_true,HD,Am,D3,Aw,Bl,Ai,B7,Bq,BZ,F0,Ce,Av,Bm,Gr,Jb,A7,JF,BZ,Ce];refine⟨λj i=>by omega,λj i=>by omega⟩
def XT(h:Dc):Prop:=0<=h.1/\h.1<=31/\B4 h.2=true/\h.2.1≠1/\h.2.1≠6/\h.2.1≠7
theorem RX{x:List Dc}(I:x.length<=1048576)(h:Ct x=true):∀a∈x,XT a:=by
 rw[Vz,Aw,Bq,Am _ (U_ x),Bm]at h;have n:=NC (c:=λx0:Int×Int=>(W_ (c_ x0.2 (U_ x)) (W_ (U' (w_ (c_ (So x (R_ x0.2) (0,0,0,0,0)).1 0) (w_ (iGt (So x (R_ x0.2) (0,0,0,0,0)).1 31) (w_ (g9 (Ei (x0.1,(So x (R_ x0.2) (0,0,0,0,0)).1)) 1) (U' (B4 ((So x (R_ x0.2) (0,0,0,0,0)).2.1,(So x (R_ x0.2) (0,0,0,0,0)).2.2.1,(So x (R_ x0.2) (0,0,0,0,0)).2.2.2.1,(So x (R_ x0.2) (0,0,0,0,0)).2.2.2.2))))))) (U' (w_ (g9 (So x (R_ x0.2) (0,0,0,0,0)).2.1 1) (w_ (g9 (So x (R_ x0.2) (0,0,0,0,0)).2.1 6) (g9 (So x (R_ x0.2) (0,0,0,0,0)).2.1 7)))))))
  (f:=λx0=>((iOr .i64 x0.1 (iShl .i64 1 (So x (R_ x0.2) (0,0,0,0,0)).1)),(V' .i64 x0.2 1)))
  (λst=>∃i:Nat,st.2=i/\i<=x.length/\∀j,j<i->XT (x.getD j (0,0,0,0,0))) (λst=>x.length-st.2.toNat) (λst A u=>?_) (x0:=(0,0)) ⟨0,rfl,EE _,λj g=>by omega⟩
 ·obtain⟨⟨i,b,y,q⟩,_⟩:=n;rw[b,Ak]at h;have:i=x.length:=(by omega);subst this;intro a z;obtain⟨j,g,rfl⟩:=IW z;have:=q j g;rw[CQ,A9 g]at this;exact this
 obtain⟨i,b,y,q⟩:=A;obtain⟨s,j⟩:=st;simp only at b;subst b;simp only[Az,Aw,Bl,Am,D3,BD,Ak,AJ,Ax,AG,Ai,Bq,Ce,Av,Bm,BZ]at u;obtain⟨L,⟨c2,J,_,G⟩,F,D,C⟩:=u;refine⟨⟨i+1,?_,by omega,λj g=>?_⟩,?_⟩
 ·simp only;rw[Cp (by unfold Br;omega)];omega
 ·by_cases t:j=i
  ·subst t;exact⟨by omega,by omega,G,F,D,C⟩
  exact q j (by omega)
 simp only;rw[Cp (by unfold Br;omega)];omega
theorem iX{a:Int×Int×Int×Int}(h:B4 a=true)(b:a.1=3):a.2.1=0/\a.2.2.1=0/\1<=a.2.2.2/\a.2.2.2<=3:=by
 rw[Rh]at h;simp only[Zj,VC,VJ,b,Aw,Az,Bl,EF,BN,BD,Bj,Am,E2,D3,CK,oN,oZ,Ak,LF,AJ,Hx,Lo,aY,B6,cx,Ax,nt]at h;simp at h;omega
theorem ja(f:Int)(x:Bg):Rr (f,x)=EW (f,x):=by
 rw[wV,vP];have e:BM (f,0,15)=W_ (iGe f 0) (iLe f 15):=by rw[G0,Az,CK,E2]
 simp only[PR,e];cases h:Ct x with
 | true=>
   rw[show U' true=false from by rw[Aw];rfl,CH];have:∀a:Bool,W_ a true=a:=λa=>(by rw[Az,MT]);simp only[this]
 | false=>
   rw[show U' false=true from by rw[Aw];rfl,CL];rw[ZcM (by rw[Az,Bool.and_false])]
theorem si(f:Int)(x:Bg)(h:x.length<=1048576):UN (f,x):=by
 rw[wQ];refine⟨Qc _,?_⟩;refine JI (λst=>st.2) x.length (by omega) (λst _ _ g=>?_) (λst=>rfl) (λst h0 h1=>?_) (by simp) (by simp)
 ·simp only[Az,Am,Ak,Ai,Av]at g;exact g.1
 refine⟨⟨λ_=>US x h,λ_=>trivial⟩,λb=>?_,λ_=>trivial⟩;simp only[Az,Am,Ak,Ai,Av,PR]at b;obtain⟨b,n⟩:=b;have i:st.2.toNat<x.length:=by omega
 simp only[Ax,AJ,i,h0,b,Gk,implies_true,HD,BD,Av];intro j;have:=RX h n _ (B5 x st.2.toNat (0,0,0,0,0) i);have:=iX this.2.2.1 j;omega
theorem r7(f:Int)(x:Bg)(h:x.length<=1048576):UQ (f,x):=by
 rw[vS];refine⟨UZ x h,λ_=>trivial,λb=>?_⟩;have b:Ct x=true:=by simpa [Aw]using b
 refine JI (λst=>st.2) x.length (by omega) (λst _ _ g=>?_) (λst=>rfl) (λst h0 h1=>?_) (by simp) (by simp)
 ·simp only[Am,Ak,Av]at g;exact g
 refine⟨λi=>?_,λ_=>trivial⟩;simp only[Am,Ak,Av]at i;have j:st.2.toNat<x.length:=by omega
 simp only[Ax,AJ,j,h0,i,Gk,implies_true,HD,BD,Av];intro n;have:=RX h b _ (B5 x st.2.toNat (0,0,0,0,0) j);have:=iX this.2.2.1 n;omega
theorem bg {X Y:Type} {c:X->Bool} {f:X->X} {p:X->Prop} {d:Y->Bool} {g:Y->Y} {q:Y->Prop} (R:X->Y->Prop) (m:X->Nat)
 (h:∀x y,R x y->p x/\q y/\c x=d y/\(c x=true->R (f x) (g y)/\m (f x)<m x)) {x0:X} {y0:Y} (h0:R x0 y0):
 Z_ c f p x0/\Z_ d g q y0/\R (Al c f x0) (Al d g y0)/\c (Al c f x0)=false:=by
 have go:∀(n:Nat) (x:X) (y:Y),m x<n->R x y->∃u v,LoopTo c f p x u/\LoopTo d g q y v/\R u v/\c u=false:=by
  intro n;induction n with
  |zero=>intro x y hm;exact absurd hm (Oc _)
  | succ n ih=>
    intro x y hm z;obtain⟨h1,C,A,F⟩:=h x y z;cases b:c x with
    |false=>exact⟨x,y,.stop h1 b,.stop C (by rw[<- A];exact b),z,b⟩
    | true=>
      obtain⟨D,G⟩:=F b;obtain⟨u,v,i,j,t,s⟩:=ih _ _ (by omega) D;exact⟨u,v,.go h1 b i,.go C (by rw[<- A];exact b) j,t,s⟩
 obtain⟨u,v,i,j,t,s⟩:=go _ x0 y0 (S0 _) h0;exact⟨⟨_,i⟩,⟨_,j⟩,by rw[i.val,j.val];exact t,by rw[i.val];exact s⟩
theorem bF{X:Type}{c:X->Bool}{f:X->X}{p:X->Prop}(I:X->Prop)(m:X->Nat)(h:∀x,I x->p x/\(c x=true->I (f x)/\m (f x)<m x)){x0:X}(h0:I x0):Z_ c f p x0/\I (Al c f x0)/\c (Al c f x0)=false:=Mu I m h h0
theorem ZgG{X:Type}{c:X->Bool}{f:X->X}{p:X->Prop}(n:Nat)(st:Nat->X)(t:Nat->Bool){x0:X}(h0:st 0=x0)(q:∀i,i<=n->(∀j,j<i->t j=true)->c (st i)=(decide (i<n)&&t i))(x:∀i,i<n->(∀j,j<=i->t j=true)->f (st i)=st (i+1))(hp:∀i,i<=n->(∀j,j<i->t j=true)->p (st i)):Z_ c f p x0/\∃k,k<=n/\Al c f x0=st k/\(k=n↔∀i,i<n->t i=true):=by
 have s:=Jw (λi=>!t i) n 0;have b:∀j,j<C0 (λi=>!t i) n 0->t j=true:=λj g=>by
  have:=RZ (λi=>!t i) n 0 j (by omega) g;simpa using this
 have:=JC (c:=c) (f:=f) (p:=p) (C0 (λi=>!t i) n 0) st h0 (λk u=>by
  refine⟨hp k (by omega) (λj g=>b j (by omega)),?_,x k (by omega) (λj g=>b j (by omega))⟩;rw[q k (by omega) (λj g=>b j (by omega)),b k u];have:k<n:=(by omega);simp[this]) ⟨hp _ (by omega) b,by
  rw[q _ (by omega) b];by_cases h:C0 (λi=>!t i) n 0<n
  ·have:=PJ (λi=>!t i) n 0 (by omega);simp only[Bq]at this;rw[this];simp
  simp[h]⟩
 refine⟨this.1,_,by omega,this.2,?_⟩;rw[PI];simp
theorem Jz{α:Type}(x:List α)(d:α){i:Nat}(h:i<x.length):x.take i++[x.getD i d]=x.take (i+1):=by
 rw[XO,CQ,A9 h];rfl
theorem bG {α:Type} {c:Int×List α->Bool} {f:Int×List α->Int×List α} {p:Int×List α->Prop} (x:List α) (d:α) (n:x.length<=1048576)
 (g:∀(i:Nat) (l:List α),c ((i:Int),l)=decide (i<x.length)) (j:∀(i:Nat) (l:List α),i<x.length->f ((i:Int),l)=(V' .i64 (i:Int) 1,l++[x.getD i d])) (hp:∀(i:Nat) (l:List α),i<=x.length->l.length=i->p ((i:Int),l)):
 Z_ c f p (0,[])/\Al c f (0,[])=((x.length:Int),x):=by
 have:=JC (c:=c) (f:=f) (p:=p) x.length (λi=>((i:Int),x.take i)) (x0:=(0,[])) rfl (λk b=>by
  refine⟨hp k _ (by omega) (by rw[Db];omega),by rw[g];simpa using b,?_⟩;rw[j k _ b,Cp (by unfold Br;omega),Jz x d b];simp) ⟨hp _ _ (by omega) (by rw[Db];omega),by rw[g];simp⟩
 rw[FQ]at this;exact this
theorem ZdA {α:Type} {c:List α×Int->Bool} {f:List α×Int->List α×Int} {p:List α×Int->Prop} (x:List α) (d:α) (n:x.length<=1048576)
 (g:∀(i:Nat) (l:List α),c (l,(i:Int))=decide (i<x.length)) (j:∀(i:Nat) (l:List α),i<x.length->f (l,(i:Int))=(l++[x.getD i d],V' .i64 (i:Int) 1)) (hp:∀(i:Nat) (l:List α),i<=x.length->l.length=i->p (l,(i:Int))):
 Z_ c f p ([],0)/\Al c f ([],0)=(x,(x.length:Int)):=by
 have:=JC (c:=c) (f:=f) (p:=p) x.length (λi=>(x.take i,(i:Int))) (x0:=([],0)) rfl (λk b=>by
  refine⟨hp k _ (by omega) (by rw[Db];omega),by rw[g];simpa using b,?_⟩;rw[j k _ b,Cp (by unfold Br;omega),Jz x d b];simp) ⟨hp _ _ (by omega) (by rw[Db];omega),by rw[g];simp⟩
 rw[FQ]at this;exact this
theorem mP{a b:Nat}(i:a<9223372036854775808)(g:b<9223372036854775808):iAnd .i64 (a:Int) (b:Int)=((a &&& b:Nat):Int):=by
 have e:(BitVec.ofInt 64 (a:Int) &&& BitVec.ofInt 64 (b:Int)).toNat=a &&& b:=by
  rw[BitVec.ofInt_natCast,BitVec.ofInt_natCast,BitVec.toNat_and,BitVec.toNat_ofNat,BitVec.toNat_ofNat,Nat.mod_eq_of_lt (by omega),Nat.mod_eq_of_lt (by omega)]
 have h:a &&& b<=a:=Nat.and_le_left;rw[oL];show IntKind.i64.wrap ((BitVec.ofInt 64 (a:Int) &&& BitVec.ofInt 64 (b:Int)).toNat:Int)=_;rw[e];exact wrap_i64 (by unfold Br;omega)
theorem XH{a b:Nat}(i:a<4611686018427387904)(g:b<4611686018427387904):iOr .i64 (a:Int) (b:Int)=((a ||| b:Nat):Int):=by
 have e:(BitVec.ofInt 64 (a:Int) ||| BitVec.ofInt 64 (b:Int)).toNat=a ||| b:=by
  rw[BitVec.ofInt_natCast,BitVec.ofInt_natCast,BitVec.toNat_or,BitVec.toNat_ofNat,BitVec.toNat_ofNat,Nat.mod_eq_of_lt (by omega),Nat.mod_eq_of_lt (by omega)]
 have h:a ||| b<2^62:=Nat.or_lt_two_pow (by omega) (by omega)
 rw[pt];show IntKind.i64.wrap ((BitVec.ofInt 64 (a:Int) ||| BitVec.ofInt 64 (b:Int)).toNat:Int)=_;rw[e];exact wrap_i64 (by unfold Br;omega)
theorem Zho(a k:Nat)(h:k<=64):iShr .i64 (a:Int) (k:Int)=((a / 2^k:Nat):Int):=by
 rw[oD];show Int.fdiv (a:Int) (2^min (k:Int).toNat 64)=_;rw[AG,Nat.min_eq_left h,Int.fdiv_eq_ediv_of_nonneg _ (by exact_mod_cast EE _)];norm_cast
theorem SO{a k:Nat}(b:k<=64)(h:a*2^k<9223372036854775808):iShl .i64 (a:Int) (k:Int)=((a*2^k:Nat):Int):=by
 rw[n8];show IntKind.i64.wrap ((a:Int)*2^min (k:Int).toNat 64)=_;rw[AG,Nat.min_eq_left b];have:((a:Int)*2^k)=((a*2^k:Nat):Int):=by norm_cast
 rw[this];exact wrap_i64 (by unfold Br;omega)
def Bytes(x:B3):Prop:=∀a∈x,0<=a/\a<256
theorem Bytes.get{x:List Int}(h:Bytes x)(i:Nat):∃n:Nat,n<256/\x.getD i 0=(n:Int):=by
 by_cases hi:i<x.length
 ·obtain⟨h0,h1⟩:=h _ (B5 x i 0 hi);exact⟨(x.getD i 0).toNat,by omega,by omega⟩
 exact⟨0,by omega,by rw[CQ,BO (by omega)];rfl⟩
theorem Bytes.of{x:List Int}(h:CT.wf (.sl (.one (.int .u8))) x):Bytes x:=by
 intro a b;have:=h.2 a b;simp only[RT.wf,CT.wf]at this;have h:IntKind.u8.min<=a/\a<=IntKind.u8.max:=by simpa [Lit.wf]using this
 have i:IntKind.u8.min=0:=by decide
 have g:IntKind.u8.max=255:=by decide
 rw[i,g]at h;omega
theorem Hw{α:Type}(x:List α)(d:α){i:Nat}(h:i<x.length):x.getD i d=x[i]:=by
 rw[CQ,A9 h];rfl
abbrev CI:=List Dc
theorem lD(m p:Nat)(hm:m<4611686018427387904)(hp:p<=64):Ei ((m:Int),(p:Int))=if m.testBit p then 1 else 0:=by
 rw[V9];simp only;rw[Zho m p hp];have hd:m / 2^p<=m:=Nat.div_le_self _ _;have:=mP (a:=m / 2^p) (b:=1) (by omega) (by omega);rw[show ((1:Nat):Int)=1 from rfl]at this;rw[this,Nat.and_one_is_mod,Nat.testBit_eq_decide_div_mod_eq];simp only[Av];split<;>omega
theorem Zew{x:CI}(hl:x.length<=1048576)(h:∀a∈x,XT a)(hd:x.Pairwise (λa b=>a.1≠b.1)):Ct x=true:=by
 rw[Vz,Aw,Bq];have s:=NC (c:=λx0:Int×Int=>(W_ (c_ x0.2 (U_ x)) (W_ (U' (w_ (c_ (So x (R_ x0.2) (0,0,0,0,0)).1 0) (w_ (iGt (So x (R_ x0.2) (0,0,0,0,0)).1 31) (w_ (g9 (Ei (x0.1,(So x (R_ x0.2) (0,0,0,0,0)).1)) 1) (U' (B4 ((So x (R_ x0.2) (0,0,0,0,0)).2.1,(So x (R_ x0.2) (0,0,0,0,0)).2.2.1,(So x (R_ x0.2) (0,0,0,0,0)).2.2.2.1,(So x (R_ x0.2) (0,0,0,0,0)).2.2.2.2))))))) (U' (w_ (g9 (So x (R_ x0.2) (0,0,0,0,0)).2.1 1) (w_ (g9 (So x (R_ x0.2) (0,0,0,0,0)).2.1 6) (g9 (So x (R_ x0.2) (0,0,0,0,0)).2.1 7)))))))
  (f:=λx0=>((iOr .i64 x0.1 (iShl .i64 1 (So x (R_ x0.2) (0,0,0,0,0)).1)),(V' .i64 x0.2 1)))
  (λst=>∃i m:Nat,st=((m:Int),(i:Int))/\i<=x.length/\m<4294967296/\∀p:Nat,m.testBit p=true->∃j,j<i/\(x.getD j (0,0,0,0,0)).1=(p:Int)) (λst=>x.length-st.2.toNat) (λst N L=>?_) (x0:=(0,0)) ⟨0,0,rfl,EE _,by omega,λp hp=>by simp at hp⟩
 ·obtain⟨⟨i,m,I,G,F,u⟩,t⟩:=s;rw[I]at t ⊢;rw[Am,Ak,Bm];intro M;have hi:i<x.length:=(by simpa using M);obtain⟨h1,h2,Z,U,R,O⟩:=h _ (B5 x i (0,0,0,0,0) hi);have z:Ei ((m:Int),(x.getD i (0,0,0,0,0)).1)≠1:=by
   obtain⟨p,hp⟩:=Int.eq_ofNat_of_zero_le h1;rw[hp,lD m p (by omega) (by omega)];split
   ·next z=>
    obtain⟨j,C,e⟩:=u p z;have:=List.pairwise_iff_getElem.1 hd j i (by omega) hi C;rw[<- Hw x (0,0,0,0,0) hi,<- Hw x (0,0,0,0,0) (by omega:j<x.length),e,hp]at this;exact absurd rfl this
   decide
  have A:B4 ((x.getD i (0,0,0,0,0)).2.1,(x.getD i (0,0,0,0,0)).2.2.1,(x.getD i (0,0,0,0,0)).2.2.2.1,(x.getD i (0,0,0,0,0)).2.2.2.2)=true:=Z;simp only[Az,Aw,Bl,Am,D3,BD,Ak,AJ,Ax,AG,A,z,U,R,O]at t;simp[-List.getD_eq_getElem?_getD]at t;omega
 obtain⟨i,m,rfl,G,F,u⟩:=N;simp only[Az,Am,Ak,Ai,Av]at L;have hi:i<x.length:=by omega
 obtain⟨h1,h2,_⟩:=h _ (B5 x i (0,0,0,0,0) hi);obtain⟨p,hp⟩:=Int.eq_ofNat_of_zero_le h1;have J:p<32:=by omega
 have h2p:2^p<=2^31:=Nat.pow_le_pow_right (by omega) (by omega);have Y:(2:Nat)^31=2147483648:=by decide
 simp only[AJ,Ax,AG,hp];have D:=SO (a:=1) (k:=p) (by omega) (by omega);rw[show ((1:Nat):Int)=1 from rfl,Fo]at D;rw[D,XH (a:=m) (b:=2^p) (by omega) (by omega)];refine⟨⟨i+1,m ||| 2^p,by rw[Cp (by unfold Br;omega)];simp,by omega,?_,λq g=>?_⟩,by rw[Cp (by unfold Br;omega)];omega⟩
 ·have:=Nat.or_lt_two_pow (x:=m) (y:=2^p) (n:=32) (by omega) (by omega);simpa using this
 rw[Nat.testBit_or,B7]at g;rcases g with g|g
 ·obtain⟨j,C,e⟩:=u q g;exact⟨j,by omega,e⟩
 rw[Nat.testBit_two_pow]at g;have:p=q:=by simpa using g
 exact⟨i,by omega,by rw[hp,this]⟩
theorem ZeF{x:CI}(O:x.length<=1048576)(h:Ct x=true):x.Pairwise (λa b=>a.1≠b.1):=by
 have t:=RX O h;rw[Vz,Aw,Bq]at h;have z:=NC (c:=λx0:Int×Int=>(W_ (c_ x0.2 (U_ x)) (W_ (U' (w_ (c_ (So x (R_ x0.2) (0,0,0,0,0)).1 0) (w_ (iGt (So x (R_ x0.2) (0,0,0,0,0)).1 31) (w_ (g9 (Ei (x0.1,(So x (R_ x0.2) (0,0,0,0,0)).1)) 1) (U' (B4 ((So x (R_ x0.2) (0,0,0,0,0)).2.1,(So x (R_ x0.2) (0,0,0,0,0)).2.2.1,(So x (R_ x0.2) (0,0,0,0,0)).2.2.2.1,(So x (R_ x0.2) (0,0,0,0,0)).2.2.2.2))))))) (U' (w_ (g9 (So x (R_ x0.2) (0,0,0,0,0)).2.1 1) (w_ (g9 (So x (R_ x0.2) (0,0,0,0,0)).2.1 6) (g9 (So x (R_ x0.2) (0,0,0,0,0)).2.1 7)))))))
  (f:=λx0=>((iOr .i64 x0.1 (iShl .i64 1 (So x (R_ x0.2) (0,0,0,0,0)).1)),(V' .i64 x0.2 1)))
  (λst=>∃i m:Nat,st=((m:Int),(i:Int))/\i<=x.length/\m<4294967296/\(∀j,j<i->∀p:Nat,(x.getD j (0,0,0,0,0)).1=(p:Int)->m.testBit p=true)/\∀j k,j<k->k<i->(x.getD j (0,0,0,0,0)).1≠(x.getD k (0,0,0,0,0)).1) (λst=>x.length-st.2.toNat) (λst R G=>?_) (x0:=(0,0)) ⟨0,0,rfl,EE _,by omega,λj u=>absurd u (by omega),λj k _ s=>absurd s (by omega)⟩
 ·obtain⟨⟨i,m,M,L,J,C,A⟩,_⟩:=z;rw[M,Am,Ak,Bm]at h;simp only at h;have hi:i=x.length:=(by omega);subst hi;rw[List.pairwise_iff_getElem];intro j k u s g;have:=A j k g s;rwa [Hw x _ u,Hw x _ s]at this
 obtain⟨i,m,rfl,L,J,C,A⟩:=R;simp only[Az,Am (i:Int),Ak,Ai,Av]at G;obtain⟨c1,c2,_⟩:=G;have hi:i<x.length:=by omega
 obtain⟨h1,Z,_⟩:=t _ (B5 x i (0,0,0,0,0) hi);obtain⟨p,hp⟩:=Int.eq_ofNat_of_zero_le h1;have N:p<32:=by omega
 have Y:2^p<=2^31:=Nat.pow_le_pow_right (by omega) (by omega);have U:(2:Nat)^31=2147483648:=by decide
 simp only[AJ,Ax,AG,hp,Aw,Bl,Bq,Ce,BD,Bm]at c2;have D:m.testBit p=false:=by
  have:=c2.2.2.1;rw[lD m p (by omega) (by omega)]at this;cases D:m.testBit p with
  |false=>rfl
  |true=>rw[D]at this;exact absurd rfl this
 simp only[AJ,Ax,AG,hp];have I:=SO (a:=1) (k:=p) (by omega) (by omega);rw[show ((1:Nat):Int)=1 from rfl,Fo]at I;rw[I,XH (a:=m) (b:=2^p) (by omega) (by omega)];refine⟨⟨i+1,m ||| 2^p,by rw[Cp (by unfold Br;omega)];simp,by omega,?_,λj u q F=>?_,λj k g s=>?_⟩,by rw[Cp (by unfold Br;omega)];omega⟩
 ·have:=Nat.or_lt_two_pow (x:=m) (y:=2^p) (n:=32) (by omega) (by omega);simpa using this
 ·rw[Nat.testBit_or,B7];rcases Bx j i with h|h
  ·exact .inl (C j h q F)
  have:j=i:=(by omega);subst this;rw[hp]at F;have:p=q:=(by omega);right;rw[this,Nat.testBit_two_pow_self]
 rcases Bx k i with h|h
 ·exact A j k g h
 have:k=i:=by omega
 subst this;intro e;have:=C j g p (by rw[e];exact hp);rw[D]at this;cases this
theorem ZcX{x:CI}(g:x.length<=1048576):Ct x=true↔(∀a∈x,XT a)/\x.Pairwise (λa b=>a.1≠b.1):=⟨λh=>⟨RX g h,ZeF g h⟩,λh=>Zew g h.1 h.2⟩
theorem lV{x:CI}(s:x.length<=1048576)(h:Ct x=true):x.length<=32:=by
 obtain⟨h1,u⟩:=(ZcX s).1 h;have n:(x.map λa=>a.1.toNat).Nodup:=by
  rw[List.nodup_iff_pairwise_ne,List.pairwise_map];refine u.imp_of_mem λ{a b} g t i e=>i ?_;have:=(h1 a g).1;have:=(h1 b t).1;omega
 have hs:(x.map λa=>a.1.toNat) ⊆ List.range 32:=λq j=>by
  obtain⟨a,g,rfl⟩:=List.mem_map.1 j;have:=(h1 a g).1;have:=(h1 a g).2.1;rw[List.mem_range];omega
 have:=n.length_le_of_subset hs;simpa using this
theorem ZdI(k:Int)(x:Cv)(hs:Ej (k,x)):Vv (k,x)/\RE (k,x)=(k,x):=by
 rw[zy,Zac];obtain⟨g,b⟩:=bG (c:=UP (k,x)) (f:=UX (k,x)) (p:=Za (k,x)) x [] hs.1.1 (λi l=>by simp[UP,Am,Ak])
  (λi l _=>by simp[UX,B6,AJ,Ax]) (λi l hi j=>by
   simp only[Za,Am,Ak,Av];refine⟨λh=>?_,λ_=>trivial⟩;have e:So x (R_ (i:Int)) []=x.getD i []:=(by rw[AJ,Ax,AG]);have h1:(x.getD i []).length<=1048576:=(hs.1.2 _ (B5 x i [] (by omega))).1;have n:x.length<=1048576:=hs.1.1;rw[e];refine⟨⟨by omega,h⟩,by rw[Ax];omega,by unfold AD;simp only[A8];omega,by unfold AD;simp only[A0,A8];omega⟩)
 exact⟨g,by rw[b]⟩
theorem Za5(k:Int)(x:Cv)(hs:Ej (k,x)):Ut (k,x)/\Q3 (k,x)=(k,x):=by
 rw[rO,sw];obtain⟨g,b⟩:=bG (c:=T6 (k,x)) (f:=T4 (k,x)) (p:=YC (k,x)) x [] hs.1.1 (λi l=>by simp[T6,Am,Ak])
  (λi l _=>by simp[T4,B6,AJ,Ax]) (λi l hi j=>by
   simp only[YC,Am,Ak,Av];refine⟨λh=>?_,λ_=>trivial⟩;have e:So x (R_ (i:Int)) []=x.getD i []:=(by rw[AJ,Ax,AG]);have h1:(x.getD i []).length<=1048576:=(hs.1.2 _ (B5 x i [] (by omega))).1;have n:x.length<=1048576:=hs.1.1;rw[e];refine⟨⟨by omega,h⟩,by rw[Ax];omega,by unfold AD;omega,by unfold AD;simp only[A0,A8];omega⟩)
 exact⟨g,by rw[b]⟩
theorem ZP(x:B1):GJ x=D6 x:=by
 rw[vj,Y8,G0,G0];have b:∀(i a n:Int) (A B:Bool),U' (w_ A (Y_ (g9 a 1) (w_ (g9 i 0) B) B))=U' (w_ A (Y_ (g9 i 0) (w_ (g9 a 1) B) B)):=by
  intro i a n A B;simp only[Aw,Bl,BN,BD];by_cases h1:a=1<;>by_cases g:i=0<;>simp[h1,g]
 simp only[NA,λi a A B=>b i a 0 A B];generalize U' (c_ (Al _ _ _) (U_ x.2))=L;rw[JS];simp only[Az,Aw,Bl,Am,D3,Ak,Ai,B7,Bq,BZ,F0,Ce,Av,Bm,Gr,Jb,A7,JF];cases L<;>simp<;>omega
theorem iw(x:B1)(h:Ej x):Rc x/\Rj x:=by
 obtain⟨k,x⟩:=x;have h:Mi x:=h.1;rw[wM,wq];have s:∀i:Int,0<=i->i<x.length->(So x (R_ i) []).length<=1048576:=λi h0 hi=>by
  rw[AJ,Ax];exact(h.2 _ (B5 x i.toNat [] (by omega))).1
 refine⟨⟨?_,λ_=>trivial,λ_=>⟨Qc _,λ_=>Qc _,λ_=>trivial⟩⟩,λ_=>trivial,λ_=>?_⟩;all_goals
  refine JI (λst=>st) x.length (by have:=h.1;omega) (λst _ _ q=>?_) (λst=>rfl) (λst h0 h1=>?_) (by simp) (by simp)
  ·rw[Az,Am st,Ak,Ai,Av]at q;exact q.1
  refine⟨λn=>?_,λ_=>trivial⟩;rw[Am,Ak,Av]at n;have n:st<(x.length:Int):=n;have t:R_ st<x.length:=(by rw[Ax];omega);have z:=s st h0 n;refine⟨⟨h0,n⟩,t,λ_=>trivial,λ_=>?_⟩;refine JI (λst=>st) (So x (R_ st) []).length (by omega) (λj _ _ q=>?_) (λst=>rfl) (λj u y=>?_) (by simp) (by simp)
  ·rw[Az,Am j,Ak,Ai,Av]at q;exact q.1
  have b:c_ j (U_ (So x (R_ st) []))=true->j<((So x (R_ st) []).length:Int)/\R_ j<(So x (R_ st) []).length:=λg=>by
   rw[Am,Ak,Av]at g;exact⟨g,by rw[Ax];omega⟩
  first
   |exact⟨⟨h0,n⟩,t,λg=>⟨⟨h0,n⟩,t,⟨u,(b g).1⟩,(b g).2,Up _⟩,λ_=>trivial⟩
   |exact⟨λg=>⟨⟨u,(b g).1⟩,(b g).2,QX _⟩,λ_=>trivial⟩
theorem Zbs{k:Int}{x:List Dp}(h:CT.wf (.sl (.one (.sl AB))) x):WC (k,x):=by
 exact⟨⟨h.1,λl b=>⟨(h.2 l b).1,λa _=>by simp[Wt]⟩⟩,trivial⟩
structure MapOk (k:Int) (x:Cv):Prop where
 k1:1<=k
 k2:k<=32
 l1:1<=x.length
 l2:x.length<=4
 row:∀i:Nat,i<x.length->((x.getD i []).length:Int)=k
 act:∀i j:Nat,i<x.length->j<(x.getD i []).length->B4 ((x.getD i []).getD j (0,0,0,0))=true/\(i=0->((x.getD i []).getD j (0,0,0,0)).1≠1)/\(((x.getD i []).getD j (0,0,0,0)).1≠9->((x.getD i []).getD j (0,0,0,0)).2.2.2<x.length)
theorem Ht{k:Int}{x:List Dp}(hs:Ej (k,x))(h:D6 (k,x)=true):MapOk k x:=by
 rw[Y8,Az,Ai]at h;obtain⟨h1,z⟩:=h;simp only[Aw,Bl,Am,D3,Ak,Ai,B7,Bq,BZ,F0,Ce,Av,Bm,Gr,Jb,A7,JF]at h1;rw[Aw,Bq,Am _ (U_ _),Ak,Bm]at z;have hs:Mi x:=hs.1;have u:=mD z (by show (x.length:Int)<=_;omega) (λi hi g=>by
  rw[Az,Am (i:Int),Ak,Ai,Av]at g;have:=g.1;show i<x.length;simp only at this;omega) (λi hi=>rfl)
 have q:∀i:Nat,i<x.length->((x.getD i []).length:Int)=k/\∀j:Nat,j<(x.getD i []).length->B4 ((x.getD i []).getD j (0,0,0,0))=true/\(i=0->((x.getD i []).getD j (0,0,0,0)).1≠1)/\(((x.getD i []).getD j (0,0,0,0)).1≠9->((x.getD i []).getD j (0,0,0,0)).2.2.2<x.length):=by
  intro i hi;have g:=u i hi;rw[Az,Az,Ai,Ai]at g;obtain⟨_,A,c2⟩:=g;simp only[Aw,Bj,Ak,AJ,Ax,AG,I7,Av]at A;rw[Aw,Bq,Am _ (U_ _),Ak,Bm]at c2;have D:=(hs.2 _ (B5 x i [] hi)).1;have n:(So x (R_ (i:Int)) [])=x.getD i []:=(by rw[AJ,Ax,AG]);have t:=mD c2 (by show ((So x (R_ (i:Int)) []).length:Int)<=_;rw[n];omega) (λj s g=>by
   simp only[Az,Am,Ak,Ai,Av]at g;have:=g.1;show j<(So x (R_ (i:Int)) []).length;omega) (λj s=>rfl)
  refine⟨A,λj s=>?_⟩;have g:=t j (by show j<(So x (R_ (i:Int)) []).length;rw[n];exact s);simp only[n]at g;simp only[Az,Aw,Bl,BN,BD,Bj,CK,Ak,AJ,Ax,AG,Ai,Bq,Ce,BZ]at g;obtain⟨_,d1,b⟩:=g;refine⟨d1,λC=>?_,λy=>?_⟩
  ·subst C;simp only[Int.ofNat_zero,MN,decide_true,AS,Ce,Bm]at b;exact b.1
  split at b
  ·simp only[Ce,F0,Bm,BZ,Av]at b;rcases b.2 with b|b
   ·exact absurd b y
   omega
  simp only[F0,Bm,BZ,Av]at b;rcases b with b|b
  ·exact absurd b y
  omega
 exact⟨by omega,by omega,by omega,by omega,λi hi=>(q i hi).1,λi j hi s=>(q i hi).2 j s⟩
theorem jq(k:Int)(x:Cv)(on b:Int)(hs:Ej (k,x)):FH ((k,x),on,b)=BW ((k,x),on,b):=by
 rw[xT,BW.eq_1,Zp];simp only[ZP,V9,G0];cases h:D6 (k,x)with
 |false=>simp only[Aw,Bl];simp[BN]
 | true=>
   have m:=Ht hs h;rw[Fl (by unfold Br;have:=m.k1;have:=m.k2;omega)];have:w_ (U' true) (U' (decide (0<=b)&&decide (b<=k-1)))=w_ (U' true) (w_ (c_ b 0) (iGe b k)):=by
    rw[JS];simp only[Aw,Bl,Am,CK,Ai,B7,Bq,BZ,F0,Ce,Av,Bm,Gr,Jb,A7,JF];simp;omega
   rw[this]
theorem jx(k:Int)(x:Cv)(on b:Int)(hs:Ej (k,x)):Vm ((k,x),on,b)/\Vn ((k,x),on,b):=by
 obtain⟨F,D⟩:=iw (k,x) hs;have i:∀ {c:Int->Bool} {f:Int->Int} {p:Int->Prop},D6 (k,x)=true->(∀st,c st=true->0<st)->(∀st,f st=iSub .i64 st 1)->(∀st:Int,0<=st->st<x.length->p st)->Z_ c f p (iSub .i64 (U_ x) 1):=by
  intro c f p h n G hp;have m:=Ht hs h;have:=m.l1;have:=m.l2;rw[Ak,Fl (by unfold Br;omega)];refine(Mu (λst:Int=>0<=st/\st<x.length) (λst=>st.toNat) (λst C=>⟨hp st C.1 C.2,λu=>?_⟩) (by omega)).1;have:=n st u;rw[G,Fl (by unfold Br;omega)];omega
 have j:D6 (k,x)=true->0<=b->b<k->∀st:Int,0<=st->st<x.length->R_ st<x.length/\b<((So x (R_ st) []).length:Int)/\R_ b<(So x (R_ st) []).length:=by
  intro h h0 h1 st g q;have m:=Ht hs h;have:=m.row st.toNat (by omega);rw[AJ,Ax,Ax];omega
 rw[yj,Vn.eq_1];simp only[ZP];refine⟨⟨⟨F,λ_=>trivial,λ_=>Qc _⟩,λ_=>trivial,λs=>?_⟩,D,λ_=>trivial,λs=>?_⟩
 ·simp only[G0,Aw,Bl,Ce,BZ,Ai,Av]at s;obtain⟨h,h0,h1⟩:=s;have m:=Ht hs h;rw[Fl (by unfold Br;have:=m.k1;have:=m.k2;omega)]at h1;refine i h (λst n=>?_) (λst=>rfl) (λst g q=>?_)
  ·rw[Az,D3,Ai,Av]at n;exact n.1
  obtain⟨A,z,y⟩:=j h h0 (by omega) st g q;exact⟨λ_=>⟨g,λ_=>⟨⟨g,q⟩,A,⟨h0,z⟩,y⟩,λ_=>trivial⟩,λ_=>trivial⟩
 simp only[Am,CK,Aw,Bl,Ce,BZ,Bm]at s;obtain⟨h,h0,h1⟩:=s;have t:0<=b:=Int.not_lt.mp h0;rw[xe];refine i h (λst n=>?_) (λst=>rfl) (λst g q=>?_)
 ·rw[Az,D3,Ai,Av]at n;exact n.1
 obtain⟨A,z,y⟩:=j h (by omega) (by omega) st g q;exact⟨λ_=>⟨by rw[je];exact g,λ_=>⟨⟨g,q⟩,A,⟨t,z⟩,y⟩,λ_=>trivial⟩,λ_=>trivial⟩
def BB(h:Dc):Int×Int:=(h.2.2.1,h.2.2.2.1)
theorem kl(b:Bg)(i:Nat):(b.map BB).getD i (0,0)=BB (b.getD i (0,0,0,0,0)):=by
 rw[CQ,CQ,HI];cases b[i]?<;>rfl
theorem Ziy{c:Int->Bool}{f:Int->Int}(n:Int)(h0:0<=n)(i:n<=9223372036854775806)(g:∀st:Int,c st=true->st<n)(b:∀st,f st=V' .i64 st 1):0<=Al c f 0:=
 (NC (λst=>0<=st/\st<=n) (λst=>(n-st).toNat) (λst j h=>by
  have:=g st h;rw[b,Cp (by constructor<;>omega)];exact⟨by omega,by omega⟩) ⟨by omega,h0⟩).1.1
theorem Qb(b:Bg)(k c m:Int):CG (b,k,c,m)=Bp (b.map BB,c,m):=by
 rw[zJ,Zv];simp only[AJ,kl,Ak,Bd,BB]
theorem WW(b:OC)(q:Ar)(h:b.length<=1048576):Bp (b,q)=-1\/(0<=Bp (b,q)/\Bp (b,q)<b.length):=by
 rw[Zv,BN,Am,Ak];split
 ·rename_i i;rw[Av]at i;refine .inr ⟨Ziy b.length (by omega) (by omega) (λst g=>?_) (λ_=>rfl),i⟩;rw[Az,Am,Ai,Av]at g;exact g.1
 exact .inl rfl
theorem cf(g:Bg)(q:Dr)(h:g.length<=1048576):Nu (g,q):=by
 rw[yH];refine JI (λst=>st) g.length (by omega) (λst _ _ h=>?_) (λ_=>rfl) (λst h0 h1=>⟨λi=>?_,λ_=>trivial⟩) (by simp) (by simp)
 ·rw[Az,Am,Ak,Ai,Av]at h;exact h.1
 rw[Am,Ak,Av]at i;have a:(0:Int)<=st/\st<(g.length:Int):=⟨h0,i⟩;have b:R_ st<g.length:=by rw[Ax];omega
 exact⟨a,b,λ_=>⟨a,b⟩,λ_=>trivial⟩
theorem mW(b:OC)(q:Ar)(h:b.length<=1048576):Pv (b,q):=by
 rw[yR];refine JI (λst=>st) b.length (by omega) (λst _ _ h=>?_) (λ_=>rfl) (λst h0 h1=>⟨λg=>?_,λ_=>trivial⟩) (by simp) (by simp)
 ·rw[Az,Am,Ak,Ai,Av]at h;exact h.1
 rw[Am,Ak,Av]at g;exact⟨⟨h0,g⟩,by rw[Ax];omega⟩
theorem jn(b:Bg)(p:Int)(h0:0<=p)(h1:p<b.length):(ER (b,p)).map BB=i9 (lTake (b.map BB) (lN (lSub (b.map BB) 0 (R_ p)))) (lSub (b.map BB) (R_ (V' .i64 p 1)) (lN (b.map BB))):=by
 have hm:min p.toNat b.length=p.toNat:=by omega
 rw[UE];simp only[B6,aY,LF,Lo,Ax,IZ,Qa,Db,FT,XK,List.map_drop,Bd,CJ,hm]
theorem jf(b:Bg)(p:Int)(h0:0<=p)(h1:p<b.length)(h:b.length<=1048576):(ER (b,p)).length<=b.length:=by
 rw[UE];simp only[B6,LF,Lo,Ax,IZ,Qa,Db,Qo,CO,CJ];rw[Cp (by constructor<;>omega)];omega
theorem aX(K p:Int)(A:Bool):U' (w_ (U' (BM (K,0,2))) (w_ (U' A) (U' (bIff (g9 K 2) (iGe p 0)))))=
 W_ (U' (U' A)) (Y_ (w_ (g9 K 0) (g9 K 1)) (U' (iGe p 0)) (W_ (g9 K 2) (U' (c_ p 0)))):=by
 have hp:decide (p<0)=!decide (0<=p):=by simp only[<- decide_not,Int.not_le]
 rw[ZE];simp only[Az,Aw,Bl,EF,BN,BD,CK,E2,Am,hp];generalize decide (0<=p)=P;have h:K=0\/K=1\/K=2\/(¬(0<=K/\K<=2)):=by omega
 rcases h with h|h|h|h
 ·subst h;cases A<;>cases P<;>decide
 ·subst h;cases A<;>cases P<;>decide
 ·subst h;cases A<;>cases P<;>decide
 have j:K≠0:=by omega
 have i:K≠1:=by omega
 have g:K≠2:=by omega
 have b:(decide (0<=K)&&decide (K<=2))=false:=by rw[<- Bool.decide_and];exact Dl h
 simp only[b,j,i,g,decide_false];cases A<;>rfl
theorem Zfn {l:List Dr} {cs:List Dc×Int->Bool} {fs} {x:List Ar×Int->Bool} {fi}
 (h:∀(g:Bg) (i:Int),0<=i->i<=l.length->g.length<=i->cs (g,i)=x (g.map BB,i)/\(cs (g,i)=true->i<l.length/\∃q:List Dc,fs (g,i)=(q,i+1)/\fi (g.map BB,i)=(q.map BB,i+1)/\q.length<=i+1)):
 W_ (U' (c_ (Al cs fs ([],0)).2 (U_ l))) (W_ (iLe (U_ l) 8) (g9 (U_ (Al cs fs ([],0)).1) 0))=
 W_ (U' (iGt (U_ l) 8)) (W_ (U' (c_ (Al x fi ([],0)).2 (U_ l))) (g9 (U_ (Al x fi ([],0)).1) 0)):=by
 have go:∀(n:Nat) (g:Bg) (i:Int),0<=i->i<=l.length->g.length<=i->(l.length-i).toNat<n ->
  ∃(s:Bg) (j:Int),LoopTo cs fs (λ_=>True) (g,i) (s,j)/\LoopTo x fi (λ_=>True) (g.map BB,i) (s.map BB,j):=by
  intro n;induction n with
  |zero=>intro _ _ _ _ _ hm;exact absurd hm (Oc _)
  | succ n ih=>
    intro g i h0 h1 y hm;obtain⟨a,b⟩:=h g i h0 h1 y;cases t:cs (g,i)with
    |false=>exact⟨g,i,.stop trivial t,.stop trivial (by rw[<- a,t])⟩
    | true=>
      obtain⟨C,q,c2,A,z⟩:=b t;obtain⟨s,j,d1,u⟩:=ih q (i+1) (by omega) (by omega) z (by omega);exact⟨s,j,.go trivial t (by rw[c2];exact d1),.go trivial (by rw[<- a,t]) (by rw[A];exact u)⟩
 obtain⟨s,j,d1,u⟩:=go _ [] 0 (by omega) (by omega) (by simp) (S0 _);have u:LoopTo x fi (λ_=>True) ([],0) (s.map BB,j):=u;rw[d1.val,u.val];simp only[Az,Aw,E2,D3,Ak,Bd,<- decide_not,Int.not_lt];exact Bool.and_left_comm ..
theorem au (b:Bg) (K c m p i:Int) (t:Bool) (n:Int) (hp:p=-1\/(0<=p/\p<b.length)) (hd:b.length<=i) (hi:i<n) (s:n<=1048576)
 (g:Y_ (w_ (g9 K 0) (g9 K 1)) (U' (iGe p 0)) (W_ (g9 K 2) (U' (c_ p 0)))=true):
 Y_ (w_ (g9 K 0) (g9 K 1)) (Y_ (g9 K 1) (i9 (b.map BB) [(c,m)]) (b.map BB)) (i9 (lTake (b.map BB) (lN (lSub (b.map BB) 0 (R_ p)))) (lSub (b.map BB) (R_ (V' .i64 p 1)) (lN (b.map BB))))=
  (Y_ (g9 K 1) (i9 b [(0,2,c,m,0)]) (Y_ (g9 K 2) (ER (b,p)) b)).map BB /\
 ((Y_ (g9 K 1) (i9 b [(0,2,c,m,0)]) (Y_ (g9 K 2) (ER (b,p)) b)).length:Int)<=i+1:=by
 simp only[BN,Bl,Az,Aw,BD,CK,Am,B7,Av]at g ⊢;by_cases j:K=1
 ·subst j;simp[B6,BB];omega
 by_cases q:K=0
 ·subst q;simp;omega
 simp only[q,j,or_self,A3,Ai,Av,Bq,Bm]at g ⊢;have h0:0<=p:=by omega
 have h1:p<b.length:=by omega
 rw[Ac g.1];refine⟨(jn b p h0 h1).symm,?_⟩;have:=jf b p h0 h1 (by omega);omega
theorem ju(x:Cj)(h:x.length<=1048576):GL x=Iq x:=by
 rw[gB,xl];refine Zfn (λq i h0 h1 z=>?_);have j:=WW (q.map BB) ((So x (R_ i) (0,0,0)).2.1,(So x (R_ i) (0,0,0)).2.2) (by rw[Bd];omega);rw[Bd]at j;simp only[Qb,NA,Q9,aX];generalize Bp (q.map BB,(So x (R_ i) (0,0,0)).2.1,(So x (R_ i) (0,0,0)).2.2)=p at j ⊢;refine⟨trivial,λs=>?_⟩;rw[Az,Az,Am,Ak,Ai,Ai,Av]at s;obtain⟨g,y,n⟩:=s;obtain⟨u,t⟩:=au q (So x (R_ i) (0,0,0)).1 (So x (R_ i) (0,0,0)).2.1 (So x (R_ i) (0,0,0)).2.2 p i true x.length j z g (by omega) n;rw[Cp (a:=i) (b:=1) (by constructor<;>omega)];exact⟨g,_,rfl,by rw[u],t⟩
theorem NP{k w:Nat}(h:k<=1048577)(b:w<=1000):AD (k*w):=by
 unfold AD;exact CV (Nat.mul_le_mul h b) (by decide)
theorem ZY(g:Bg)(p:Int)(h0:0<=p)(h1:p<g.length)(h:g.length<=1048576):O9 (g,p):=by
 rw[tw,Cp (a:=p) (b:=1) (by constructor<;>omega)];simp only[Ax,LF,B6,Lo,IZ,Qa,Db,Qo,CO,A8,CJ];refine⟨⟨h0,by omega,by omega,by omega⟩,⟨by omega,by omega,by omega,by omega⟩,NP (by omega) (by omega),NP (by omega) (by omega)⟩
theorem hZ(x:Cj)(h:x.length<=1048576):Pu x:=by
 rw[yz];refine(Mu (λst:List Dc×Int=>0<=st.2/\st.2<=(x.length:Int)/\(st.1.length:Int)<=st.2) (λst=>((x.length:Int)-st.2).toNat) (λst I=>?_) ⟨by simp,by simp,by simp⟩).1;obtain⟨j,i⟩:=st;obtain⟨y,D,u⟩:=I;simp only at y D u;have n:=WW (j.map BB) ((So x (R_ i) (0,0,0)).2.1,(So x (R_ i) (0,0,0)).2.2) (by rw[Bd];omega);rw[Bd]at n;have F:=cf j ((So x (R_ i) (0,0,0)).1,(So x (R_ i) (0,0,0)).2.1,(So x (R_ i) (0,0,0)).2.2) (by omega);simp only[Qb,NA,Q9,aX,Up,gp,PG];generalize Bp (j.map BB,(So x (R_ i) (0,0,0)).2.1,(So x (R_ i) (0,0,0)).2.2)=p at n ⊢;refine⟨⟨λz=>?_,λ_=>trivial⟩,λg=>?_⟩
 ·rw[Am,Ak,Av]at z;refine⟨⟨y,z⟩,by rw[Ax];omega,F,⟨trivial,λ_=>trivial,λ_=>⟨trivial,trivial⟩⟩,λ_=>trivial,λg=>⟨λ_=>⟨trivial,NP (by simp only[A0,A8];omega) (by omega)⟩,λC=>⟨λt=>?_,λ_=>trivial⟩⟩⟩;have g:=congrArg U' g;rw[aX]at g;simp only[BN,Bl,Az,Aw,BD,CK,Am,Av]at g C t;simp[t]at g;exact ZY j p (by omega) (by omega) (by omega)
 rw[Az,Az,Am,Ak,Ai,Ai,Av]at g;obtain⟨s,G,q⟩:=g;obtain⟨J,A⟩:=au j (So x (R_ i) (0,0,0)).1 (So x (R_ i) (0,0,0)).2.1 (So x (R_ i) (0,0,0)).2.2 p i true x.length n u s (by omega) q;rw[Cp (a:=i) (b:=1) (by constructor<;>omega)];exact⟨⟨by show 0<=i+1;omega,by show i+1<=_;omega,A⟩,by show (_-(i+1)).toNat<_;omega⟩
theorem gR(x:Cj)(h:x.length<=1048576):Pp x:=by
 rw[yi];refine⟨λ_=>trivial,λ_=>?_⟩;refine(Mu (λst:List Ar×Int=>0<=st.2/\st.2<=(x.length:Int)/\∃g:List Dc,st.1=g.map BB/\(g.length:Int)<=st.2) (λst=>((x.length:Int)-st.2).toNat) (λst G=>?_) ⟨by simp,by simp,[],rfl,by simp⟩).1;obtain⟨I,i⟩:=st;obtain⟨t,C,g,rfl,s⟩:=G;simp only at t C s;have j:=WW (g.map BB) ((So x (R_ i) (0,0,0)).2.1,(So x (R_ i) (0,0,0)).2.2) (by rw[Bd];omega);have D:=mW (g.map BB) ((So x (R_ i) (0,0,0)).2.1,(So x (R_ i) (0,0,0)).2.2) (by rw[Bd];omega);rw[Bd]at j;simp only[QX];generalize Bp (g.map BB,(So x (R_ i) (0,0,0)).2.1,(So x (R_ i) (0,0,0)).2.2)=p at j ⊢;refine⟨⟨λy=>?_,λ_=>trivial⟩,λu=>?_⟩
 ·rw[Am,Ak,Av]at y;refine⟨⟨t,y⟩,by rw[Ax];omega,D,trivial,λ_=>trivial,λ_=>⟨λ_=>⟨λ_=>trivial,λ_=>⟨λ_=>NP (by simp only[Bd,A0,A8];omega) (by omega),λ_=>trivial⟩⟩,λ_=>⟨λ_=>⟨λ_=>trivial,λhp=>?_⟩,λ_=>trivial⟩⟩⟩;rw[Am,Bm]at hp;have h0:0<=p:=(by omega);have h1:p<g.length:=(by omega);rw[Cp (a:=p) (b:=1) (by constructor<;>omega)];simp only[Ax,LF,Lo,IZ,Qa,Db,Qo,Bd];exact⟨⟨h0,by omega,by omega,by omega⟩,⟨by omega,by omega,by omega,by omega⟩,by omega,by omega,NP (by omega) (by omega)⟩
 rw[Az,Az,Am,Ak,Ai,Ai,Av]at u;obtain⟨q,F,n⟩:=u;obtain⟨A,z⟩:=au g (So x (R_ i) (0,0,0)).1 (So x (R_ i) (0,0,0)).2.1 (So x (R_ i) (0,0,0)).2.2 p i true x.length j s q (by omega) n;rw[Cp (a:=i) (b:=1) (by constructor<;>omega)];exact⟨⟨by show 0<=i+1;omega,by show i+1<=_;omega,_,A,z⟩,by show (_-(i+1)).toNat<_;omega⟩
abbrev DU:=Int×Cv×CA×Int×Bg×Int×Bool
theorem lR{c c':Int->Bool}{f:Int->Int}{p q:Int->Prop}(n:Nat)(J:n<=1048576)(z:∀i:Nat,i<n->c i=c' i)(t:∀i:Nat,c i=true->i<n)(j:∀i:Nat,c' i=true->i<n)(u:∀i,f i=V' .i64 i 1)(hp:∀i:Nat,i<=n->p i/\q i):Z_ c f p 0/\Z_ c' f q 0/\Al c f 0=Al c' f 0/\0<=Al c f 0/\Al c f 0<=n:=by
 obtain⟨I,G,⟨k,h1,C,A⟩,L⟩:=bg (c:=c) (f:=f) (p:=p) (d:=c') (g:=f) (q:=q) (x0:=0) (y0:=0) (λx y=>∃k:Nat,k<=n/\x=k/\y=k) (λx=>n-x.toNat) (by
  rintro x y ⟨k,s,rfl,rfl⟩;refine⟨(hp k s).1,(hp k s).2,?_,λh=>?_⟩
  ·by_cases b:k<n
   ·exact z k b
   have F:c (k:Int)=false:=by cases h:c (k:Int)with
    |false=>rfl
    |true=>exact absurd (t k h) b
   have D:c' (k:Int)=false:=by cases h:c' (k:Int)with
    |false=>rfl
    |true=>exact absurd (j k h) b
   rw[F,D]
  have b:=t k h;have e:f (k:Int)=((k+1:Nat):Int):=(by rw[u,Cp (by unfold Br;omega)];omega);exact⟨⟨k+1,b,e,e⟩,by rw[e];omega⟩) ⟨0,by omega,rfl,rfl⟩
 exact⟨I,G,by rw[C,A],by omega,by omega⟩
theorem iT(x:DU)(hs:DG x):UL x/\U0 x/\FD x=Mc x:=by
 obtain⟨n,b,g,s,j,t,u⟩:=x;have J:Ej (n,b):=hs.1;have hm:JA g:=hs.2.1;have z:Lm j:=hs.2.2.1;obtain⟨a1,a2⟩:=iw (n,b) J;have l1:=lR (c:=Nl (n,b,g,s,j,t,u)) (c':=J9 (n,b,g,s,j,t,u)) (f:=Ia) (p:=YK (n,b,g,s,j,t,u)) (q:=YH (n,b,g,s,j,t,u)) g.length hm.1
  (λi hi=>by
   simp only[Nl,J9];rw[AJ,Ax,AG,ju _ (hm.2 _ (B5 g i [] hi)).1])
  (λi h=>by simp only[Nl,Az,Ai,Am,Ak,Av]at h;omega)
  (λi h=>by simp only[J9,Az,Ai,Am,Ak,Av]at h;omega) (λi=>rfl)
  (λi hi=>by
   have k:(i:Int)<g.length->Pu (So g (R_ (i:Int)) [])/\Pp (So g (R_ (i:Int)) []):=λh=>by
    rw[AJ,Ax,AG];have:=(hm.2 _ (B5 g i [] (by omega))).1;exact⟨hZ _ this,gR _ this⟩
   simp only[YK,YH,Am,Ak,Av];refine⟨⟨λh=>⟨⟨by omega,h⟩,by rw[Ax];omega,(k h).1⟩,λ_=>trivial⟩,⟨λh=>⟨⟨by omega,h⟩,by rw[Ax];omega,(k h).2⟩,λ_=>trivial⟩⟩)
 have l2:=lR (c:=O4 (n,b,g,s,j,t,u)) (c':=L3 (n,b,g,s,j,t,u)) (f:=Ia) (p:=YN (n,b,g,s,j,t,u)) (q:=YG (n,b,g,s,j,t,u)) j.length z.1
  (λi hi=>rfl)
  (λi h=>by simp only[O4,Az,Ai,Am,Ak,Av]at h;omega)
  (λi h=>by simp only[L3,Az,Ai,Am,Ak,Av]at h;omega) (λi=>rfl)
  (λi hi=>by
   simp only[YN,YG,Am,Ak,Av];have k:(i:Int)<j.length->R_ (i:Int)<j.length:=λh=>(by rw[Ax];omega);refine⟨⟨λh=>⟨⟨by omega,h⟩,k h,λ_=>trivial,λ_=>⟨⟨by omega,h⟩,k h,λ_=>⟨⟨by omega,h⟩,k h⟩,λ_=>trivial⟩⟩,λ_=>trivial⟩,⟨λh=>⟨⟨by omega,h⟩,k h⟩,λ_=>trivial⟩⟩)
 have ef:H7=Ia:=rfl;rw[uT,wE,uP,gg,ef];obtain⟨p1,p2,Z,_⟩:=l1;obtain⟨Y,U,R,_⟩:=l2;simp only[<- Z,<- R,ZP,PR];have I:(0:Int)<=U_ b:=by rw[Ak];omega
 refine⟨?_,?_,?_⟩
 ·simp only[a1,US j z.1,Qc,p1,Y,I];simp
 ·simp only[a2,UZ j z.1,p2,U,I];simp
 cases hv:D6 (n,b)with
 |false=>simp[Bl,Aw,Az]
 | true=>
   have hm:=Ht J hv;have O:iShl .i64 1 (U_ b)=((2^b.length:Nat):Int):=by
    have N:2^b.length<=2^4:=Nat.pow_le_pow_right (by omega) hm.l2;rw[Ak];have:=SO (a:=1) (k:=b.length) (by have:=hm.l2;omega) (by omega);rw[Fo]at this;exact this
   have N:2^b.length<=2^4:=Nat.pow_le_pow_right (by omega) hm.l2;generalize (2^b.length:Nat)=M at O N;have e2:iSub .i64 (M:Int) 1=(M:Int)-1:=Fl (by unfold Br;omega);rw[O,e2,G0,G0];generalize c_ (Al _ _ _) (U_ g)=A;generalize c_ (Al _ _ _) (U_ j)=B;rw[JS];simp only[Bl,Aw,Az,D3,Am,CK,BD,Ai,Ce,Bq,Av,Bm,Gp];constructor
   ·rintro⟨⟨_,h1,G,h4,h5⟩,F,D,C,L,y⟩;exact⟨⟨trivial,h1,G⟩,F,D,⟨C,by omega⟩,L,by omega,by omega⟩
   rintro⟨⟨_,h1,G⟩,F,D,⟨C,L⟩,y,h11,h12⟩;exact⟨⟨trivial,h1,G,by omega,by omega⟩,F,D,C,y,by omega⟩
theorem ZaU(x:CA)(hs:JA x):Un x/\UH x=x:=by
 rw[rC,sm];obtain⟨g,b⟩:=ZdA (c:=T8 x) (f:=T7 x) (p:=YB x) x [] hs.1 (λi l=>by simp[T8,Am,Ak])
  (λi l _=>by simp[T7,B6,AJ,Ax]) (λi l hi j=>by
   simp only[YB,Am,Ak,Av];refine⟨λh=>?_,λ_=>trivial⟩;have e:So x (R_ (i:Int)) []=x.getD i []:=(by rw[AJ,Ax,AG]);have:=(hs.2 _ (B5 x i [] (by omega))).1;have:=hs.1;rw[e];refine⟨⟨by omega,h⟩,by rw[Ax];omega,by unfold AD;omega,by unfold AD;simp only[A0,A8];omega⟩)
 exact⟨g,by rw[b]⟩
theorem Zem(x:DU)(hs:DG x):VA x/\RG x=x:=by
 obtain⟨n,g,b,j,q,s,t⟩:=x;have hm:JA b:=hs.2.1;have y:Lm q:=hs.2.2.1;obtain⟨z,c2⟩:=ZdI n g hs.1;rw[zQ,yG];obtain⟨C,A⟩:=bG (c:=U3 (n,g,b,j,q,s,t)) (f:=UU (n,g,b,j,q,s,t)) (p:=Zh (n,g,b,j,q,s,t)) b [] hm.1 (λi l=>by simp[U3,Am,Ak])
  (λi l _=>by simp[UU,B6,AJ,Ax]) (λi l hi u=>by
   simp only[Zh,Am,Ak,Av];refine⟨λh=>?_,λ_=>trivial⟩;have e:So b (R_ (i:Int)) []=b.getD i []:=(by rw[AJ,Ax,AG]);have:=(hm.2 _ (B5 b i [] (by omega))).1;have:=hm.1;rw[e];refine⟨⟨by omega,h⟩,by rw[Ax];omega,by unfold AD;simp only[A8];omega,by unfold AD;simp only[A0,A8];omega⟩)
 have u:=y.1;refine⟨⟨z,C,by unfold AD;simp only[A8];omega⟩,?_⟩;rw[A];simp only[c2,B6,CJ]
theorem Z8 (x):PD x=FJ x:=by rw[zv,yU]
theorem kQ(x:LN)(h:x.1.2.2.2.2.1.length<=1048576):VB x/\VE x:=by
 rw[y6,ze];have:∀ {c:Int->Bool} {f:Int->Int} {p:Int->Prop},(∀st,c st=true->st<x.1.2.2.2.2.1.length)->(∀st,f st=V' .i64 st 1)->(∀st:Int,0<=st->st<=x.1.2.2.2.2.1.length->p st)->Z_ c f p 0:=λb i hp=>
  JI (λst=>st) x.1.2.2.2.2.1.length (by omega) (λst _ _ h=>b st h) i hp (by simp) (by simp)
 constructor;all_goals
  refine this (λst b=>?_) (λ_=>rfl) (λst h0 h1=>⟨λg=>?_,λ_=>trivial⟩)
  ·rw[Az,Am,Ak,Ai,Av]at b;exact b.1
  rw[Am,Ak,Av]at g;exact⟨⟨h0,g⟩,by rw[Ax];omega⟩
theorem Zbh{x:List Cj}(h:CT.wf (.sl (.one (.sl AQ))) x):aG x:=by
 exact⟨h.1,λl b=>⟨(h.2 l b).1,λa _=>by simp[nN]⟩⟩
theorem na{a b:List Int}(s:a.Pairwise (· < ·))(q:b.Pairwise (· < ·))(h:∀x,x∈a↔x∈b):a=b:=by
 induction a generalizing b with
 | nil=>
   cases b with
   |nil=>rfl
   |cons y b=>exact absurd ((h y).2 G6) List.not_mem_nil
 | cons x a ih=>
   cases b with
   |nil=>exact absurd ((h x).1 G6) List.not_mem_nil
   | cons y b=>
     obtain⟨n,u⟩:=List.pairwise_cons.1 s;obtain⟨j,t⟩:=List.pairwise_cons.1 q;have e:x=y:=by
      rcases Cu.1 ((h x).1 G6)with e|e
      ·exact e
      rcases Cu.1 ((h y).2 G6)with g|g
      ·exact g.symm
      have:=n _ g;have:=j _ e;omega
     subst e;congr 1;refine ih u t λz=>⟨λi=>?_,λi=>?_⟩
     ·rcases Cu.1 ((h z).1 (List.mem_cons_of_mem _ i))with e|e
      ·subst e;have:=n _ i;omega
      exact e
     rcases Cu.1 ((h z).2 (List.mem_cons_of_mem _ i))with e|e
     ·subst e;have:=j _ i;omega
     exact e
theorem nq {α:Type} {c:Int->Bool} {f:Int->Int} {p:Int->Prop} (x:List α) (d:α) (q:α->Bool) (z:x.length<=1048576)
 (t:∀i:Nat,i<=x.length->c (i:Int)=(decide (i<x.length)&&!q (x.getD i d))) (s:∀i:Nat,i<x.length->f (i:Int)=V' .i64 (i:Int) 1) (hp:∀i:Nat,i<=x.length->p (i:Int)):
 Z_ c f p 0/\c_ (Al c f 0) (U_ x)=x.any q:=by
 obtain⟨h1,k,A,y,j⟩:=ZgG (c:=c) (f:=f) (p:=p) (x0:=0) x.length (λi=>(i:Int)) (λi=>!q (x.getD i d)) rfl (λi hi _=>t i hi) (λi hi _=>by rw[s i hi,Cp (by unfold Br;omega)];simp) (λi hi _=>hp i hi);refine⟨h1,?_⟩;rw[y,Am,Ak,JS,Av,List.any_eq_true];constructor
 ·intro h;have b:¬ ∀i,i<x.length->(!q (x.getD i d))=true:=λn=>(by have:=j.2 n;omega);simp only[Classical.not_forall,Bq,Jb]at b;obtain⟨i,hi,g⟩:=b;exact⟨_,B5 x i d hi,g⟩
 rintro⟨a,u,g⟩;obtain⟨i,hi,rfl⟩:=IW u;have C:k≠x.length:=λe=>by
  have:=j.1 e i hi;rw[Hw x d hi,g]at this;exact absurd this (by decide)
 omega
theorem Zea(l:B3)(v:Int)(b:l.length<=1048576):VG (l,v)/\PA (l,v)=decide (v∈l):=by
 rw[yL,zL];obtain⟨h1,n⟩:=nq (c:=UT (l,v)) (f:=Zi) (p:=Y7 (l,v)) l 0 (λa=>decide (a=v)) b
  (λi hi=>by simp only[UT,Az,Am,Ak,Aw,BD,AJ,Ax,AG,CM])
  (λi hi=>rfl) (λi hi=>by
   simp only[Y7,Am,Ak,Ax,AG,Av];exact⟨λh=>⟨⟨by omega,by omega⟩,by omega⟩,λ_=>trivial⟩)
 refine⟨h1,?_⟩;rw[n,JS,List.any_eq_true,Av];constructor
 ·rintro⟨a,j,g⟩;rw[Av]at g;exact g▸j
 intro h;exact⟨v,h,by simp⟩
def ZhK(C l:B3):Prop:=l.Pairwise (· < ·)/\∀z,z∈l↔(z∈C/\z≠0)
theorem Zfg{α:Type}(x:List α)(d:α){i:Nat}(h:i<x.length)(z:α):z∈x.take (i+1)↔z∈x.take i\/z=x.getD i d:=by
 rw[<- Jz x d h,CN,List.mem_singleton]
theorem ZgT{α:Type}(x:List α){i:Nat}{z:α}(h:z∈x.take i):∃j,∃(b:j<x.length),j<i/\z=x[j]:=by
 obtain⟨j,b,rfl⟩:=IW h;rw[Db]at b;exact⟨j,by omega,by omega,List.getElem_take ..⟩
theorem jB(C:B3)(hl:C.length<=1048576):Rw C/\ZhK C (Mg C)/\(Mg C).length<=C.length:=by
 rw[x9,xW];simp only[gb,Vd,DMk.ok];have hs:(D0 C 0).1=Dq C:=by rw[ie]
 have G:=ak C;have A:(Dq C).Pairwise (λa b=>a<=b):=by
  have:=List.pairwise_mergeSort (le:=λx y:Int=>decide (x<=y)) (by simp;intros;omega) (by simp;intros;omega) C;exact this.imp (by simp)
 have q:∀z,z∈Dq C↔z∈C:=λz=>(List.mergeSort_perm C _).mem_iff;generalize Dq C=S at hs G A q;have F:= bF (c:=Q5 C) (f:=UC C) (p:=YZ C) (x0:=([],0))
  (λst=>∃i:Nat,st.2=(i:Int)/\i<=S.length/\st.1.length<=i/\st.1.Pairwise (· < ·)/\∀z,z∈st.1↔(z∈S.take i/\z≠0)) (λst=>S.length-st.2.toNat) (by
  rintro⟨l,n⟩ ⟨i,h1,hi,I,hp,hm⟩;simp only at h1 I hp hm;subst h1;simp only[Q5,UC,YZ,Vd,hs,Am,Ak,AJ,Ax,AG,Av];generalize R:S.getD i 0=v;obtain⟨g1,M⟩:=Zea l v (by omega);have r1:AD ((l.length+[v].length)*1):=(by unfold AD;simp only[A0,A8];omega);refine⟨⟨λh=>⟨⟨by omega,by omega⟩,by omega,⟨λ_=>g1,λ_=>trivial⟩,⟨λ_=>r1,λ_=>trivial⟩⟩,λ_=>trivial⟩,λh=>?_⟩;have t:i<S.length:=(by omega);refine⟨⟨i+1,by rw[Cp (by unfold Br;omega)];simp,by omega,?_,?_,?_⟩,by rw[Cp (by unfold Br;omega)];omega⟩
  ·rw[BN,B6];split
   ·simp only[CO,A0,A8];omega
   omega
  ·rw[BN,B6];split
   ·next g=>
    rw[Az,Aw,M,Ai,Bj]at g;obtain⟨D,N⟩:=g;simp only[Bq,Bm]at N;refine List.pairwise_append.2 ⟨hp,List.pairwise_singleton _ _,λa U b g=>?_⟩;rw[List.mem_singleton]at g;subst g;obtain⟨j,hj,L,e⟩:=ZgT S ((hm a).1 U).1;have J:=List.pairwise_iff_getElem.1 A j i hj t L;rw[<- Hw S 0 t,R]at J;have:a≠b:=λe=>N (e▸U);omega
   exact hp
  intro z;rw[Zfg S 0 t,R,BN,B6];split
  ·next g=>
   rw[Az,Aw,M,Ai,Bj]at g;obtain⟨D,N⟩:=g;have D:v≠0:=(by simpa using D);rw[CN,List.mem_singleton,hm];constructor
   ·rintro(⟨u,s⟩|e)
    ·exact⟨.inl u,s⟩
    exact⟨.inr e,e▸D⟩
   rintro⟨u|e,s⟩
   ·exact .inl ⟨u,s⟩
   exact .inr e
  next g=>
  rw[Az,Aw,M,Ai,Bj]at g;rw[hm];constructor
  ·rintro⟨u,s⟩;exact⟨.inl u,s⟩
  rintro⟨u|e,s⟩
  ·exact⟨u,s⟩
  subst e;have hz:z∈l:=by
   refine Classical.byContradiction λhn=>g ⟨by simpa using s,by simpa using hn⟩
  exact(hm z).1 hz) ⟨0,rfl,EE _,BH _,List.Pairwise.nil,by simp⟩
 obtain⟨k1,⟨i,k2,k3,k4,Z,O⟩,Y⟩:=F;simp only[Q5,Vd,hs,k2,Am,Ak,Bm]at Y;have:i=S.length:=by omega
 subst this;rw[FQ]at O;refine⟨⟨by unfold AD;omega,⟨trivial,by rw[iy];show C.length<4611686018427387904;omega⟩,k1⟩,⟨Z,λz=>by rw[O,q]⟩,by omega⟩
theorem Zx{a:Int×Int×Int×Int}(h:B4 a=true):0<=a.2.1/\a.2.1<=56:=by
 rw[Rh]at h;simp only[BN,Bl,Az,BD,Bj,VC,CK,E2]at h;repeat' split at h
 all_goals simp only[Ai,B7,Bq,BZ,F0,Ce,Av,Bm,Gr,Jb,A7,JF]at *
 all_goals omega
def Cx(x:CI):List Int:=x.map λa=>a.2.2.1
theorem jN(x:CI){i:Nat}(h:i<x.length):(Cx x).getD i 0=(x.getD i (0,0,0,0,0)).2.2.1:=by
 rw[Hw x _ h,Hw (Cx x) 0 (by simpa [Cx]using h)];simp[Cx]
theorem lr(x:CI)(N:x.length<=1048576):Z_ Ka (L6 x) (YF x) (1,[])/\(Al Ka (L6 x) (1,[])).2.Pairwise (· < ·)/\∀z,z∈(Al Ka (L6 x) (1,[])).2↔(z∈Cx x/\1<=z/\z<=56):=by
 have j:∀(c:Int) (l:B3),l.length<=60->Z_ (O6 x (c,l)) Q1 (Uw x (c,l)) 0/\c_ (Al (O6 x (c,l)) Q1 0) (U_ x)=decide (c∈Cx x):=by
  intro c l M;obtain⟨h1,y⟩:=nq (c:=O6 x (c,l)) (f:=Q1) (p:=Uw x (c,l)) x (0,0,0,0,0) (λa=>decide (a.2.2.1=c)) N
   (λi hi=>by simp only[O6,Az,Am,Ak,Aw,BD,AJ,Ax,AG,CM])
   (λi hi=>rfl) (λi hi=>by
    have r1:AD ((l.length+[c].length)*1):=(by unfold AD;simp only[A0,A8];omega);simp only[Uw,Am,Ak,Ax,AG,Av];exact⟨λh=>⟨⟨by omega,by omega⟩,by omega,λ_=>r1,λ_=>trivial⟩,λ_=>trivial⟩)
  refine⟨h1,?_⟩;rw[y,JS,List.any_eq_true,Av,Cx,List.mem_map];simp only[Av]
 have t:=bF (c:=Ka) (f:=L6 x) (p:=YF x) (x0:=(1,[]))
  (λst=>1<=st.1/\st.1<=57/\(st.2.length:Int)<st.1/\st.2.Pairwise (· < ·)/\∀z,z∈st.2↔(z∈Cx x/\1<=z/\z<st.1)) (λst=>57-st.1.toNat) (by
  rintro⟨c,l⟩ ⟨h1,y,R,u,s⟩;simp only at h1 y R u s;obtain⟨L,J⟩:=j c l (by omega);refine⟨⟨λ_=>L,λ_=>trivial⟩,λh=>?_⟩;simp only[Ka,E2,Av]at h;have C:V' .i64 c 1=c+1:=Cp (by unfold Br;omega);simp only[L6,C,J,BN,B6,Av];refine⟨⟨by omega,by omega,?_,?_,λz=>?_⟩,by omega⟩
  ·split
   ·simp only[CO,A0,A8];omega
   omega
  ·split
   ·refine List.pairwise_append.2 ⟨u,List.pairwise_singleton _ _,λa O b q=>?_⟩;rw[List.mem_singleton]at q;have:=((s a).1 O).2.2;omega
   exact u
  split
  ·next q=>
   rw[CN,List.mem_singleton,s];constructor
   ·rintro(⟨g,n,A⟩|e)
    ·exact⟨g,n,by omega⟩
    subst e;exact⟨q,by omega,by omega⟩
   rintro⟨g,n,A⟩;by_cases e:z=c
   ·exact .inr e
   exact .inl ⟨g,n,by omega⟩
  next q=>
  rw[s];constructor
  ·rintro⟨g,n,A⟩;exact⟨g,n,by omega⟩
  rintro⟨g,n,A⟩;have:z≠c:=λe=>q (e▸g);exact⟨g,n,by omega⟩) ⟨by simp,by simp,by simp,List.Pairwise.nil,by simp⟩
 obtain⟨I,⟨Z,Y,U,G,F⟩,D⟩:=t;simp only[Ka,E2,Bm]at D;refine⟨I,G,λz=>?_⟩;rw[F];constructor
 ·rintro⟨a,b,c⟩;exact⟨a,b,by omega⟩
 rintro⟨a,b,c⟩;exact⟨a,b,by omega⟩
theorem Zg7(x:CI)(G:x.length<=1048576):Z_ (Nk x) (OZ x) (Uv x) (0,0)/\Z_ (J7 x) (Kb x) (Uu x) ([],0,0) /\
 (Al (J7 x) (Kb x) ([],0,0)).2.2=(Al (Nk x) (OZ x) (0,0)).2/\(Al (J7 x) (Kb x) ([],0,0)).1=Cx x:=by
 obtain⟨F,D,⟨i,h1,A,u⟩,C⟩:=bg (c:=Nk x) (f:=OZ x) (p:=Uv x) (d:=J7 x) (g:=Kb x) (q:=Uu x) (x0:=(0,0)) (y0:=([],0,0))
  (λs t=>∃i:Nat,i<=x.length/\s.1=(i:Int)/\t=((Cx x).take i,s.1,s.2)) (λs=>x.length-s.1.toNat) (by
   rintro⟨n,m⟩ t ⟨i,hi,h1,rfl⟩;simp only at h1;subst h1;have z:(Cx x).length=x.length:=(by simp[Cx]);have b:((Cx x).take i).length=i:=(by rw[Db];omega);have y:V' .i64 (i:Int) 1=(i:Int)+1:=Cp (by unfold Br;omega);simp only[Nk,OZ,Uv,J7,Kb,Uu,Am,Ak,Ax,AG,Av,y,b,A0,A8,B6,AJ];refine⟨⟨λh=>⟨⟨⟨by omega,by omega⟩,by omega,λ_=>trivial,λ_=>⟨⟨by omega,by omega⟩,by omega⟩⟩,λ_=>⟨⟨by omega,by omega⟩,by omega⟩,λ_=>trivial⟩,λ_=>trivial⟩,⟨λh=>⟨⟨by omega,by omega⟩,by omega,by unfold AD;omega⟩,λ_=>trivial⟩,trivial,λh=>⟨⟨i+1,by omega,by omega,?_⟩,by omega⟩⟩;have j:i<x.length:=(by omega);rw[<- Jz (Cx x) 0 (by omega),jN x j]) ⟨0,by omega,rfl,rfl⟩
 refine⟨F,D,by rw[u],?_⟩;rw[u];simp only[Nk,A,Am,Ak,Bm]at C;rw[Xy];simp only[Cx,Bd];omega
theorem RP(x:CI)(g:x.length<=1048576):Pj x/\Pf x/\Cd x=CF x/\(Cd x).2.length<=1048576:=by
 rw[uX,wU,gd,uR,PR];have j:=US x g;have i:=UZ x g;by_cases h:Ct x=true
 ·obtain⟨A,y,u,t⟩:=Zg7 x g;obtain⟨s,q,n⟩:=lr x g;have F:(Cx x).length=x.length:=(by simp[Cx]);obtain⟨J,⟨c2,I⟩,L⟩:=jB (Cx x) (by omega);have D:=RX g h;have e:Mg (Cx x)=(Al Ka (L6 x) (1,[])).2:=na c2 q λz=>by
   rw[I,n];constructor
   ·rintro⟨a,b⟩;refine⟨a,?_⟩;obtain⟨k,C,rfl⟩:=List.mem_map.1 a;have:=Zx (D k C).2.2.1;omega
   rintro⟨a,b,c⟩;exact⟨a,by omega⟩
  rw[u,t,<- e];refine⟨⟨j,λ_=>trivial,λ_=>⟨A,s⟩⟩,⟨i,λ_=>trivial,λ_=>⟨y,J⟩⟩,rfl,?_⟩;rw[BN];split
  ·simp
  simp only;omega
 have G:U' (Ct x)=true:=by rw[Aw];simpa using h
 rw[G];simp[CL,j,i]
section
set_option maxRecDepth 20000
abbrev CD:=Int×List Int
theorem gU(a b:CD)(h:a.2.length<=1048576):F7 (a,b)=decide (a=b):=by
 obtain⟨m,x⟩:=a;obtain⟨n,y⟩:=b;simp only at h;rw[fC,ga];simp only;rw[Xx (c:=λx0=>W_ (c_ x0 (U_ x)) (U' (i_ (So x (R_ x0) 0) (So y (R_ x0) 0)))) (f:=λx0=>V' .i64 x0 1) x.length (λi=>!decide (x.getD i 0=y.getD i 0)) (by omega)
  (λi hi=>by simp only[Az,Aw,Bj,Am,Ak,AJ,Ax,AG,CM,I7]) (λi hi=>rfl)]
 have g:=PI (t:=λi=>!decide (x.getD i 0=y.getD i 0)) (n:=x.length);have j:=Jw (λi=>!decide (x.getD i 0=y.getD i 0)) x.length 0;generalize C0 (λi=>!decide (x.getD i 0=y.getD i 0)) x.length 0=q at g j;simp only[Az,Aw,Bj,BD,Am,Ak,I7];rw[JS];simp only[Ai,Bq,Av,Bm,An];constructor
 ·rintro⟨h1,z,u⟩;refine⟨h1,XX (by omega) λi hi s=>?_⟩;have:=(g.1 (by omega)) i hi;rw[BZ,Av,Hw x 0 hi,Hw y 0 s]at this;exact this
 rintro⟨rfl,rfl⟩;have:=g.2 λi hi=>by simp
 refine⟨rfl,rfl,by omega⟩
theorem ZaA(x:DU)(hs:DG x):Ux x/\Q4 x=x:=by
 obtain⟨i,g,b,n,j,q,s⟩:=x;have hm:JA b:=hs.2.1;have t:Lm j:=hs.2.2.1;obtain⟨u,c2⟩:=Za5 i g hs.1;obtain⟨z,y⟩:=ZaU b hm;rw[sk,rY];have A:=t.1;refine⟨⟨u,z,by unfold AD;simp only;omega⟩,?_⟩;simp only[c2,y]
def eW:DU:=(0,[],[],0,[],0,false)
end
section
set_option maxRecDepth 20000
theorem Zfi {α S T:Type} {c:S×Int×T->Bool} {f:S×Int×T->S×Int×T} {p:S×Int×T->Prop} (x:List α) (d:α) (g:S×T->α->S×T) (b:S×T) (t:x.length<=2097152)
 (n:∀(s:S×T) (i:Nat),i<=x.length->c (s.1,(i:Int),s.2)=decide (i<x.length)) (q:∀(i:Nat),i<x.length->f (((x.take i).foldl g b).1,(i:Int),((x.take i).foldl g b).2)=((g ((x.take i).foldl g b) (x.getD i d)).1,V' .i64 (i:Int) 1,(g ((x.take i).foldl g b) (x.getD i d)).2))
 (hp:∀(i:Nat),i<=x.length->p (((x.take i).foldl g b).1,(i:Int),((x.take i).foldl g b).2)):
 Z_ c f p (b.1,0,b.2)/\Al c f (b.1,0,b.2)=((x.foldl g b).1,(x.length:Int),(x.foldl g b).2):=by
 have:=JC (c:=c) (f:=f) (p:=p) x.length (λi=>(((x.take i).foldl g b).1,(i:Int),((x.take i).foldl g b).2)) (x0:=(b.1,0,b.2)) rfl (λk j=>by
  refine⟨hp k (by omega),by rw[n _ k (by omega)];simpa using j,?_⟩;rw[q k j,Cp (by unfold Br;omega),<- Jz x d j,List.foldl_append];simp) ⟨hp _ (by omega),by rw[n _ _ (by omega)];simp⟩
 refine⟨this.1,?_⟩;rw[this.2,FQ]
def FA(s:List CD×CD)(r:CD):List CD×CD:=(if s.2=r then s.1 else s.1++[r],r)
def LY(p:CD)(l:List CD):List CD:=(l.foldl FA ([],p)).1
theorem ZfY(p:CD)(l:List CD)(r:CD):LY p (l++[r])=if (l.foldl FA ([],p)).2=r then LY p l else LY p l++[r]:=by
 unfold LY;rw[List.foldl_append];rfl
theorem ZcH{α:Type}(l:List α):l=[]\/∃k a,l=k++[a]:=by
 rcases List.eq_nil_or_concat l with h|⟨k,a,h⟩
 ·exact .inl h
 exact .inr ⟨k,a,by rw[h,List.concat_eq_append]⟩
theorem mf(P:CD->Prop)(p:CD)(hp:P p)(l:List CD)(h:∀r∈l,P r):(l.foldl FA ([],p)).1.length<=l.length/\(∀r∈(l.foldl FA ([],p)).1,P r)/\P (l.foldl FA ([],p)).2:=by
 have go : ∀(l:List CD) (s:List CD×CD),(∀r∈l,P r)->(∀r∈s.1,P r)->P s.2->(l.foldl FA s).1.length<=s.1.length+l.length/\(∀r∈(l.foldl FA s).1,P r)/\P (l.foldl FA s).2:=by
  intro l;induction l with
  |nil=>intro s _ g j;exact⟨by simp,g,j⟩
  | cons a l ih=>
    intro s h1 g j;have i:=h1 a G6;have:=ih (FA s a) (λr b=>h1 r (List.mem_cons_of_mem _ b)) (by
     intro r b;unfold FA at b;simp only at b;split at b
     ·exact g r b
     rw[CN,List.mem_singleton]at b;rcases b with b|rfl
     ·exact g r b
     exact i) i
    refine⟨?_,this.2⟩;have q:=this.1;have n:(FA s a).1.length<=s.1.length+1:=by
     unfold FA;simp only;split
     ·omega
     simp
    rw[List.foldl_cons,A0];omega
 have:=go l ([],p) h (by simp) hp;exact⟨by simpa using this.1,this.2⟩
def HZ(r:CD):Prop:=r.2.length<=1048576
theorem Z0:∀(l:List CD) (s:List CD×CD),(l.foldl FA s).2=Dh l s.2
 |[],s=>rfl
 |r::l,s=>by rw[List.foldl_cons,Z0 l];rfl
theorem mw(p:CD):∀(n:Nat) (l:List CD),l.length=n->Yl p l=LY p l
 | 0,l,h=>by
   have:l=[]:=Df h;subst this;rfl
 | n + 1,l,h=>by
   rcases ZcH l with rfl|⟨k,r,rfl⟩
   ·cases h
   have g:=mw p n k (by simpa using h);rw[ZfY,Z0,<- g];unfold Yl;rw[ai,FT];have e:(Ds k p 0).map (λi=>(k++[r]).getD i (0,[]))=(Ds k p 0).map λi=>k.getD i (0,[]):=by
    refine List.map_congr_left λi hi=>?_;have:=((WR k p 0).2 i hi).2;rw[CQ,Bi (by omega),CQ]
   rw[e];by_cases b:Dh k p=r
   ·simp[b]
   simp[b]
theorem Zck(p:CD)(l:List CD)(hp:HZ p)(u:l.length<=2097152)(h:∀r∈l,HZ r):Uy (p,l)/\OT p l/\U4 (p,l)=LY p l/\OV p l=LY p l:=by
 have q:∀i:Nat,So l (R_ (i:Int)) (0,[])=l.getD i (0,[]):=λi=>by rw[AJ,Ax,AG]
 have b:=λi:Nat=>mf HZ p hp (l.take i) λr t=>h r (Lw t);have j:∀i:Nat,(l.take i).length<=2097152:=λi=>by rw[Db];omega
 have z:∀r:CD,RD r=r:=λr=>by rw[zD,B6,CJ]
 have y:∀(s:List CD×CD) (r:CD),HZ s.2->Y_ (U' (F7 (s.2,r))) (s.1++[r]) s.1=(FA s r).1:=λs r hs=>by
  rw[gU _ _ hs,BN,Aw];unfold FA;by_cases e:s.2=r
  ·simp[e]
  simp[e]
 obtain⟨C,A⟩:=Zfi (c:=Ud (p,l)) (f:=Ua (p,l)) (p:=YD (p,l)) l (0,[]) FA ([],p) (by omega)
  (λs i hi=>by simp only[Ud,Am,Ak,CM])
  (λi hi=>by
   obtain⟨_,_,n⟩:=b i;have:=y _ (l.getD i (0,[])) n;simp only[Ua,q,Zbb,z,B6];rw[this];rfl) (λi hi=>by
   obtain⟨F,_,n⟩:=b i;have D:=j i;simp only[YD,q,Am,Ak,Av];refine⟨λx=>?_,λ_=>trivial⟩;have hm:=h _ (B5 l i (0,[]) (by omega));have g:((0:Int)<=(i:Int)/\(i:Int)<(l.length:Int))/\R_ (i:Int)<l.length:=⟨⟨by omega,x⟩,by rw[Ax];omega⟩;refine⟨⟨g.1,g.2,(iz _ _ n).1,⟨λ_=>⟨g.1,g.2,?_,?_⟩,λ_=>trivial⟩⟩,g⟩
   ·rw[zF];unfold AD HZ at *;simp only[A8];omega
   unfold AD;simp only[A0,A8];omega)
 rw[tQ,sY,e9,fa];refine⟨C,⟨u,λi hi=>?_⟩,by rw[A];rfl,mw p _ l rfl⟩;have hs:HZ (Dh (l.take i) p):=by
  have:=(b i).2.2;rwa [Z0]at this
 exact⟨(iz _ _ hs).2,gU _ _ hs⟩
end
def XR:List DC->Bool
 |[]=>true|c::r=>!c.d&&XR r
theorem j6:∀ {X_:List DV} {l:List DC},Chg (AH X_) l->XR l=true->l.length=X_.length->l=AH X_
 |[],[],_,_,_=>rfl
 |[],_::_,_,_,h=>by simp at h
 |_::_,[],_,_,h=>by simp at h
 | v::X_,c::l,h,hc,hl=>by
   simp only[XR,Ai,Bq]at hc;have h1:c=⟨false,v⟩:=h.1.resolve_left (by rw[hc.1];simp);rw[h1,j6 h.2 hc.2 (by simpa using hl)];rfl
def eZ(n:Nat)(q:QT)(cs:List (Ql×CT))(res:List ARes)(st:DS):Option (q.D×AgX (Hf cs)):=
 match pK st res with
 | some (v,f4)=>if v.ok&&!v.q_ then (match f4.hp with
   | [X_,b2]=>if XR b2&&b2.length == n then (match Ov cs X_ with
     | some vs=>(match q.of v,HW (Hf cs) vs with
       |some y,some b=>some (y,b)
       |_,_=>none)
     |none=>none)else none
   |_=>none)else none
 |none=>none
def TQ(f:DFun)(hs:List HT)(c2 cs:List (Ql×CT))(q:QT)(x:TuX (.agg cs::.agg c2::hs)):PX×Option (q.D×AgX (Hf cs)):=
 match Et (.agg cs::.agg c2::hs) x with
 |.agg X_::.agg b2::r=>(dev f.body ⟨news (.ptr 0 0::r)++JL (f.nslots-f.nparams),JK f.nbox,[AH X_,AH b2]⟩).valR (eZ c2.length q cs f.res)|_=>(.ff,none)
def QN(f:DFun)(hs:List HT)(c2 cs:List (Ql×CT))(q:QT)(x:TuX (.agg cs::.agg c2::hs)):q.D×AgX (Hf cs):=(TQ f hs c2 cs q x).2.getD (q.dflt,cQ (Hf cs))
def QE(f:DFun)(hs:List HT)(c2 cs:List (Ql×CT))(q:QT)(x:TuX (.agg cs::.agg c2::hs)):Prop:=(TQ f hs c2 cs q x).1.den
def dw(f:DFun)(hs:List HT)(c2 cs:List (Ql×CT))(q:QT)(x:TuX (.agg cs::.agg c2::hs)):Bool:=(TQ f hs c2 cs q x).2.isSome
def eC(f:DFun)(hs:List HT)(c2 cs:List (Ql×CT)):Bool:=hs.length+1 == f.nparams&&!f.pure&&Nat.blt 0 cs.length&&Nat.blt 0 c2.length
def SN(hs:List HT)(c2 cs:List (Ql×CT))(q:QT)(g:TuX (.agg cs::.agg c2::hs)->Prop)(v:TuX (.agg cs::.agg c2::hs)->q.D×AgX (Hf cs)):Gs:=λargs b=>match args,b with
 | a::r,[X_,b2]=>if a.isP0 then (match HY (.agg cs::.agg c2::hs) (.agg X_::.agg b2::r)with
   |some x=>some (.p (g x),q.dv (v x).1,[Jj cs (C5 (Hf cs) (v x).2)])
   |none=>none)else none
 |_,_=>none
theorem Zcx(cs c2:List (Ql×CT))(hs:List HT)(x:TuX (.agg cs::.agg c2::hs)):∃r b g,Et (.agg cs::.agg c2::hs) x= .agg (C5 cs b)::.agg (C5 c2 g)::r:=by
 cases hs with
 |nil=>exact⟨[],x.1,x.2,rfl⟩
 |cons a r=>exact⟨Et (a::r) x.2.2,x.1,x.2.1,rfl⟩
theorem mB:∀(l:List DV),(AH l).length=l.length
 |[]=>rfl
 |_::r=>by simp only[AH,A0,mB r]
theorem kW:∀ {l:List DV} {p:List PV},EL (AH l) p->(∀v∈l,v≠.any)->p=DV.d6 l
 |[],[],_,_=>rfl
 |[],_::_,h,_=>h.elim
 |_::_,[],h,_=>h.elim
 | v :: l,x::p,h,hk=>by
   have h1:x=v.enc:=by
    rcases h.1 with h1|h1
    ·exact absurd h1 (hk v (G6 ..))
    exact h1
   rw[h1,kW h.2 λw b=>hk w (List.mem_cons_of_mem _ b)];rfl
theorem ZQ {f : DFun} {hs : List HT} {c2 cs:List (Ql×CT)} {q:QT} (ho:AllD f.body.t8) (t:eC f hs c2 cs=true) (u:∀x,dw f hs c2 cs q x=true) {ok:TuX (.agg cs::.agg c2::hs)->Prop} {v:TuX (.agg cs::.agg c2::hs)->q.D×AgX (Hf cs)} (F:∀x,ok x->QE f hs c2 cs q x) (hv:∀x,QN f hs c2 cs q x=v x):Qe (IG f.er) (SN hs c2 cs q ok v):=by
 intro args b g w H Q h hg hQ;simp only[eC,Ai,A7,Bq]at t;unfold SN at h;split at h
 ·rename_i a r X_ b2;split at h
  ·rename_i ha;have ha:a= .ptr 0 0:=(by unfold DV.isP0 at ha;split at ha<;>first|rfl|cases ha);subst ha;cases hx:HY (.agg cs::.agg c2::hs) (.agg X_::.agg b2::r)with
   |none=>rw[hx]at h;cases h
   | some x=>
     rw[hx]at h;simp only[Ao,An]at h;obtain⟨rfl,rfl,rfl⟩:=h;have I:=X9 hx;obtain⟨r',b,b3,hd⟩:=Zcx cs c2 hs x;rw[hd]at I;simp only[DV.d6,DV.enc,Gq,PV.agg.injEq]at I;have hlr:r'.length=hs.length:=by
      have:=Sg (.agg cs::.agg c2::hs) x;rw[hd]at this;simpa using this
     have u:=u x;have F:=F x hg;unfold dw at u;unfold QE at F;have n:=hv x;unfold QN at n;unfold TQ at u F n;rw[hd]at u F n;simp only at u F n;cases Y:(dev f.body ⟨news (.ptr 0 0::r')++JL (f.nslots-f.nparams),JK f.nbox,[AH (C5 cs b),AH (C5 c2 b3)]⟩).valR (eZ c2.length q cs f.res)with
     | mk g o=>
       rw[Y]at u F n;cases o with
       |none=>cases u
       | some y=>
         simp only[IF]at n;obtain⟨k1,e,st,k2,k3,j⟩:=Xo Y F;have Z:d9 _ st:=XC (HE f.body _) k2;show IG f.er (PV.ptr 0 0::DV.d6 r) [DV.d6 X_,DV.d6 b2] Q;rw[<- I.1,<- I.2.1,<- I.2.2];refine⟨by simp only[A0,FN,hlr];exact t.1.1.1,λhp=>absurd hp (by simp[DFun.er,t.1.1.2]),?_⟩;refine G7 f.body ho (d:=⟨news (.ptr 0 0::r')++JL (f.nslots-f.nparams),JK f.nbox,[AH (C5 cs b),AH (C5 c2 b3)]⟩) (s:=⟨DV.d6 (.ptr 0 0::r')++Ja (f.nslots-f.nparams),LK f.nbox,[DV.d6 (C5 cs b),DV.d6 (C5 c2 b3)]⟩) ⟨(EL.news _).append (WZ _),WJ _,.inr (cv _),.inr (cv _),trivial⟩ k1 k2 λs' hs'=>?_;unfold eZ at j;split at j
         ·rename_i v0 f4 hr; split at j
          ·rename_i O; simp only[Ai,Bq]at O;split at j
           ·rename_i v_ b2' hblk;split at j;rename_i J;split at j
            ·rename_i vs N;split at j
             ·rename_i y0 b0 hy0 hb0;simp only[Ao]at j;subst j;obtain⟨⟨s2,e2,e3⟩,hch2⟩:=ZhH hs' hr O.1;have L:=(Z.trans hch2).hp;have C:=e3.hp;rw[hblk]at L C;cases G:s2.hp with
              |nil=>rw[G]at C;exact C.elim
              | cons p l=>
                rw[G]at C;have hl0:∃p2,l=[p2]:=by
                 cases l with
                 |nil=>exact C.2.elim
                 | cons p2 l=>cases l with
                   |nil=>exact⟨p2,rfl⟩
                   |cons=>exact C.2.2.elim
                obtain⟨p2,rfl⟩:=hl0;obtain⟨kc1,M⟩:=ZW c2 b3;simp only[Ai,A7]at J;have hb2:=j6 L.2.1 J.1 (by rw[J.2,M]);have A:=C.2.1;rw[hb2]at A;have R:=kW (A.to (by rw[mB,M];exact Dg t.2)) kc1;have f9:0<v_.length:=by
                 cases v_ with
                 | nil=>cases cs with
                   |nil=>exact absurd t.1.2 (by decide)
                   |cons a cs=>obtain⟨q0,t0⟩:=a;cases q0<;>cases N
                 |cons=>simp
                have hEL:=C.1.to f9;obtain⟨kn1,kn2⟩:=Wk hb0;obtain⟨kb1,kb2⟩:=ZW cs b;have hpb:=bC cs hEL L.1 N (eu hb0) kn1 kn2 kb2 kb1;obtain⟨h1,_⟩:=eK hy0;have hQ':Q (q.dv y0).enc (Hb (JO [X_,b2] [Jj cs (C5 (Hf cs) b0)])):=by
                 have:=hQ;rw[<- n]at this;exact this
                have U : DV.d6 (F4 (C5 cs b) (Jj cs (C5 (Hf cs) b0)))=DV.d6 (F4 X_ (Jj cs (C5 (Hf cs) b0))):=by
                 have:∀(a c l:List DV),DV.d6 a=DV.d6 c->DV.d6 (F4 a l)=DV.d6 (F4 c l):=by
                  intro a;induction a with
                  | nil=>intro c l h;cases c with
                    |nil=>rfl
                    |cons=>cases h
                  | cons x a ih=>
                    intro c l h;cases c with
                    |nil=>cases h
                    | cons z c=>
                      simp only[DV.d6,Gq]at h;cases l with
                      |nil=>simp only[F4,DV.d6,h.1,h.2]
                      | cons w l=>
                        simp only[F4,DV.d6,ih c l h.2];by_cases hw:w.isAny=true
                        ·rw[Ac hw,Ac hw,h.1]
                        rw[Ae hw,Ae hw]
                 exact this _ _ _ I.1
                have fin:(match LL s' f.res with|some (v,st)=>if f.pure=true then v.flt=true/\Q v []else Q v st.hp|none=>False):=by
                 rw[e2];simp only[t.1.1.2,AY,A3,G];rw[<- h1,hpb,U,R,I.2.1];exact hQ'
                cases e with
                |normal=>exact fin
                |ret=>exact fin
                |exit i=>exact absurd rfl (k3 i)
             cases j
            ·cases j
            cases j
           cases j
          cases j
         cases j
  cases h
 cases h
attribute [irreducible] TQ QN QE dw eC
section
set_option maxRecDepth 8000
def rZ:d4:=(A_ [0] 2 [Q_ As] (A_ [2] 3 [C_ 0,I' BR [3,AA,(.c (.int .i64 36))],C_ 4,F' 5 (Q_ 0),F' 5 (Nm 6 (.c (.int .i64 39))),L_ 5 AV 7,C_ 8,F' 9 (Q_ 0),F' 9 (Nm 10 (.c (.int .i64 42))),L_ 9 AV 11,G_ 2 (C_ 12)] .ret))
def Kf:Fn:=⟨⟨1,13,0,true,[.tmp 2],rZ⟩,[.one .Z' (.int .i64)],.one (.one .own (.bool))⟩
theorem r9:Kf.A:=AM ⟨Gb,trivial⟩
def Jo:Int->Bool:=Kf.V
def YI:Int->Prop:=Kf.O
theorem sO:Kf.B:=AO ⟨Ga,trivial⟩ (by kernel_rfl) (λx=>by kernel_rfl)
def ZaZ:d4:=(A_ [4,3,0] 3 [O' 0 4 1,B_ (.e_ 1 [Ad,Ad,Ad,Ad])] (A_ [4,3,0] 5 [J' 2 3,G' (rg 1) (J_ 0 5),C_ 0,G' [2] (B_ (.z_ 7)),G' [2,3] (J' 5 8),G' [2,3,4] (O_ 9),G' (rg 6) (B_ (.bin .or 6 10)),G' (rg 7) (J' 2 3),G' (rg 8) (E_ (.V_ 0 1 12 11))] (A_ [4,3,0] 13 [C_ 0,B_ (.z_ 13),J' 5 14,E_ (.f8 1 15 AL)] (.seq [4,3,0] (A_ [19,4,3,0] 16 [J' 1 3,J_ 0 16,I' Kf [17],P' 18] (.cond 19 (At 20 [C_ 0,B_ (.z_ 20),J' 6 21,E_ (.f8 1 22 As)]) .skip)) (.seq [4,3] (A_ [37,4,3] 23 [C_ 0,B_ (.z_ 23),J' 6 24,O_ 25,C_ 26,F_ 27 (J' 1 3),F_ 27 (J_ 0 28),F_ 27 (B_ (.bin .leq 29 (.c (.int .i64 26)))),L_ 27 30 As,C_ 31,F_ 32 (J' 2 3),F_ 32 (J_ 0 33),F_ 32 (B_ (.bin .andNot 34 (.c (.int .i64 2)))),F_ 32 (Nm 35 AL),L_ 32 36 As] (.cond 37 (At 38 [J' 2 3,E_ (.V_ 0 1 38 (.c (.int .i64 2)))]) .skip)) (A_ [4] 39 [C' (.d7 0 (some 4) 3),E_ (.V_ 1 4 4 39)] .ret))))))
def Mh:DFun:=⟨2,40,2,false,[.cell 4 (some 4)],ZaZ⟩
@[irreducible] def PF:Bc:=EG Mh.er.er
@[irreducible] def RL:Dd:=IG Mh.er
theorem Za6:JJ PF RL:=by unfold PF RL;exact Wj (f:=Mh.er) ⟨r9,trivial⟩
def V4:List HT:=[.agg [Au,Au,Au,Au]]
def V2:List (Ql×CT):=[AN,(.own,.sl (.one (.sl AB))),(.own,.sl (.one (.sl AQ))),AN,(.own,.sl AU),AN,(.own,.bool)]
def VZ:QT:=.one (.agg [AN,AN,AN,AN])
def VT:List (Ql×CT):=[AN,AN,AN,AN]
@[irreducible] def RO(x:QJ):Cw×BS:=(shut λx=>QN Mh V4 VT V2 VZ x).1 x
@[irreducible] def RI(x:QJ):Prop:=(shut λx=>QE Mh V4 VT V2 VZ x).1 x
def iM:Gs:=SN V4 VT V2 VZ RI RO
theorem ZaO:Qe RL iM:=by unfold RL;exact ZQ (f:=Mh) (hs:=V4) (c2:=VT) (cs:=V2) (q:=VZ) ⟨sO,trivial⟩ (by kernel_rfl) (λx=>by kernel_rfl) (λx h=>by unfold RI at h;exact Eq.mp (congrFun (shut _).2 x) h) (λx=>by unfold RO;exact(congrFun (shut _).2 x).symm)
def wv:d4:=(A_ [4,3,0] 3 [O' 0 4 1,B_ (.e_ 1 [Ad,Ad,Ad,Ad])] (.seq [4,3] (A_ [6,4,3,0] 5 [J' 0 3,J_ 0 5] (.block 0 (A_ [7,6,4,3,0] 8 [Nm 6 (.c (.int .i64 2)),G_ 7 (C_ 8)] (.cond 7 (A_ [11,4,3,0] 9 [J' 1 3,J_ 0 9,B_ (.bin .gtr 10 AL)] (.cond 11 (A_ [4] 12 [C_ 0,K_ 0 4 3,I_ (.callp false PF RL iM [12,13]),E_ (.V_ 1 4 4 14)] .ret) .skip)) (A_ [15,6,4,3,0] 16 [Nm 6 (.c (.int .i64 4)),G_ 15 (C_ 16)] (.cond 15 (At 17 [C_ 0,C_ 0,G' [1] (B_ (.z_ 18)),G' [1,2] (J' 3 19),G' [1,2,3] (O_ 20),J' 3 3,G' [5] (J_ 0 22),G' [5,6] (B_ (.bin .shl AA 23)),G' [1,2,3,4,5,6,7] (B_ (.bin .xor 21 24)),G' (rg 9) (B_ (.z_ 17)),G' (rg 10) (J' 3 26),G' (rg 11) (E_ (.f8 1 27 25))]) (A_ [28,6,4,3,0] 29 [Nm 6 (.c (.int .i64 5)),G_ 28 (C_ 29)] (.cond 28 (At 30 [C_ 0,J' 3 3,J_ 0 31,B_ (.bin .shl AA 32),B_ (.bin .andNot 33 AA),B_ (.z_ 30),J' 3 35,E_ (.f8 1 36 34)]) (A_ [37,6,4,3,0] 38 [Nm 6 (.c (.int .i64 8)),G_ 37 (C_ 38)] (.cond 37 (A_ [48,4,3,0] 39 [C_ 0,G' (rg 1) (B_ (.z_ 39)),G' (rg 2) (J' 5 40),G' (rg 3) (O_ 41),J' 2 3,G' [4] (J_ 0 43),G' (rg 6) (B_ (.bin .and 42 44)),J' 2 3,G' [7] (J_ 0 46),G' (rg 9) (Nm 45 47)] (.cond 48 (At 49 [C_ 0,C_ 0,G' [1] (B_ (.z_ 50)),G' [1,2] (J' 5 51),G' [1,2,3] (O_ 52),J' 2 3,G' [5] (J_ 0 54),G' [1,2,3,4,5,6] (B_ (.bin .andNot 53 55)),G' (rg 8) (B_ (.z_ 49)),G' (rg 9) (J' 5 57),G' (rg 10) (E_ (.f8 1 58 56))]) (At 59 [C_ 0,C_ 0,G' [1] (B_ (.z_ 60)),G' [1,2] (J' 5 61),G' [1,2,3] (O_ 62),J' 2 3,G' [5] (J_ 0 64),G' [1,2,3,4,5,6] (B_ (.bin .or 63 65)),G' (rg 8) (B_ (.z_ 59)),G' (rg 9) (J' 5 67),G' (rg 10) (E_ (.f8 1 68 66))]))) (A_ [69,4,3,0] 70 [Nm 6 (.c (.int .i64 10)),G_ 69 (C_ 70)] (.cond 69 (At 71 [C_ 0,C_ 0,B_ (.z_ 72),J' 6 73,O_ 74,P' 75,B_ (.z_ 71),J' 6 77,E_ (.f8 1 78 76)]) .skip)))))))))))) (A_ [4] 79 [C' (.d7 0 (some 4) 3),E_ (.V_ 1 4 4 79)] .ret)))
def Ma:DFun:=⟨2,80,2,false,[.cell 4 (some 4)],wv⟩
@[irreducible] def Po:Bc:=EG Ma.er.er
@[irreducible] def Ro:Dd:=IG Ma.er
theorem vt:JJ Po Ro:=by unfold Po Ro;exact Wj (f:=Ma.er) ⟨Za6,trivial⟩
def Vf:List HT:=[.agg [Au,Au,Au,Au]]
def Vk:List (Ql×CT):=[AN,(.own,.sl (.one (.sl AB))),(.own,.sl (.one (.sl AQ))),AN,(.own,.sl AU),AN,(.own,.bool)]
def Vp:QT:=.one (.agg [AN,AN,AN,AN])
def U9:List (Ql×CT):=[AN,AN,AN,AN]
@[irreducible] def Pq(x:QJ):Cw×BS:=(shut λx=>QN Ma Vf U9 Vk Vp x).1 x
@[irreducible] def Ph(x:QJ):Prop:=(shut λx=>QE Ma Vf U9 Vk Vp x).1 x
def gI:Gs:=SN Vf U9 Vk Vp Ph Pq
theorem uD:Qe Ro gI:=by unfold Ro;exact ZQ (f:=Ma) (hs:=Vf) (c2:=U9) (cs:=Vk) (q:=Vp) ⟨ZaO,trivial⟩ (by kernel_rfl) (λx=>by kernel_rfl) (λx h=>by unfold Ph at h;exact Eq.mp (congrFun (shut _).2 x) h) (λx=>by unfold Pq;exact(congrFun (shut _).2 x).symm)
def Za7:d4:=(A_ [6,3,2,1] 3 [O' 0 7 0,H_ 6 (B_ (.e_ 1 [Ad,.b_,.b_,Ad,.b_,Ad,EO])),Q_ (.c .b_),Q_ As] (.seq [6,3,2,1] (A_ [29,6,3,2,1] 12 [K_ 0 7 3,I' KH [12],P' 13,C_ 14,F' 15 (Q_ 1),F' 15 (J' 0 3),F' 15 (J' 0 17),F' 15 (J_ 0 18),F' 15 (B_ (.bin .sub 19 AA)),F' 15 (I' BR [16,AL,20]),F' 15 (P' 21),L_ 15 AV 22,C_ 23,F' 24 (K_ 0 7 3),F' 24 (Q_ 1),F' 24 (I' Is [25,26]),F' 24 (B_ (.bin .geq 27 AL)),L_ 24 AV 28] (.cond 29 (A_ [8,7,6] 30 [B_ (.build [Ad,.b_,.b_,Ad,.b_,Ad,EO] []),Q' (.cons (.int .i64) (.one (.sl (.one (.int .i64))))) (.d5 2 0 [] []),E_ (.V_ 1 7 6 30),H_ 7 (C_ 31),Q_ As] .ret) .skip)) (A_ [9,6,3,2,1] 32 [K_ 0 7 3,I' K0 [32],G_ 9 (B_ (.allocH [Ad,.b_,.b_,Ad,.b_,Ad,EO])),E_ (.f8 7 9 33)] (.seq [10,9,6,3,2,1] (.region [oa 9 10 (.allocH [Ad,Ad,Ad,Ad]),oa 0 34 (.f5 0 3),xA 1 35 (.d7 0 (some 2) 34) (rg 1),oa 2 36 (.f5 3 3),xA 3 37 (.d7 0 none 36) [2],oa 4 38 (.f5 4 3),xA 5 39 (.d7 0 none 38) [4],om 7 41 1,xF 6 40 KE [37,39] [2,3,4,5],xF 8 42 KM [35,40,41] (rg 8),xS 10 (.f8 4 10 42) (rg 10)]) (.seq [10,9,6,3,1] (A_ [43,10,9,6,3,1] 43 [C_ 2] (.cond 43 (At 44 [B_ (.i5 (some 4) 10),I' Lb [44],E_ (.f8 4 10 45)]) (At 46 [B_ (.i5 (some 4) 10),I' Le [46],E_ (.f8 4 10 47)]))) (A_ [10,9,6,3,1] 48 [B_ (.i5 (some 4) 10),I_ (.callp false Po Ro gI [9,48]),E_ (.f8 4 10 49)] (A_ [10,9,6,3] 50 [J' 4 9,C' (.i5 none 50),C_ 1,C' (.i5 (some 4) 10),B_ (.build [Ad,Ad,Ad,Ad,Ad] [(0,1,52),(1,4,53)]),Q' AU (.d5 5 1 [Ad,Ad,Ad,Ad,Ad] [(0,5,54)]),B_ (.app 5 51 55),J' 4 9,E_ (.f8 1 57 56)] (A_ [11,10,9,6,3] 58 [Q' (.cons (.int .i64) (.one (.sl (.one (.int .i64))))) (.d5 2 0 [] []),G_ 11 (C_ 58)] (.seq [11,9,6,3] (A_ [69,11,10,9,6,3] 59 [J' 0 10,O_ 59,Nm 60 (.c (.int .i64 9)),C_ 61,F_ 62 (J' 3 10),F_ 62 (O_ 63),F_ 62 (J' 2 3),F_ 62 (J_ 0 65),F_ 62 (L' 66),F_ 62 (M' 64 67),L_ 62 68 As] (.cond 69 (At 70 [J' 4 9,G' (rg 1) (O_ 70),J' 2 3,G' [2] (J_ 0 72),J' 3 10,G' [4] (O_ 74),G' [2,3,4,5] (N_ 1 73 75),G' [2,3,4,5,6] (O_ 76),G' (rg 8) (I' J6 [71,77]),G_ 11 (G' (rg 9) (Q_ 78))]) .skip)) (A_ [11,9,6,3] 79 [C_ 11,J' 4 9,O_ 80,I' GI [81],Q' (.cons (.int .i64) (.one (.sl (.one (.int .i64))))) (.d5 2 1 [Ad,.b_] [(0,2,82)]),B_ (.app 2 79 83),G_ 11 (C_ 84)] (.seq [8,7,6] (.region [oa 0 85 (.i5 (some 7) 9),oa 1 86 (.f5 4 3),xA 2 87 (.d7 0 none 86) [1],on 4 89 11,xF 3 88 GI [87] [1,2],xF 5 90 Ks [88,89] [1,2,3,4],⟨6,none,.clm 9 85 (.V_ 1 7 6 85),none,[0,1,2,3,4,5]⟩,xA 7 7 (.mv 90) (rg 7),xA 8 8 (.mv AV) (rg 8)]) .ret)))))))))))
def Lf:Fn:=⟨⟨3,91,2,false,[.cell 6 (some 7),.tmp 7,.tmp 8],Za7⟩,[.agg [Au,(.Z',.sl (.one (.sl AB))),(.Z',.sl (.one (.sl AQ))),Au,(.Z',.sl AU),Au,(.Z',.bool)],.one .Z' (.int .i64),.one .Z' (.bool)],.f7 [.agg [AN,(.own,.sl (.one (.sl AB))),(.own,.sl (.one (.sl AQ))),AN,(.own,.sl AU),AN,(.own,.bool)],.one .own (.sl (.cons (.int .i64) (.one (.sl (.one (.int .i64)))))),.one .own (.bool)]⟩
theorem Za1:Lf.A:=AM ⟨wR,Gb,zW,zx,vf,uY,yC,Zal,vt,qK,Y0,Y0,tK,trivial⟩
def BL:Ep->BS×B8×Bool:=Lf.V
def PB:Ep->Prop:=Lf.O
theorem ZaG:Lf.B:=AO ⟨uU,Ga,zT,zq,uK,uO,zl,Zay,uD,qG,Ze,Ze,uf,trivial⟩ (by kernel_rfl) (λx=>by kernel_rfl)
def sx:d4:=(A_ [0] 2 [Q_ As] (A_ [2] 3 [C_ 0,B_ (.bin .geq 3 AA),C_ 4,F_ 5 (Q_ 0),F_ 5 (B_ (.bin .leq 6 (.c (.int .i64 36)))),L_ 5 7 As,C_ 8,F' 9 (Q_ 0),F' 9 (Nm 10 (.c (.int .i64 39))),L_ 9 AV 11,C_ 12,F' 13 (Q_ 0),F' 13 (Nm 14 (.c (.int .i64 42))),L_ 13 AV 15,G_ 2 (C_ 16)] .ret))
def Ie:Fn:=⟨⟨1,17,0,true,[.tmp 2],sx⟩,[.one .Z' (.int .i64)],.one (.one .own (.bool))⟩
theorem rf:Ie.A:=AM trivial
def L8:Int->Bool:=Ie.V
def YO:Int->Prop:=Ie.O
theorem sM:Ie.B:=AO trivial (by kernel_rfl) (λx=>by kernel_rfl)
def zb:d4:=(A_ [4,3,0] 3 [O' 0 4 1,B_ (.e_ 1 [Ad,Ad,Ad,Ad])] (.seq [4,3] (A_ [6,4,3,0] 5 [J' 0 3,J_ 0 5] (.block 0 (A_ [7,6,4,3,0] 8 [Nm 6 (.c (.int .i64 2)),G_ 7 (C_ 8)] (.cond 7 (.seq [4,3,0] (A_ [11,4,3,0] 9 [J' 1 3,J_ 0 9,Nm 10 AL] (.cond 11 (A_ [4] 12 [C' (.d7 0 (some 4) 3),E_ (.V_ 1 4 4 12)] .ret) .skip)) (A_ [4,3,0] 13 [J' 2 3,G' (rg 1) (J_ 0 13),C_ 0,G' [2] (B_ (.z_ 15)),G' [2,3] (J' 5 16),G' [2,3,4] (O_ 17),G' (rg 6) (B_ (.bin .or 14 18)),G' (rg 7) (J' 2 3),G' (rg 8) (E_ (.V_ 0 1 20 19))] (A_ [4,3,0] 21 [C_ 0,B_ (.z_ 21),J' 5 22,E_ (.f8 1 23 AL)] (A_ [4,3,0] 24 [C_ 0,C_ 0,B_ (.z_ 25),J' 6 26,O_ 27,C_ 28,F_ 29 (J' 1 3),F_ 29 (J_ 0 30),F_ 29 (I' Ie [31]),L_ 29 32 As,B_ (.z_ 24),J' 6 34,E_ (.f8 1 35 33)] (A_ [50,4,3] 36 [C_ 0,B_ (.z_ 36),J' 6 37,O_ 38,C_ 39,F_ 40 (J' 1 3),F_ 40 (J_ 0 41),F_ 40 (B_ (.bin .leq 42 (.c (.int .i64 26)))),L_ 40 43 As,C_ 44,F_ 45 (J' 2 3),F_ 45 (J_ 0 46),F_ 45 (B_ (.bin .andNot 47 (.c (.int .i64 2)))),F_ 45 (Nm 48 AL),L_ 45 49 As] (.cond 50 (At 51 [J' 2 3,E_ (.V_ 0 1 51 (.c (.int .i64 2)))]) .skip)))))) (A_ [52,6,4,3,0] 53 [Nm 6 (.c (.int .i64 4)),G_ 52 (C_ 53)] (.cond 52 (At 54 [C_ 0,G' (rg 1) (B_ (.z_ 54)),G' (rg 2) (J' 3 55),G' (rg 3) (O_ 56),J' 3 3,G' [4] (J_ 0 58),G' [4,5] (B_ (.bin .shl AA 59)),G' (rg 7) (B_ (.bin .xor 57 60)),G' (rg 8) (B_ (.z_ 54)),G' (rg 9) (J' 3 62),G' (rg 10) (E_ (.f8 1 63 61))]) (A_ [64,6,4,3,0] 65 [Nm 6 (.c (.int .i64 5)),G_ 64 (C_ 65)] (.cond 64 (At 66 [C_ 0,J' 3 3,J_ 0 67,B_ (.bin .shl AA 68),B_ (.bin .andNot 69 AA),B_ (.z_ 66),J' 3 71,E_ (.f8 1 72 70)]) (A_ [73,6,4,3,0] 74 [Nm 6 (.c (.int .i64 8)),G_ 73 (C_ 74)] (.cond 73 (A_ [84,4,3,0] 75 [C_ 0,G' (rg 1) (B_ (.z_ 75)),G' (rg 2) (J' 5 76),G' (rg 3) (O_ 77),J' 2 3,G' [4] (J_ 0 79),G' (rg 6) (B_ (.bin .and 78 80)),J' 2 3,G' [7] (J_ 0 82),G' (rg 9) (Nm 81 83)] (.cond 84 (At 85 [C_ 0,G' (rg 1) (B_ (.z_ 85)),G' (rg 2) (J' 5 86),G' (rg 3) (O_ 87),J' 2 3,G' [4] (J_ 0 89),G' (rg 6) (B_ (.bin .andNot 88 90)),G' (rg 7) (B_ (.z_ 85)),G' (rg 8) (J' 5 92),G' (rg 9) (E_ (.f8 1 93 91))]) (At 94 [C_ 0,G' (rg 1) (B_ (.z_ 94)),G' (rg 2) (J' 5 95),G' (rg 3) (O_ 96),J' 2 3,G' [4] (J_ 0 98),G' (rg 6) (B_ (.bin .or 97 99)),G' (rg 7) (B_ (.z_ 94)),G' (rg 8) (J' 5 101),G' (rg 9) (E_ (.f8 1 102 100))]))) (A_ [103,4,3,0] 104 [Nm 6 (.c (.int .i64 10)),G_ 103 (C_ 104)] (.cond 103 (At 105 [C_ 0,C_ 0,B_ (.z_ 106),J' 6 107,O_ 108,P' 109,B_ (.z_ 105),J' 6 111,E_ (.f8 1 112 110)]) .skip)))))))))))) (A_ [4] 113 [C' (.d7 0 (some 4) 3),E_ (.V_ 1 4 4 113)] .ret)))
def Me:DFun:=⟨2,114,2,false,[.cell 4 (some 4)],zb⟩
@[irreducible] def PE:Bc:=EG Me.er.er
@[irreducible] def RH:Dd:=IG Me.er
theorem zO:JJ PE RH:=by unfold PE RH;exact Wj (f:=Me.er) ⟨rf,trivial⟩
def VQ:List HT:=[.agg [Au,Au,Au,Au]]
def VX:List (Ql×CT):=[AN,(.own,.sl (.one (.sl AB))),(.own,.sl (.one (.sl AQ))),AN,(.own,.sl AU),AN,(.own,.bool)]
def VW:QT:=.one (.agg [AN,AN,AN,AN])
def VD:List (Ql×CT):=[AN,AN,AN,AN]
@[irreducible] def PC(x:QJ):Cw×BS:=(shut λx=>QN Me VQ VD VX VW x).1 x
@[irreducible] def Px(x:QJ):Prop:=(shut λx=>QE Me VQ VD VX VW x).1 x
def ik:Gs:=SN VQ VD VX VW Px PC
theorem Zab:Qe RH ik:=by unfold RH;exact ZQ (f:=Me) (hs:=VQ) (c2:=VD) (cs:=VX) (q:=VW) ⟨sM,trivial⟩ (by kernel_rfl) (λx=>by kernel_rfl) (λx h=>by unfold Px at h;exact Eq.mp (congrFun (shut _).2 x) h) (λx=>by unfold PC;exact(congrFun (shut _).2 x).symm)
def Zau:d4:=(A_ [6,3,2,1] 3 [O' 0 7 0,H_ 6 (B_ (.e_ 1 [Ad,.b_,.b_,Ad,.b_,Ad,EO])),Q_ (.c .b_)] (A_ [8,6,3,2,1] 12 [K_ 0 7 3,I' Kk [12],G_ 8 (B_ (.allocH [Ad,.b_,.b_,Ad,.b_,Ad,EO])),E_ (.f8 7 8 13)] (A_ [9,8,6,3,2,1] 14 [J' 3 3,J_ 0 14,J' 4 3,J_ 0 16,I' KF [15,17],G_ 9 (C_ 18)] (.seq [10,8,6,3,2,1] (.region [oa 13 10 (.allocH [Ad,Ad,Ad,Ad]),oa 0 19 (.f5 0 3),xA 1 20 (.f5 1 19) (rg 1),xA 2 21 (.d7 0 none 20) (rg 2),oa 3 22 (.f5 0 3),xA 4 23 (.d7 0 (some 2) 22) [3],om 5 24 9,om 6 25 1,om 10 29 1,xF 7 26 KV [23,24,25] [3,4,5,6],xA 8 27 (.p_ 1 21 26) (rg 8),xA 9 28 (.i5 none 27) (rg 9),xA 11 30 (.p_ 4 28 29) (rg 11),xB 12 31 (.i5 (some 4) 30) (rg 12),xS 14 (.f8 4 10 31) (rg 14)]) (.seq [10,8,6,3,1] (A_ [32,10,8,6,3,1] 32 [C_ 2] (.cond 32 (At 33 [B_ (.i5 (some 4) 10),I' K8 [33],E_ (.f8 4 10 34)]) (At 35 [B_ (.i5 (some 4) 10),I' Lc [35],E_ (.f8 4 10 36)]))) (A_ [10,8,6,3,1] 37 [B_ (.i5 (some 4) 10),I_ (.callp false PE RH ik [8,37]),E_ (.f8 4 10 38)] (A_ [10,8,6,3] 39 [J' 4 8,C' (.i5 none 39),C_ 1,C' (.i5 (some 4) 10),B_ (.build [Ad,Ad,Ad,Ad,Ad] [(0,1,41),(1,4,42)]),Q' AU (.d5 5 1 [Ad,Ad,Ad,Ad,Ad] [(0,5,43)]),B_ (.app 5 40 44),J' 4 8,E_ (.f8 1 46 45)] (A_ [11,10,8,6,3] 11 [Q_ (.c .b_)] (.seq [11,8,6,3] (A_ [57,11,10,8,6,3] 47 [J' 0 10,O_ 47,Nm 48 (.c (.int .i64 9)),C_ 49,F_ 50 (J' 3 10),F_ 50 (O_ 51),F_ 50 (J' 2 3),F_ 50 (J_ 0 53),F_ 50 (L' 54),F_ 50 (M' 52 55),L_ 50 56 As] (.cond 57 (At 58 [J' 4 8,G' (rg 1) (O_ 58),J' 2 3,G' [2] (J_ 0 60),J' 3 10,G' [4] (O_ 62),G' [2,3,4,5] (N_ 1 61 63),G' [2,3,4,5,6] (O_ 64),G' (rg 8) (I' J5 [59,65]),G_ 11 (G' (rg 9) (Q_ 66))]) .skip)) (A_ [11,8,6,3] 67 [C_ 11,J' 4 8,O_ 68,I' GK [69],Q' (.cons (.int .i64) (.one (.sl (.one (.int .i64))))) (.d5 2 1 [Ad,.b_] [(0,2,70)]),B_ (.app 2 67 71),G_ 11 (C_ 72)] (.seq [7,6] (.region [oa 0 73 (.i5 (some 7) 8),oa 1 74 (.f5 4 3),xA 2 75 (.d7 0 none 74) [1],om 4 77 11,xF 3 76 GK [75] [1,2],⟨5,some 78,.tk Ng Yz 76 77,none,[1,2,3,4]⟩,⟨6,none,.clm 8 73 (.V_ 1 7 6 73),none,[0,1,2,3,4,5]⟩,xA 7 7 (.mv 78) (rg 7)]) .ret)))))))))))
def Lg:Fn:=⟨⟨3,79,2,false,[.cell 6 (some 7),.tmp 7],Zau⟩,[.agg [Au,(.Z',.sl (.one (.sl AB))),(.Z',.sl (.one (.sl AQ))),Au,(.Z',.sl AU),Au,(.Z',.bool)],.one .Z' (.int .i64),.one .Z' (.bool)],.f7 [.agg [AN,(.own,.sl (.one (.sl AB))),(.own,.sl (.one (.sl AQ))),AN,(.own,.sl AU),AN,(.own,.bool)],.one .own (.sl (.cons (.int .i64) (.one (.sl (.one (.int .i64))))))]⟩
theorem ZaX:Lg.A:=AM ⟨sA,vD,yu,Zad,ZaV,zO,qm,Zb,Zb,qj,trivial⟩
def VY:Ep->BS×B8:=Lg.V
def ZA:Ep->Prop:=Lg.O
theorem Zbd:Lg.B:=AO ⟨sL,uN,xm,y4,ZaB,Zab,qv,Zf,Zf,trivial⟩ (by kernel_rfl) (λx=>by kernel_rfl)
def Zah:d4:=(A_ [6,3,2,1] 3 [O' 0 7 0,H_ 6 (B_ (.e_ 1 [Ad,.b_,.b_,Ad,.b_,Ad,EO])),Q_ (.c .b_),Q_ As] (.seq [6,3,2,1] (A_ [30,6,3,2,1] 11 [K_ 0 7 3,I' KA [11],P' 12,C_ 13,F' 14 (Q_ 1),F' 14 (M' 15 AL),L_ 14 AV 16,C_ 17,F' 18 (Q_ 1),F' 18 (J' 0 3),F' 18 (J' 0 20),F' 18 (J_ 0 21),F' 18 (B_ (.bin .geq 19 22)),L_ 18 AV 23,C_ 24,F' 25 (K_ 0 7 3),F' 25 (Q_ 1),F' 25 (I' Iv [26,27]),F' 25 (B_ (.bin .geq 28 AL)),L_ 25 AV 29] (.cond 30 (A_ [8,7,6] 31 [B_ (.build [Ad,.b_,.b_,Ad,.b_,Ad,EO] []),E_ (.V_ 1 7 6 31),H_ 7 (Q_ (.c .b_)),Q_ As] .ret) .skip)) (A_ [10,9,6] 33 [K_ 0 7 3,C_ 1,C_ 2,I' Lg [33,34,35],G_ 32 (C_ 36),B_ (.extract 32 0),B_ (.extract 32 1),H_ 9 (B_ (.e_ 2 [Ad,.b_,.b_,Ad,.b_,Ad,EO])),E_ (.V_ 2 7 9 37),C_ 38] (A_ [8,7,6] 39 [C' (.d7 2 (some 7) 9),C_ 10,E_ (.V_ 1 7 6 39),H_ 7 (C_ 40),Q_ AV] .ret))))
def Iz:Fn:=⟨⟨3,41,3,false,[.cell 6 (some 7),.tmp 7,.tmp 8],Zah⟩,[.agg [Au,(.Z',.sl (.one (.sl AB))),(.Z',.sl (.one (.sl AQ))),Au,(.Z',.sl AU),Au,(.Z',.bool)],.one .Z' (.int .i64),.one .Z' (.bool)],.f7 [.agg [AN,(.own,.sl (.one (.sl AB))),(.own,.sl (.one (.sl AQ))),AN,(.own,.sl AU),AN,(.own,.bool)],.one .own (.sl (.cons (.int .i64) (.one (.sl (.one (.int .i64)))))),.one .own (.bool)]⟩
theorem im:Iz.A:=AM ⟨uA,zp,ZaX,trivial⟩
def Ap:Ep->BS×B8×Bool:=Iz.V
def Ny:Ep->Prop:=Iz.O
theorem iE:Iz.B:=AO ⟨uG,Zag,Zbd,trivial⟩ (by kernel_rfl) (λx=>by kernel_rfl)
end
section
set_option maxRecDepth 100000
theorem rL(x):Jo x=w_ (BM (x,1,36)) (w_ (g9 x 39) (g9 x 42)):=(Kf.v x).trans (by kernel_rfl)
theorem rE(x):YI x=D8 (x,1,36):=(Kf.o x).trans (by kernel_rfl)
theorem ZaI (x):RO x=((x.2.2.1,x.2.2.2.1,(Y_ (W_ (W_ (U' (U' (Jo x.2.2.2.1))) x.1.2.2.2.2.2.2) (W_ (iLe x.2.2.2.1 26) (g9 (iAndNot .i64 (iOr .i64 x.2.2.2.2.1 x.1.2.2.2.2.2.1) 2) 0))) 2 (iOr .i64 x.2.2.2.2.1 x.1.2.2.2.2.2.1)),x.2.2.2.2.2),x.1.1,x.1.2.1,x.1.2.2.1,x.1.2.2.2.1,x.1.2.2.2.2.1,0,(W_ (U' (U' (Jo x.2.2.2.1))) x.1.2.2.2.2.2.2)):=by unfold RO;exact(congrFun (shut _).2 x).trans (by kernel_rfl)
theorem ZaT (x):RI x=(YI x.2.2.2.1):=by unfold RI;exact(congrFun (shut _).2 x).trans (by kernel_rfl)
theorem vH (x):Pq x=(Y_ (w_ (U' (g9 x.2.2.1 2)) (U' (iGt x.2.2.2.1 0))) (x.2.2,x.1.1,x.1.2.1,x.1.2.2.1,(Y_ (g9 x.2.2.1 2) x.1.2.2.2.1 (Y_ (g9 x.2.2.1 4) (iXor .i64 x.1.2.2.2.1 (iShl .i64 1 x.2.2.2.2.2)) (Y_ (g9 x.2.2.1 5) (iAndNot .i64 (iShl .i64 1 x.2.2.2.2.2) 1) x.1.2.2.2.1))),x.1.2.2.2.2.1,(Y_ (g9 x.2.2.1 2) x.1.2.2.2.2.2.1 (Y_ (g9 x.2.2.1 4) x.1.2.2.2.2.2.1 (Y_ (g9 x.2.2.1 5) x.1.2.2.2.2.2.1 (Y_ (g9 x.2.2.1 8) (Y_ (g9 (iAnd .i64 x.1.2.2.2.2.2.1 x.2.2.2.2.1) x.2.2.2.2.1) (iAndNot .i64 x.1.2.2.2.2.2.1 x.2.2.2.2.1) (iOr .i64 x.1.2.2.2.2.2.1 x.2.2.2.2.1)) x.1.2.2.2.2.2.1)))),(Y_ (g9 x.2.2.1 2) x.1.2.2.2.2.2.2 (Y_ (g9 x.2.2.1 4) x.1.2.2.2.2.2.2 (Y_ (g9 x.2.2.1 5) x.1.2.2.2.2.2.2 (Y_ (g9 x.2.2.1 8) x.1.2.2.2.2.2.2 (Y_ (g9 x.2.2.1 10) (U' x.1.2.2.2.2.2.2) x.1.2.2.2.2.2.2)))))) (RO x)):=by unfold Pq;exact(congrFun (shut _).2 x).trans (by kernel_rfl)
theorem w9 (x):Ph x=(((g9 x.2.2.1 2)=true->(((iGt x.2.2.2.1 0)=true->(RI x))/\((iGt x.2.2.2.1 0)=false->True)))/\((g9 x.2.2.1 2)=false->(((g9 x.2.2.1 4)=true->((0:Int)<=x.2.2.2.2.2))/\((g9 x.2.2.1 4)=false->(((g9 x.2.2.1 5)=true->((0:Int)<=x.2.2.2.2.2))/\((g9 x.2.2.1 5)=false->True)))))):=by unfold Ph;exact(congrFun (shut _).2 x).trans (by kernel_rfl)
def Mb(x:Ep):=BM (x.2.1,0,(iSub .i64 x.1.1 1))
def Co(x:Ep):=Vj ((x.1.1,x.1.2.1),(Rr (x.1.2.2.2.1,x.1.2.2.2.2.1)),x.2.1)
def BV(x:Ep):=Pq ((RG x.1),((Y_ x.2.2 (DE (Co x)).1 (DF (Co x)).1),(Y_ x.2.2 (DE (Co x)).2.1 (DF (Co x)).2.1),(Y_ x.2.2 (DE (Co x)).2.2.1 (DF (Co x)).2.2.1),(Y_ x.2.2 (DE (Co x)).2.2.2 (DF (Co x)).2.2.2)),(Y_ x.2.2 (DE (Co x)).1 (DF (Co x)).1),(Y_ x.2.2 (DE (Co x)).2.1 (DF (Co x)).2.1),(Y_ x.2.2 (DE (Co x)).2.2.1 (DF (Co x)).2.2.1),(Y_ x.2.2 (DE (Co x)).2.2.2 (DF (Co x)).2.2.2))
def Rm(x:Ep):=CF (i9 (BV x).2.2.2.2.2.1 [(x.2.1,(BV x).1)])
def Rn(x:Ep):=GA ((i9 (BV x).2.2.2.2.2.1 [(x.2.1,(BV x).1)]),(So x.1.2.2.1 (R_ (BV x).1.2.2.2) []))
theorem ZmH(x:Ep)(d)(_:d=BV x)(k)(_:k=d.1.2.2.2)(a)(_:a=W_ (g9 d.1.1 9) (c_ k (U_ x.1.2.2.1)))(b)(_:b=i9 d.2.2.2.2.2.1 [(x.2.1,d.1)])(m)(_:m=U' (Mc x.1))(n)(_:n=U' (Mb x))(c)(_:c=w_ m (w_ n (iGe (PD (x.1,x.2.1)) 0)))(e)(_:e=Co x)(f)(_:f=x.1.2.2.2.2.1)(g)(_:g=Y_ x.2.2 (DE e).2.2.1 (DF e).2.2.1)(h)(_:h=Y_ x.2.2 (DE e).2.2.2 (DF e).2.2.2)(i)(_:i=Y_ a (Rn x) [])(j)(_:j=Y_ x.2.2 (DE e).2.1 (DF e).2.1)(l)(_:l=Y_ x.2.2 (DE e).1 (DF e).1)(p)(_:p=List.length x.1.2.2.1)(q)(_:q=List.length d.2.2.2.1)(r)(_:r=List.length d.2.2.1):BL x=Y_ c ((0,[],[],0,[],0,false),[],false) ((d.2.1,d.2.2.1,d.2.2.2.1,d.2.2.2.2.1,b,d.2.2.2.2.2.2),U4 (CF f,i9 i [Rm x]),true)/\PB x=((UL x.1/\(m=true->True)/\(m=false->D8 (x.2.1,0,iSub .i64 x.1.1 1)/\(n=true->True)/\(n=false->VB (x.1,x.2.1))))/\(c=true->True)/\(c=false->VA x.1/\UN (x.1.2.2.2.1,f)/\U2 ((x.1.1,x.1.2.1),Rr (x.1.2.2.2.1,f),x.2.1)/\((x.2.2=true->Vu e)/\(x.2.2=false->VU e))/\Ph (RG x.1,(l,j,g,h),l,j,g,h)/\AD ((List.length d.2.2.2.2.2.1+List.length [(x.2.1,d.1)])*5)/\((a=true->((0:Int)<=k/\k<(p:Int))/\R_ k<p/\QQ (b,So x.1.2.2.1 (R_ k) []))/\(a=false->True))/\Pj b/\AD ((List.length i+List.length [Rm x])*2)/\Pj f/\Uy (CF f,i9 i [Rm x])/\r=r/\q=q/\List.length b=List.length b)):=by subst_vars;exact⟨(Lf.v x).trans (by kernel_rfl),(Lf.o x).trans (by kernel_rfl)⟩
abbrev ir:=λx=>(ZmH x _ rfl _ rfl _ rfl _ rfl _ rfl _ rfl _ rfl _ rfl _ rfl _ rfl _ rfl _ rfl _ rfl _ rfl _ rfl _ rfl _ rfl).1
abbrev iA:=λx=>(ZmH x _ rfl _ rfl _ rfl _ rfl _ rfl _ rfl _ rfl _ rfl _ rfl _ rfl _ rfl _ rfl _ rfl _ rfl _ rfl _ rfl _ rfl).2
theorem su(x):L8 x=Y_ (iGe x 1) (w_ (iLe x 36) (w_ (g9 x 39) (g9 x 42))) (w_ (g9 x 39) (g9 x 42)):=(Ie.v x).trans (by kernel_rfl)
theorem rB(x):YO x=True:=(Ie.o x).trans (by kernel_rfl)
theorem y9 (x):PC x=(Y_ (w_ (U' (g9 x.2.2.1 2)) (U' (g9 x.2.2.2.1 0))) ((x.2.2.1,x.2.2.2.1,(Y_ (g9 x.2.2.1 2) (Y_ (W_ (W_ x.1.2.2.2.2.2.2 (L8 x.2.2.2.1)) (W_ (iLe x.2.2.2.1 26) (g9 (iAndNot .i64 (iOr .i64 x.2.2.2.2.1 x.1.2.2.2.2.2.1) 2) 0))) 2 (iOr .i64 x.2.2.2.2.1 x.1.2.2.2.2.2.1)) x.2.2.2.2.1),x.2.2.2.2.2),x.1.1,x.1.2.1,x.1.2.2.1,(Y_ (g9 x.2.2.1 2) x.1.2.2.2.1 (Y_ (g9 x.2.2.1 4) (iXor .i64 x.1.2.2.2.1 (iShl .i64 1 x.2.2.2.2.2)) (Y_ (g9 x.2.2.1 5) (iAndNot .i64 (iShl .i64 1 x.2.2.2.2.2) 1) x.1.2.2.2.1))),x.1.2.2.2.2.1,(Y_ (g9 x.2.2.1 2) (Y_ (W_ (W_ x.1.2.2.2.2.2.2 (L8 x.2.2.2.1)) (W_ (iLe x.2.2.2.1 26) (g9 (iAndNot .i64 (iOr .i64 x.2.2.2.2.1 x.1.2.2.2.2.2.1) 2) 0))) 0 0) (Y_ (g9 x.2.2.1 4) x.1.2.2.2.2.2.1 (Y_ (g9 x.2.2.1 5) x.1.2.2.2.2.2.1 (Y_ (g9 x.2.2.1 8) (Y_ (g9 (iAnd .i64 x.1.2.2.2.2.2.1 x.2.2.2.2.1) x.2.2.2.2.1) (iAndNot .i64 x.1.2.2.2.2.2.1 x.2.2.2.2.1) (iOr .i64 x.1.2.2.2.2.2.1 x.2.2.2.2.1)) x.1.2.2.2.2.2.1)))),(Y_ (g9 x.2.2.1 2) (Y_ (W_ (W_ x.1.2.2.2.2.2.2 (L8 x.2.2.2.1)) (W_ (iLe x.2.2.2.1 26) (g9 (iAndNot .i64 (iOr .i64 x.2.2.2.2.1 x.1.2.2.2.2.2.1) 2) 0))) (W_ x.1.2.2.2.2.2.2 (L8 x.2.2.2.1)) (W_ x.1.2.2.2.2.2.2 (L8 x.2.2.2.1))) (Y_ (g9 x.2.2.1 4) x.1.2.2.2.2.2.2 (Y_ (g9 x.2.2.1 5) x.1.2.2.2.2.2.2 (Y_ (g9 x.2.2.1 8) x.1.2.2.2.2.2.2 (Y_ (g9 x.2.2.1 10) (U' x.1.2.2.2.2.2.2) x.1.2.2.2.2.2.2)))))) (x.2.2,x.1)):=by unfold PC;exact(congrFun (shut _).2 x).trans (by kernel_rfl)
theorem zu (x):Px x=(((g9 x.2.2.1 2)=true->(((g9 x.2.2.2.1 0)=true->True)/\((g9 x.2.2.2.1 0)=false->((x.1.2.2.2.2.2.2=true->(YO x.2.2.2.1))/\(x.1.2.2.2.2.2.2=false->True)))))/\((g9 x.2.2.1 2)=false->(((g9 x.2.2.1 4)=true->((0:Int)<=x.2.2.2.2.2))/\((g9 x.2.2.1 4)=false->(((g9 x.2.2.1 5)=true->((0:Int)<=x.2.2.2.2.2))/\((g9 x.2.2.1 5)=false->True)))))):=by unfold Px;exact(congrFun (shut _).2 x).trans (by kernel_rfl)
def Js(x:Ep):=Rx ((x.1.1,x.1.2.1),(EW (x.1.2.2.2.1,x.1.2.2.2.2.1)),x.2.1)
def Ex(x:Ep):=V1 (So (So x.1.2.1 (R_ (Js x)) []) (R_ x.2.1) (0,0,0,0))
def Ey(x:Ep):=VP (So (So x.1.2.1 (R_ (Js x)) []) (R_ x.2.1) (0,0,0,0))
def BU(x:Ep):=PC ((Q4 x.1),((Y_ x.2.2 (Ey x).1 (Ex x).1),(Y_ x.2.2 (Ey x).2.1 (Ex x).2.1),(Y_ x.2.2 (Ey x).2.2.1 (Ex x).2.2.1),(Y_ x.2.2 (Ey x).2.2.2 (Ex x).2.2.2)),(Y_ x.2.2 (Ey x).1 (Ex x).1),(Y_ x.2.2 (Ey x).2.1 (Ex x).2.1),(Y_ x.2.2 (Ey x).2.2.1 (Ex x).2.2.1),(Y_ x.2.2 (Ey x).2.2.2 (Ex x).2.2.2))
def Rp(x:Ep):=Cd (i9 (BU x).2.2.2.2.2.1 [(x.2.1,(BU x).1)])
def Rk(x:Ep):=QV ((i9 (BU x).2.2.2.2.2.1 [(x.2.1,(BU x).1)]),(So x.1.2.2.1 (R_ (BU x).1.2.2.2) []))
theorem ZmM(x:Ep)(d)(_:d=BU x)(k)(_:k=d.1.2.2.2)(a)(_:a=W_ (g9 d.1.1 9) (c_ k (U_ x.1.2.2.1)))(b)(_:b=i9 d.2.2.2.2.2.1 [(x.2.1,d.1)])(c)(_:c=So x.1.2.1 (R_ (Js x)) [])(e)(_:e=x.1.2.2.2.2.1)(f)(_:f=Y_ x.2.2 (Ey x).2.2.1 (Ex x).2.2.1)(g)(_:g=Y_ x.2.2 (Ey x).2.2.2 (Ex x).2.2.2)(h)(_:h=Y_ a (Rk x) [])(i)(_:i=Y_ x.2.2 (Ey x).2.1 (Ex x).2.1)(j)(_:j=So c (R_ x.2.1) (0,0,0,0))(l)(_:l=Y_ x.2.2 (Ey x).1 (Ex x).1)(m)(_:m=List.length x.1.2.2.1)(n)(_:n=List.length d.2.2.2.1)(p)(_:p=List.length x.1.2.1)(q)(_:q=List.length d.2.2.1):VY x=((d.2.1,d.2.2.1,d.2.2.2.1,d.2.2.2.2.1,b,d.2.2.2.2.2.2),OV (Cd e) (i9 h [Rp x]))/\ZA x=(Ux x.1/\UQ (x.1.2.2.2.1,e)/\Rq ((x.1.1,x.1.2.1),EW (x.1.2.2.2.1,e),x.2.1)/\((0:Int)<=Js x/\Js x<(p:Int))/\R_ (Js x)<p/\((0:Int)<=x.2.1/\x.2.1<(List.length c:Int))/\R_ x.2.1<List.length c/\((x.2.2=true->Vx j)/\(x.2.2=false->VV j))/\Px (Q4 x.1,(l,i,f,g),l,i,f,g)/\AD ((List.length d.2.2.2.2.2.1+List.length [(x.2.1,d.1)])*5)/\((a=true->((0:Int)<=k/\k<(m:Int))/\R_ k<m/\QR (b,So x.1.2.2.1 (R_ k) []))/\(a=false->True))/\Pf b/\AD ((List.length h+List.length [Rp x])*2)/\Pf e/\OT (Cd e) (i9 h [Rp x])/\q=q/\n=n/\List.length b=List.length b):=by subst_vars;exact⟨(Lg.v x).trans (by kernel_rfl),(Lg.o x).trans (by kernel_rfl)⟩
abbrev Zar:=λx=>(ZmM x _ rfl _ rfl _ rfl _ rfl _ rfl _ rfl _ rfl _ rfl _ rfl _ rfl _ rfl _ rfl _ rfl _ rfl _ rfl _ rfl).1
abbrev Za9:=λx=>(ZmM x _ rfl _ rfl _ rfl _ rfl _ rfl _ rfl _ rfl _ rfl _ rfl _ rfl _ rfl _ rfl _ rfl _ rfl _ rfl _ rfl).2
theorem ZmO(x:Ep)(b)(_:b=iGe x.2.1 x.1.1)(c)(_:c=U' (FD x.1))(d)(_:d=c_ x.2.1 0)(a)(_:a=w_ c (w_ d (w_ b (iGe (FJ (x.1,x.2.1)) 0)))):Ap x=Y_ a ((0,[],[],0,[],0,false),[],false) ((VY x).1,(VY x).2,true)/\Ny x=((U0 x.1/\(c=true->True)/\(c=false->(d=true->True)/\(d=false->(b=true->True)/\(b=false->VE (x.1,x.2.1)))))/\(a=true->True)/\(a=false->ZA x)):=by subst_vars;exact⟨(Iz.v x).trans (by kernel_rfl),(Iz.o x).trans (by kernel_rfl)⟩
abbrev ig:=λx=>(ZmO x _ rfl _ rfl _ rfl _ rfl).1
abbrev ic:=λx=>(ZmO x _ rfl _ rfl _ rfl _ rfl).2
attribute [irreducible] Jo YI BL PB L8 YO VY ZA Ap Ny
end
theorem LC(k c m n:Int):B4 (k,c,m,n)=true ↔
 ((k=0\/k=1\/k=10)/\c=0/\m=0/\n=0)\/(k=2/\n=0/\0<=c/\c<=56/\0<=m/\m<=15/\(c≠0\/m≠0))\/((k=3\/k=4)/\c=0/\m=0/\1<=n/\n<=3)\/((k=5\/k=9)/\c=0/\m=0/\0<=n/\n<=3) \/
 (k=6/\1<=c/\c<=56/\1<=m/\m<=15/\n=0)\/(k=7/\1<=c/\c<=56/\m=0/\1<=n/\n<=3)\/(k=8/\c=0/\1<=m/\m<=15/\n=0):=by
 rw[Rh];simp only[BN,Bl,Az,BD,Bj,VC,VJ,Zj,CK,E2];repeat' split
 all_goals simp only[Ai,B7,Bq,BZ,F0,Ce,Av,Bm,Gr,Jb,A7,JF,GZ,Gr,decide_not]at *
 all_goals omega
section
set_option maxRecDepth 20000
abbrev Fu:=Int×Int×Int×Int
abbrev eV:=Int×Cv×CA×Int×Bg×Int×Bool
theorem Zha{a b:Nat}(i:a<4611686018427387904)(g:b<4611686018427387904):iXor .i64 (a:Int) (b:Int)=((a ^^^ b:Nat):Int):=by
 have e:(BitVec.ofInt 64 (a:Int) ^^^ BitVec.ofInt 64 (b:Int)).toNat=a ^^^ b:=by
  rw[BitVec.ofInt_natCast,BitVec.ofInt_natCast,BitVec.toNat_xor,BitVec.toNat_ofNat,BitVec.toNat_ofNat,Nat.mod_eq_of_lt (by omega),Nat.mod_eq_of_lt (by omega)]
 have h:a ^^^ b<2^62:=Nat.xor_lt_two_pow (by omega) (by omega);rw[oJ];show IntKind.i64.wrap ((BitVec.ofInt 64 (a:Int) ^^^ BitVec.ofInt 64 (b:Int)).toNat:Int)=_;rw[e];exact wrap_i64 (by unfold Br;omega)
def Fz(a b:Nat):Nat:=a &&& (15-b)
theorem ZcT:∀a b:Fin 16,(BitVec.ofInt 64 (a.val:Int) &&& ~~~BitVec.ofInt 64 (b.val:Int)).toNat=Fz a.val b.val:=by decide +kernel
theorem mM(a b:Nat):Fz a b<=a:=Nat.and_le_left
theorem Z7{a b:Nat}(i:a<16)(g:b<16):iAndNot .i64 (a:Int) (b:Int)=((Fz a b:Nat):Int):=by
 have e:(BitVec.ofInt 64 (a:Int) &&& ~~~BitVec.ofInt 64 (b:Int)).toNat=Fz a b:=ZcT ⟨a,i⟩ ⟨b,g⟩;have h:=mM a b;rw[kn];show IntKind.i64.wrap ((BitVec.ofInt 64 (a:Int) &&& ~~~BitVec.ofInt 64 (b:Int)).toNat:Int)=_;rw[e];exact wrap_i64 (by unfold Br;omega)
theorem Zft{n:Nat}(h:n<=40):iShl .i64 1 (n:Int)=((2^n:Nat):Int):=by
 have hp:2^n<=2^40:=Nat.pow_le_pow_right (by omega) h;have e:=SO (a:=1) (k:=n) (by omega) (by rw[Fo];exact Nat.lt_of_le_of_lt hp (by decide));rwa [Fo]at e
theorem Zci(c:Int):L8 c=Jo c:=by
 rw[su,rL,G0];simp only[BN,Bl,BD,CK,E2];by_cases h:1<=c
 ·simp[h]
 simp[h]
def SC(w:Bool)(c:Int)(m on:Nat)(b:Bool):Nat:=if (b=true/\w=true)/\c<=26/\Fz (m ||| on) 2=0 then 2 else m ||| on
def Ev(w:Bool)(x:eV)(a:Fu):Fu×eV:=
 if a.1=2 then
  if 0<a.2.1 then ((a.1,a.2.1,((SC w a.2.1 a.2.2.1.toNat x.2.2.2.2.2.1.toNat x.2.2.2.2.2.2:Nat):Int),a.2.2.2),x.1,x.2.1,x.2.2.1,x.2.2.2.1,x.2.2.2.2.1,0,(x.2.2.2.2.2.2&&w))
  else (a,x)
 else if a.1=4 then (a,x.1,x.2.1,x.2.2.1,((x.2.2.2.1.toNat ^^^ 2^a.2.2.2.toNat:Nat):Int),x.2.2.2.2)
 else if a.1=5 then (a,x.1,x.2.1,x.2.2.1,((Fz (2^a.2.2.2.toNat) 1:Nat):Int),x.2.2.2.2)
 else if a.1=8 then (a,x.1,x.2.1,x.2.2.1,x.2.2.2.1,x.2.2.2.2.1,((if x.2.2.2.2.2.1.toNat &&& a.2.2.1.toNat=a.2.2.1.toNat then Fz x.2.2.2.2.2.1.toNat a.2.2.1.toNat else x.2.2.2.2.2.1.toNat ||| a.2.2.1.toNat:Nat):Int),x.2.2.2.2.2.2)
 else if a.1=10 then (a,x.1,x.2.1,x.2.2.1,x.2.2.2.1,x.2.2.2.2.1,x.2.2.2.2.2.1,!x.2.2.2.2.2.2)
 else (a,x)
theorem ZeA(x:eV)(a:Fu)(ha:B4 a=true)(f0:0<=x.2.2.2.1)(f1:x.2.2.2.1<=15)(o0:0<=x.2.2.2.2.2.1)(o1:x.2.2.2.2.2.1<=15):Ph (x,a,a)/\Px (x,a,a)/\Pq (x,a,a)=Ev (Jo a.2.1) x a/\PC (x,a,a)=Ev (Jo a.2.1) x a:=by
 obtain⟨k,L,mc,f,hd,on,cp⟩:=x;obtain⟨g,c,m,n⟩:=a;have h:=(LC g c m n).1 ha;simp only at f0 f1 o0 o1;obtain⟨F,rfl⟩:=Int.eq_ofNat_of_zero_le f0;obtain⟨O,rfl⟩:=Int.eq_ofNat_of_zero_le o0;obtain⟨M,rfl⟩:=Int.eq_ofNat_of_zero_le (show 0<=m by omega);obtain⟨P,rfl⟩:=Int.eq_ofNat_of_zero_le (show 0<=n by omega);have hM:M<16:=by omega
 have hO:O<16:=by omega
 have hP:P<=3:=by omega
 have hor:M ||| O<2^4:=Nat.or_lt_two_pow (by omega) (by omega)
 have h24:(2:Nat)^4=16:=by decide
 have e2:((2:Nat):Int)=2:=rfl;have h2P:2^P<=2^3:=Nat.pow_le_pow_right (by omega) hP;have h23:(2:Nat)^3=8:=by decide
 have x1:iOr .i64 (M:Int) (O:Int)=((M ||| O:Nat):Int):=XH (by omega) (by omega);have x2:iAndNot .i64 ((M ||| O:Nat):Int) 2=((Fz (M ||| O) 2:Nat):Int):=Z7 (b:=2) (by omega) (by omega);have x3:iShl .i64 1 (P:Int)=((2^P:Nat):Int):=Zft (by omega);have x4:iXor .i64 (F:Int) ((2^P:Nat):Int)=((F ^^^ 2^P:Nat):Int):=Zha (by omega) (by omega);have Z:iAndNot .i64 ((2^P:Nat):Int) 1=((Fz (2^P) 1:Nat):Int):=Z7 (b:=1) (by omega) (by omega);have Y:iAnd .i64 (O:Int) (M:Int)=((O &&& M:Nat):Int):=mP (by omega) (by omega);have U:iAndNot .i64 (O:Int) (M:Int)=((Fz O M:Nat):Int):=Z7 hO hM;have R:iOr .i64 (O:Int) (M:Int)=((O ||| M:Nat):Int):=XH (by omega) (by omega);have N:((Fz (M ||| O) 2:Nat):Int)=0↔Fz (M ||| O) 2=0:=by omega
 have J:((O &&& M:Nat):Int)=(M:Int)↔O &&& M=M:=by omega
 refine⟨?_,?_,?_,?_⟩
 ·rw[w9];simp only[ZaT,rE];exact⟨λ_=>⟨λ_=>by rw[PG];trivial,λ_=>trivial⟩,λ_=>⟨λ_=>by omega,λ_=>⟨λ_=>by omega,λ_=>trivial⟩⟩⟩
 ·rw[zu];simp only[rB];exact⟨λ_=>⟨λ_=>trivial,λ_=>⟨λ_=>trivial,λ_=>trivial⟩⟩,λ_=>⟨λ_=>by omega,λ_=>⟨λ_=>by omega,λ_=>trivial⟩⟩⟩
 ·rw[vH,ZaI];unfold Ev SC;simp only[x1,x2,x3,x4,Z,Y,U,R,AG];generalize Jo c=w;simp only[BN,Bl,Aw,Az,BD,D3,E2,N,J];by_cases q:g=2
  ·by_cases D:0<c
   ·simp only[q,D,decide_true,Gp,Bool.or_false,AY,A3,AS,I7];by_cases j:(cp=true/\w=true)/\c<=26/\Fz (M ||| O) 2=0
    ·rw[Ac j,Ac (by obtain⟨⟨C,A⟩,I,G⟩:=j;simp[C,A,I,G])];obtain⟨⟨C,A⟩,I,G⟩:=j;simp[C,A]
    rw[Ae j,Ae (by intro t;apply j;simp at t;exact⟨⟨t.1.2,t.1.1⟩,t.2⟩)];rw[Bool.and_comm]
   simp only[q,D,decide_true,Gp,decide_false,Bool.not_false,Bool.or_true,AS,A3]
  simp only[q,decide_false,Bool.not_false,Bool.true_or,AS,A3,AY];by_cases z:g=4
  ·simp only[z,decide_true,AS]
  simp only[z,decide_false,A3,AY];by_cases y:g=5
  ·simp only[y,decide_true,AS]
  simp only[y,decide_false,A3,AY];by_cases u:g=8
  ·simp only[u,decide_true,AS,Av];split<;>rfl
  simp only[u,decide_false,A3,AY];by_cases i:g=10
  ·simp only[i,decide_true,AS]
  simp only[i,decide_false,A3,AY]
 rw[y9];unfold Ev SC;simp only[Zci,x1,x2,x3,x4,Z,Y,U,R,AG];generalize Jo c=w;simp only[BN,Bl,Aw,Az,BD,D3,E2,N,J];by_cases q:g=2
 ·by_cases D:0<c
  ·have s:¬c=0:=(by omega);simp only[q,D,s,decide_true,decide_false,Gp,Bool.not_false,Bool.or_true,Bool.or_false,AY,A3,AS,I7,ite_self];by_cases j:(cp=true/\w=true)/\c<=26/\Fz (M ||| O) 2=0
   ·rw[Ac j,Ac (by obtain⟨⟨C,A⟩,I,G⟩:=j;simp[C,A,I,G])];rfl
   rw[Ae j,Ae (by intro t;apply j;simpa using t)]
  have s:c=0:=(by omega);simp only[q,s,decide_true,Gp,Bool.or_false,AY,A3,AS];simp
 simp only[q,decide_false,Bool.not_false,Bool.true_or,AS,A3,AY];by_cases z:g=4
 ·simp only[z,decide_true,AS]
 simp only[z,decide_false,A3,AY];by_cases y:g=5
 ·simp only[y,decide_true,AS]
 simp only[y,decide_false,A3,AY];by_cases u:g=8
 ·simp only[u,decide_true,AS,Av];split<;>rfl
 simp only[u,decide_false,A3,AY];by_cases i:g=10
 ·simp only[i,decide_true,AS]
 simp only[i,decide_false,A3,AY]
theorem ZgY:∀F:Fin 16,∀P l:Fin 5,F.val % 2=0->1<=P.val->P.val<l.val->F.val<2^l.val->(F.val ^^^ 2^P.val) % 2=0/\F.val ^^^ 2^P.val<2^l.val:=by decide +kernel
theorem Zix:∀P l:Fin 5,P.val<l.val->(Fz (2^P.val) 1) % 2=0/\Fz (2^P.val) 1<2^l.val:=by decide +kernel
end
section
set_option maxRecDepth 20000
theorem lI{c:Int->Bool}{f:Int->Int}(n:Nat)(t:Nat->Bool)(b:(n:Int)<=9223372036854775806)(j:∀i:Nat,i<=n->c i=(decide (i<n)&&!t i))(g:∀i:Nat,i<n->f i=V' .i64 i 1):c_ (Al c f 0) (n:Int)=false↔∀i,i<n->t i=false:=by
 rw[Xx n t b j g,Am,Bm,<- PI];have:=Jw t n 0;omega
structure EngOk (x:DU):Prop where
 map:D6 (x.1,x.2.1)=true
 mac:x.2.2.1.length<=4
 macs:∀m∈x.2.2.1,Iq m=true
 held:Ct x.2.2.2.2.1=true
 hk:∀a∈x.2.2.2.2.1,a.1<x.1/\(a.2.1≠9->a.2.2.2.2<x.2.1.length)
 on0:0<=x.2.2.2.2.2.1
 on1:x.2.2.2.2.2.1<=15
 f0:0<=x.2.2.2.1
 f2:x.2.2.2.1 % 2=0
 f1:x.2.2.2.1<((2^x.2.1.length:Nat):Int)
theorem m9(n:Nat)(h:n<=40):iShl .i64 1 (n:Int)=((2^n:Nat):Int):=by
 have hp:2^n<=2^40:=Nat.pow_le_pow_right (by omega) h;have e:=SO (a:=1) (k:=n) (by omega) (by rw[Fo];exact Nat.lt_of_le_of_lt hp (by decide));rwa [Fo]at e
theorem ZI(x:DU)(hs:DG x):FD x=true↔EngOk x:=by
 obtain⟨k,l,b,D,hd,on,F⟩:=x;have R:b.length<=1048576:=hs.2.1.1;have Y:hd.length<=1048576:=hs.2.2.1.1;have M:=lI (c:=J9 (k,l,b,D,hd,on,F)) (f:=H7) b.length (λi=>!Iq (b.getD i [])) (by omega)
  (λi hi=>by simp only[J9,Az,Am,Ak,Aw,AJ,Ax,AG,CM]) (λi hi=>rfl)
 have L:=lI (c:=L3 (k,l,b,D,hd,on,F)) (f:=H7) hd.length (λi=>decide (k<=(hd.getD i (0,0,0,0,0)).1)||(!decide ((hd.getD i (0,0,0,0,0)).2.1=9)&&decide ((l.length:Int)<=(hd.getD i (0,0,0,0,0)).2.2.2.2))) (by omega)
  (λi hi=>by simp only[L3,Az,Bl,Am,CK,Bj,Ak,Aw,AJ,Ax,AG,CM]) (λi hi=>rfl)
 have O:(∀i,i<b.length->(!Iq (b.getD i []))=false)↔∀m∈b,Iq m=true:=by
  constructor
  ·intro h m hm;obtain⟨i,hi,rfl⟩:=IW hm;have:=h i hi;rw[Hw b [] hi]at this;simpa using this
  intro h i hi;have:=h _ (B5 b i [] hi);simpa using this
 have N:(∀i,i<hd.length->(decide (k<=(hd.getD i (0,0,0,0,0)).1)||(!decide ((hd.getD i (0,0,0,0,0)).2.1=9)&&decide ((l.length:Int)<=(hd.getD i (0,0,0,0,0)).2.2.2.2)))=false)↔∀a∈hd,a.1<k/\(a.2.1≠9->a.2.2.2.2<l.length):=by
  have j:∀a:Int×Int×Int×Int×Int,(decide (k<=a.1)||(!decide (a.2.1=9)&&decide ((l.length:Int)<=a.2.2.2.2)))=false↔a.1<k/\(a.2.1≠9->a.2.2.2.2<l.length):=by
   intro a;simp only[Ce,F0,BZ,Av,Bm];constructor
   ·rintro⟨h1,y⟩;exact⟨by omega,λq=>by rcases y with h|h;exact absurd h q;omega⟩
   rintro⟨h1,y⟩;refine⟨by omega,?_⟩;by_cases q:a.2.1=9
   ·exact .inl q
   exact .inr (by have:=y q;omega)
  constructor
  ·intro h a Z;obtain⟨i,hi,rfl⟩:=IW Z;have:=h i hi;rw[Hw hd _ hi]at this;exact(j _).1 this
  intro h i hi;exact(j _).2 (h _ (B5 hd i _ hi))
 rw[gg];simp only;rw[Ak b,Ak hd,Ak l];simp only[Az,Aw,Bl,Ai,Bq,Ce,BZ,M.trans O,L.trans N];constructor
 ·rintro⟨⟨g,C,u,t,s⟩,b1,b2,z,I,G⟩;have U:l.length<=4:=(Ht hs.1 g).l2;rw[m9 _ (by omega),Am,Av]at G;rw[CK,Av]at z;rw[BD,Av,ni z]at I;rw[D3,Bm]at C s;rw[Am,Bm]at t;exact⟨g,by simp only;omega,b1,u,b2,by simp only;omega,by simp only;omega,z,I,G⟩
 rintro⟨g,C,u,t,s,a6,a7,A,J,n⟩;simp only at g C u t s a6 a7 A J n;have U:l.length<=4:=(Ht hs.1 g).l2;refine⟨⟨g,by rw[D3,Bm];omega,t,by rw[Am,Bm];omega,by rw[D3,Bm];omega⟩,u,s,by rw[CK,Av];exact A,by rw[BD,Av,ni A];exact J,by rw[m9 _ (by omega),Am,Av];exact n⟩
end
theorem Zao(k:Int)(x:Cv)(on b:Int)(hs:Ej (k,x))(h:¬BW ((k,x),on,b)<0):MapOk k x/\D6 (k,x)=true/\0<=b/\b<k/\0<=BW ((k,x),on,b)/\BW ((k,x),on,b)<x.length:=by
 rw[BW.eq_1,BN]at h ⊢;by_cases i:w_ (U' (D6 (k,x))) (w_ (c_ b 0) (iGe b k))=true
 ·rw[Ac i]at h;exact absurd (by decide) h
 rw[Ae i]at h ⊢;simp only[Am,CK,Aw,Bl,Gr,Ce,BZ,Bm]at i;obtain⟨n,h0,h1⟩:=i;have m:=Ht hs n;refine⟨m,n,by omega,by omega,by omega,?_⟩;rw[Zp];have:=m.l1;have:=m.l2;have q:∀ {c:Int->Bool} {f:Int->Int},(∀st,c st=true->0<st)->(∀st,f st=iSub .i64 st 1)->Y_ (iGt (Al c f (iSub .i64 (U_ x) 1)) 0) (Al c f (iSub .i64 (U_ x) 1)) 0<x.length:=by
  intro c f g s;have:=(NC (c:=c) (f:=f) (λst:Int=>0<=st/\st<x.length) (λst=>st.toNat) (λst t j=>by
   have:=g st j;rw[s,Fl (by unfold Br;omega)];omega) (x0:=iSub .i64 (U_ x) 1) (by rw[Ak,Fl (by unfold Br;omega)];omega)).1
  rw[BN];split<;>omega
 exact q (λst g=>by rw[Az,D3,Ai,Av]at g;exact g.1) (λst=>rfl)
theorem ZbU(k:Int)(x:Cv)(on b:Int)(hs:Ej (k,x)):Vj ((k,x),on,b)=Jq ((k,x),on,b):=by
 rw[xa,Jq];simp only[jq k x on b hs]
theorem Zb4(k:Int)(x:Cv)(on b:Int)(hs:Ej (k,x)):U2 ((k,x),on,b)/\gn ((k,x),on,b):=by
 obtain⟨j,i⟩:=jx k x on b hs;rw[uS,gn];simp only[jq k x on b hs];have g:c_ (BW ((k,x),on,b)) 0=false->(((0:Int)<=BW ((k,x),on,b)/\BW ((k,x),on,b)<(x.length:Int))/\R_ (BW ((k,x),on,b))<x.length/\((0:Int)<=b/\b<((So x (R_ (BW ((k,x),on,b))) []).length:Int))/\R_ b<(So x (R_ (BW ((k,x),on,b))) []).length):=by
  intro h;rw[Am,Bm]at h;obtain⟨m,_,h0,h1,q,n⟩:=Zao k x on b hs h;have:=m.row (BW ((k,x),on,b)).toNat (by omega);rw[AJ,Ax,Ax];omega
 exact⟨⟨j,λ_=>trivial,g⟩,i,λ_=>trivial,g⟩
theorem kI{c:Int->Bool}{f:Int->Int}{n:Nat}(j:n<=1048576)(h1:∀i:Nat,i<n->c i=true)(g:c n=false)(b:∀i:Int,f i=V' .i64 i 1):Al c f 0=(n:Int):=(JC (p:=λ_=>True) n (λi=>(i:Int)) rfl (λi hi=>⟨trivial,h1 i hi,by rw[b,Cp (by unfold Br;omega)];omega⟩) ⟨trivial,g⟩).2
theorem Zgl{k:Int}{x:List Dp}(h:MapOk k x):D6 (k,x)=true:=by
 obtain⟨M,L,J,I,q,t⟩:=h;rw[Y8];rw[kI (n:=x.length) (by omega) ?_ ?_ λ_=>rfl]
 ·simp only[Az,Aw,Bl,Am,D3,Ak];simp;omega
 ·intro i hi;have e:So x (R_ (i:Int)) []=x.getD i []:=(by rw[AJ,Ax,AG]);have z:=q i hi;rw[kI (n:=(x.getD i []).length) (by omega) ?_ ?_ λ_=>rfl]
  ·simp only[e,Az,Aw,Am,Bj,Ak,z];simp;omega
  ·intro j A;have b:=t i j hi A;have C:So (x.getD i []) (R_ (j:Int)) (0,0,0,0)=(x.getD i []).getD j (0,0,0,0):=(by rw[AJ,Ax,AG]);simp only[e,C,Az,Aw,Bl,BN,Am,BD,Bj,CK,Ak];generalize (x.getD i []).getD j (0,0,0,0)=a at b ⊢;obtain⟨G,F,D⟩:=b;rw[G];have s:(j:Int)<((x.getD i []).length:Int):=(by omega);simp only[s,decide_true,HG,Gp,Bool.false_or];have g:(!decide (a.1=9)&&decide ((x.length:Int)<=a.2.2.2))=false:=by
    by_cases y:a.1=9
    ·rw[Gj y];rfl
    have:=D y;rw[Dl (by omega:¬(x.length:Int)<=a.2.2.2),Bool.and_false]
   by_cases u:i=0
   ·have:=F u;rw[g,Dl this];simp
   rw[g];simp[u]
  simp only[e,Az,Am,Ak];simp
 simp only[Az,Am,Ak];simp
theorem ZdD(T:Int->Bool){c:Int->Bool}{f:Int->Int}{n:Nat}(h1:1<=n)(F:n<=4)(q:∀st,c st=(decide (0<st)&&!T st))(z:∀st,f st=iSub .i64 st 1):0<=Al c f ((n:Int)-1)/\Al c f ((n:Int)-1)<n/\(0<Al c f ((n:Int)-1)->T (Al c f ((n:Int)-1))=true)/\∀p:Int,Al c f ((n:Int)-1)<p->p<n->T p=false:=by
 have g:=NC (c:=c) (f:=f) (λst:Int=>0<=st/\st<n/\∀p:Int,st<p->p<n->T p=false) (λst=>st.toNat) (λst A b=>by
  obtain⟨D,C,y⟩:=A;rw[q,Ai,Av,Bq]at b;rw[z,Fl (by unfold Br;omega)];refine⟨⟨by omega,by omega,λp s i=>?_⟩,by omega⟩;by_cases e:p=st
  ·rw[e];exact b.2
  exact y p (by omega) i) (x0:=(n:Int)-1) ⟨by omega,by omega,λp s i=>by omega⟩
 obtain⟨⟨x,u,t⟩,j⟩:=g;refine⟨x,u,λh0=>?_,t⟩;rw[q,Gj h0,HG,BZ]at j;exact j
theorem iR{k:Int}{x:List Dp}(hm:MapOk k x)(on b:Int)(h0:0<=b)(h1:b<k):0<=BW ((k,x),on,b)/\BW ((k,x),on,b)<x.length /\
 (0<BW ((k,x),on,b)->iAnd .i64 (iShr .i64 on (BW ((k,x),on,b))) 1=1/\((x.getD (BW ((k,x),on,b)).toNat []).getD b.toNat (0,0,0,0)).1≠1) /\
 ∀p:Int,BW ((k,x),on,b)<p->p<x.length->¬(iAnd .i64 (iShr .i64 on p) 1=1/\((x.getD p.toNat []).getD b.toNat (0,0,0,0)).1≠1):=by
 have z:=hm.l1;have y:=hm.l2;rw[BW.eq_1,BN,Zgl hm];have A:w_ (U' true) (w_ (c_ b 0) (iGe b k))=false:=by
  rw[Bl,Bl,Aw,Am,CK,Dl (by omega),Dl (by omega)];rfl
 simp only[A,AY,A3];rw[Zp];simp only;rw[Ak,Fl (by unfold Br;omega)];obtain⟨s,q,j,i⟩:=ZdD (n:=x.length) (λst=>decide (iAnd .i64 (iShr .i64 on st) 1=1)&&!decide (((x.getD st.toNat []).getD b.toNat (0,0,0,0)).1=1)) (c:=λ(x0:Int)=>(W_ (iGt x0 0) (U' (W_ (g9 (Ei (on,x0)) 1) (i_ (So (So x (R_ x0) []) (R_ b) (0,0,0,0)).1 1))))) (f:=λ(x0:Int)=>(iSub .i64 x0 1)) z y
  (λst=>by simp only[Az,Aw,D3,BD,Bj,V9,AJ,Ax]) (λst=>rfl)
 generalize Al _ _ ((x.length:Int)-1)=st at *;have e:Y_ (iGt st 0) st 0=st:=by rw[BN,D3];split<;>simp_all<;>omega
 rw[e];simp only[Ai,Bq,Av,Bm,F0,BZ]at j i;refine⟨s,q,j,λp u t h=>?_⟩;rcases i p u t with g|g
 ·exact g h.1
 exact h.2 g
theorem kD {α S:Type} {c:S×Int->Bool} {f:S×Int->S×Int} {p:S×Int->Prop} (x:List α) (d:α) (g:S->α->S) (b:S) (t:x.length<=1048576)
 (n:∀(s:S) (i:Nat),i<=x.length->c (s,(i:Int))=decide (i<x.length)) (q:∀(s:S) (i:Nat),i<x.length->f (s,(i:Int))=(g s (x.getD i d),V' .i64 (i:Int) 1)) (hp:∀(s:S) (i:Nat),i<=x.length->p (s,(i:Int))):
 Z_ c f p (b,0)/\Al c f (b,0)=(x.foldl g b,(x.length:Int)):=by
 have:=JC (c:=c) (f:=f) (p:=p) x.length (λi=>((x.take i).foldl g b,(i:Int))) (x0:=(b,0)) rfl (λk j=>by
  refine⟨hp _ k (by omega),by rw[n _ k (by omega)];simpa using j,?_⟩;rw[q _ k j,Cp (by unfold Br;omega),<- Jz x d j,List.foldl_append];simp) ⟨hp _ _ (by omega),by rw[n _ _ (by omega)];simp⟩
 refine⟨this.1,?_⟩;rw[this.2,FQ]
theorem ZcY {α S:Type} {c:Int×S->Bool} {f:Int×S->Int×S} {p:Int×S->Prop} (x:List α) (d:α) (g:S->α->S) (b:S) (t:x.length<=1048576)
 (n:∀(s:S) (i:Nat),i<=x.length->c ((i:Int),s)=decide (i<x.length)) (q:∀(s:S) (i:Nat),i<x.length->f ((i:Int),s)=(V' .i64 (i:Int) 1,g s (x.getD i d))) (hp:∀(s:S) (i:Nat),i<=x.length->p ((i:Int),s)):
 Z_ c f p (0,b)/\Al c f (0,b)=((x.length:Int),x.foldl g b):=by
 have:=JC (c:=c) (f:=f) (p:=p) x.length (λi=>((i:Int),(x.take i).foldl g b)) (x0:=(0,b)) rfl (λk j=>by
  refine⟨hp _ k (by omega),by rw[n _ k (by omega)];simpa using j,?_⟩;rw[q _ k j,Cp (by unfold Br;omega),<- Jz x d j,List.foldl_append];simp) ⟨hp _ _ (by omega),by rw[n _ _ (by omega)];simp⟩
 refine⟨this.1,?_⟩;rw[this.2,FQ]
theorem mI(c:Int)(x:B3)(s:Bool):x.foldl (λs a=>w_ s (g9 a c)) s=(s||decide (c∈x)):=by
 induction x generalizing s with
 |nil=>simp
 | cons a x ih=>
   rw[List.foldl_cons,ih,Bl,BD,Bool.or_assoc];congr 1;rw[JS];simp only[B7,Av,Cu];constructor
   ·rintro(h|h)
    ·exact .inl h.symm
    exact .inr h
   rintro(h|h)
   ·exact .inl h.symm
   exact .inr h
theorem ct:∀(l:B3) (b hi:Int),l.Pairwise (· < ·)->(∀z∈l,b<=z/\z<=hi)->b<=hi+1->(l.length:Int)<=hi-b+1
 |[],b,hi,_,_,h=>by simp;omega
 | a::l,b,hi,hp,hm,h=>by
   rw[List.pairwise_cons]at hp;have i:=hm a (by simp);have:=ct l (a+1) hi hp.2 (λz g=>⟨by have:=hp.1 z g;omega,(hm z (by simp[g])).2⟩) (by omega);rw[A0];omega
section
set_option maxRecDepth 20000
theorem kf(l:CI)(b:l.length<=1048576)(q:Ct l=true):(Cd l).2.Pairwise (· < ·)/\∀z∈(Cd l).2,1<=z/\z<=56:=by
 obtain⟨_,_,j,_⟩:=RP l b;obtain⟨_,i,g⟩:=lr l b;rw[j,gd,PR,q];have s:U' true=false:=by rw[Aw];rfl
 rw[s,CH];exact⟨i,λz n=>((g z).1 n).2⟩
def Yy(m:Int)(a:Dc):Int:=iOr .i64 m a.2.2.2.1
theorem ZcE(l g:CI)(hl:l.length<=1048576)(hh:Ct l=true)(hd:g.length<=1000)(hc:∀a∈g,0<=a.2.2.1/\a.2.2.1<=56):Pm (l,g)/\O7 (Cd l,g.map BB)/\Kv (Cd l,g.map BB)=Fg (l,g)/\(Fg (l,g)).2.Pairwise (· < ·)/\(∀z,z∈(Fg (l,g)).2↔(z∈(Cd l).2\/z∈Cx g/\z≠0))/\(Fg (l,g)).1=g.foldl Yy (Cd l).1:=by
 obtain⟨o1,_,C,_⟩:=RP l hl;obtain⟨b1,R⟩:=kf l hl hh;have b3:=ct _ 1 56 b1 R (by omega);have N:(Cx g).length=g.length:=by simp[Cx]
 obtain⟨m1,m2⟩:=ZcY (c:=Us (l,g)) (f:=Um (l,g)) (p:=YJ (l,g)) g (0,0,0,0,0) Yy (CF l).1 (by omega)
  (λs i hi=>by simp only[Us,Am,Ak,CM])
  (λs i hi=>by simp only[Um,Yy,AJ,Ax,AG])
  (λs i hi=>by
   simp only[YJ,Am,Ak,Ax,AG,Av];exact⟨λh=>⟨⟨by omega,by omega⟩,by omega⟩,λ_=>trivial⟩)
 have L:∀(st:EM),Z_ (Jm (l,g)) (Jl (l,g) st) (Ur (l,g)) (false,0)/\(Al (Jm (l,g)) (Jl (l,g) st) (false,0)).1=decide (st.2∈(Cd l).2):=by
  intro st;rw[C]at b3;obtain⟨y,x⟩:=kD (c:=Jm (l,g)) (f:=Jl (l,g) st) (p:=Ur (l,g)) (CF l).2 0 (λs a=>w_ s (g9 a st.2)) false (by omega)
   (λs i hi=>by simp only[Jm,Am,Ak,CM])
   (λs i hi=>by simp only[Jl,AJ,Ax,AG])
   (λs i hi=>by
    simp only[Ur,Am,Ak,Ax,AG,Av];exact⟨λh=>⟨λ_=>trivial,λ_=>⟨⟨by omega,by omega⟩,by omega⟩⟩,λ_=>trivial⟩)
  refine⟨y,?_⟩;rw[x,mI,C,Bool.false_or]
 have M:∀(st:EM) (b:Bool),Z_ (L4 (l,g)) (L7 (l,g) st) (Ug (l,g)) (b,0)/\(Al (L4 (l,g)) (L7 (l,g) st) (b,0)).1=(b||decide (st.2∈Cx g)):=by
  intro st b;obtain⟨y,x⟩:=kD (c:=L4 (l,g)) (f:=L7 (l,g) st) (p:=Ug (l,g)) g (0,0,0,0,0) (λs a=>w_ s (g9 a.2.2.1 st.2)) b (by omega)
   (λs i hi=>by simp only[L4,Am,Ak,CM])
   (λs i hi=>by simp only[L7,AJ,Ax,AG])
   (λs i hi=>by
    simp only[Ug,Am,Ak,Ax,AG,Av];exact⟨λh=>⟨λ_=>trivial,λ_=>⟨⟨by omega,by omega⟩,by omega⟩⟩,λ_=>trivial⟩)
  refine⟨y,?_⟩;rw[x];have:=mI st.2 (Cx g) b;rw[Cx,List.foldl_map]at this;exact this
 have I:=bF (c:=O3) (f:=QY (l,g)) (p:=fB (l,g)) (x0:=([],1))
  (λst=>1<=st.2/\st.2<=57/\(st.1.length:Int)<st.2/\st.1.Pairwise (· < ·)/\∀z,z∈st.1↔((z∈(Cd l).2\/z∈Cx g)/\1<=z/\z<st.2)) (λst=>57-st.2.toNat) (by
  rintro⟨D,c⟩ ⟨h1,h2,h3,O,F⟩;simp only at h1 h2 h3 O F;obtain⟨i1,i2⟩:=L (D,c);obtain⟨j1,j2⟩:=M (D,c) (Al (Jm (l,g)) (Jl (l,g) (D,c)) (false,0)).1;rw[i2]at j2;have r1:AD ((D.length+[c].length)*1):=(by unfold AD;simp only[A0,A8];omega);refine⟨⟨λ_=>⟨i1,j1,λ_=>r1,λ_=>trivial⟩,λ_=>trivial⟩,λh=>?_⟩;simp only[O3,E2,Av]at h;have s1:V' .i64 c 1=c+1:=Cp (by unfold Br;omega);simp only[QY,s1,i2,j2,BN,B6,B7,Av];refine⟨⟨by omega,by omega,?_,?_,λz=>?_⟩,by omega⟩
  ·split
   ·simp only[CO,A0,A8];omega
   omega
  ·split
   ·refine List.pairwise_append.2 ⟨O,List.pairwise_singleton _ _,λa ha b A=>?_⟩;rw[List.mem_singleton]at A;have:=((F a).1 ha).2.2;omega
   exact O
  split
  ·next A=>
   rw[CN,List.mem_singleton,F];constructor
   ·rintro(⟨t,u,U⟩|e)
    ·exact⟨t,u,by omega⟩
    subst e;exact⟨A,by omega,by omega⟩
   rintro⟨t,u,U⟩;by_cases e:z=c
   ·exact .inr e
   exact .inl ⟨t,u,by omega⟩
  next A=>
  rw[F];constructor
  ·rintro⟨t,u,U⟩;exact⟨t,u,by omega⟩
  rintro⟨t,u,U⟩;have:z≠c:=λe=>A (e▸t);exact⟨t,u,by omega⟩) ⟨by simp,by simp,by simp,List.Pairwise.nil,by simp⟩
 obtain⟨y,⟨x,k3,k4,J,k6⟩,Z⟩:=I;simp only[O3,E2,Bm]at Z;generalize hK:Al O3 (QY (l,g)) ([],1)=K at x k3 k4 J k6 Z;have n:∀z,z∈K.1↔(z∈(Cd l).2\/z∈Cx g/\z≠0):=by
  intro z;rw[k6];constructor
  ·rintro⟨a|a,b,c⟩
   ·exact .inl a
   exact .inr ⟨a,by omega⟩
  rintro(a|⟨a,b⟩)
  ·have:=R z a;exact⟨.inl a,by omega,by omega⟩
  obtain⟨q,hq,rfl⟩:=List.mem_map.1 a;have:=hc q hq;exact⟨.inr a,by omega,by omega⟩
 have j:(g.map BB).length=g.length:=Bd ..;have cp:C7 (Cd l).2=(Cd l).2:=by rw[Vd];try rfl
 have G:Ri (Cd l).2:=by rw[gb];unfold AD;omega
 have W:=JC (c:=Ni (Cd l,g.map BB)) (f:=OX (Cd l,g.map BB)) (p:=Uc (Cd l,g.map BB)) g.length
  (λi=>((Cd l).2++(Cx g).take i,(i:Int),(g.take i).foldl Yy (Cd l).1)) (x0:=((Cd l).2,0,(Cd l).1)) (by simp) (λi hi=>by
   have g1:(So (g.map BB) (R_ (i:Int)) (0,0))=BB (g.getD i (0,0,0,0,0)):=(by rw[AJ,Ax,AG,kl]);refine⟨?_,?_,?_⟩
   ·simp only[Uc,Am,Ak,j,Ax,AG,Av,CO,Db,A0,A8];exact⟨λ_=>⟨⟨by omega,by omega⟩,by omega,by unfold AD;omega⟩,λ_=>trivial⟩
   ·simp only[Ni,Am,Ak,j,Av];omega
   ·simp only[OX,g1,B6,Cb];rw[Cp (by unfold Br;omega),<- Jz (Cx g) 0 (by omega),jN g hi,<- Jz g (0,0,0,0,0) hi,List.foldl_append];rfl) (by
   refine⟨?_,?_⟩
   ·simp only[Uc,Am,Ak,j,Av];exact⟨λh=>absurd h (by omega),λ_=>trivial⟩
   simp only[Ni,Am,Ak,j];simp)
 have tk:(Cx g).take g.length=Cx g:=by rw[<- N];exact FQ ..
 obtain⟨w1,Y⟩:=W;simp only[tk,FQ]at Y;obtain⟨c1,⟨c2,c3⟩,c4⟩:=jB ((Cd l).2++Cx g) (by rw[CO];omega);have e:Mg ((Cd l).2++Cx g)=K.1:=na c2 J λz=>by
  rw[c3,n,CN];constructor
  ·rintro⟨a|a,b⟩
   ·exact .inl a
   exact .inr ⟨a,b⟩
  rintro(a|⟨a,b⟩)
  ·have:=R z a;exact⟨.inl a,by omega⟩
  exact⟨.inr a,b⟩
 rw[vR,tY,uw,sT];simp only[cp,Y,m2,hK];refine⟨⟨o1,m1,y⟩,⟨G,w1,c1⟩,?_,J,n,by rw[C]⟩;rw[e,C]
end
section
set_option maxRecDepth 20000
def mA(s:Dr):Int×Int×Int×Int×Int:=(0,2,s.2.1,s.2.2,0)
def JQ(b:CI)(s:Dr):CI:=if s.1=1 then b++[mA s]else if s.1=2 then ER (b,CG (b,s))else b
def TS(b:CI)(s:Dr):Prop:=0<=s.1/\s.1<=2/\B4 (2,s.2.1,s.2.2,0)=true/\(s.1=2↔0<=CG (b,s))
def DY(x:Cj)(i:Nat):CI:=(x.take i).foldl JQ []
theorem bL(x:Cj){i:Nat}(h:i<x.length):DY x (i+1)=JQ (DY x i) (x.getD i (0,0,0)):=by
 unfold DY;rw[<- Jz x (0,0,0) h,List.foldl_append];rfl
theorem Zhi {c:CI×Int->Bool} {f:CI×Int->CI×Int} (x:Cj) (h1:¬(Al c f ([],0)).2<U_ x) (y:∀(b:CI) (i:Nat),c (b,(i:Int))=true->i<x.length/\TS b (x.getD i (0,0,0)))
 (u:∀(b:CI) (i:Nat),i<x.length->f (b,(i:Int))=(JQ b (x.getD i (0,0,0)),(i:Int)+1)):(Al c f ([],0)).1=DY x x.length/\∀i,i<x.length->TS (DY x i) (x.getD i (0,0,0)):=by
 have n:=NC (c:=c) (f:=f) (λst=>∃i:Nat,st=(DY x i,(i:Int))/\i<=x.length/\∀j,j<i->TS (DY x j) (x.getD j (0,0,0))) (λst=>x.length-st.2.toNat) (λst z q=>by
  obtain⟨i,rfl,hi,g⟩:=z;obtain⟨s,A⟩:=y _ i q;rw[u _ i s];refine⟨⟨i+1,by rw[bL x s];simp,by omega,λj t=>?_⟩,by simp only;omega⟩;rcases Bx j i with h|h
  ·exact g j h
  have:j=i:=(by omega);subst this;exact A) (x0:=([],0)) ⟨0,rfl,EE _,λj g=>by omega⟩
 obtain⟨⟨i,e,hi,g⟩,_⟩:=n;rw[e,Ak]at h1;rw[e];simp only at h1;have:i=x.length:=by omega
 subst this;exact⟨rfl,g⟩
theorem ZbL(x:Cj)(h:x.length<=1048576)(hm:GL x=true):x.length<=8/\DY x x.length=[]/\∀i,i<x.length->TS (DY x i) (x.getD i (0,0,0)):=by
 rw[gB,Az,Az,Ai,Ai]at hm;obtain⟨h1,j,g⟩:=hm;rw[Aw,Bq,Am _ (U_ x),Bm]at h1;rw[E2,Ak,Av]at j;rw[BD,Ak,Av]at g;obtain⟨q,n⟩:=Zhi x h1 (λs i b=>by
  simp only[Ak,AJ,Ax,AG,Q9,NA,G0,Az,Aw,Bl,EF,Am,BD,CK,Ai,Bq,Ce,BZ,Av,A7]at b;obtain⟨z,⟨c2,y⟩,u,t⟩:=b;refine⟨by omega,c2,y,u,?_⟩;have:=congrArg (·=true) t;simpa using this) (λs i hi=>by
  simp only[AJ,Ax,AG,Q9,BN,BD,Av,B6];rw[Cp (by unfold Br;omega)];rfl)
 refine⟨by omega,?_,n⟩;rw[<- q];exact Df (by omega)
end
section
set_option maxRecDepth 20000
theorem ZbQ(b:CI)(p:Int){a:Int×Int×Int×Int×Int}(h:a∈ER (b,p)):a∈b:=by
 rw[UE]at h;simp only[B6,Lo,LF,CJ,CN]at h;rcases h with h|h
 ·exact List.mem_of_mem_drop (Lw h)
 exact List.mem_of_mem_drop (Lw h)
theorem aW(b:CI)(s:Dr)(h:b.length<=1048576):CG (b,s)=-1\/(0<=CG (b,s)/\CG (b,s)<b.length):=by
 have:=WW (b.map BB) (s.2.1,s.2.2) (by rw[Bd];exact h);rw[Bd]at this;have e:=Qb b s.1 s.2.1 s.2.2;rw[show (s.1,s.2.1,s.2.2)=s from rfl]at e;rw[e];exact this
theorem iD{a:Int×Int×Int×Int}(h:B4 a=true):0<=a.2.2.1/\a.2.2.1<=15:=by
 rw[Rh]at h;simp only[BN,Bl,Az,BD,Bj,VJ,CK,E2]at h;repeat' split at h
 all_goals simp only[Ai,B7,Bq,BZ,F0,Ce,Av,Bm,Gr,Jb,A7,JF]at *
 all_goals omega
def Yp(a:Dc):Prop:=(0<=a.2.2.1/\a.2.2.1<=56)/\0<=a.2.2.2.1/\a.2.2.2.1<=15
theorem ZhB(x:Cj)(A:x.length<=8)(y:∀i,i<x.length->TS (DY x i) (x.getD i (0,0,0))):∀i,i<=x.length->(DY x i).length<=i/\∀a∈DY x i,Yp a:=by
 intro i;induction i with
 |zero=>intro _;exact⟨by simp[DY],by simp[DY]⟩
 | succ i ih=>
   intro hi;obtain⟨h1,j⟩:=ih (by omega);obtain⟨t,q,g,n⟩:=y i (by omega);rw[bL x (by omega)];generalize hs:x.getD i (0,0,0)=s at t q g n ⊢;unfold JQ;split
   ·refine⟨by simp only[CO,A0,A8];omega,λa b=>?_⟩;rw[CN,List.mem_singleton]at b;rcases b with b|rfl
    ·exact j a b
    exact⟨Zx g,iD g⟩
   split
   ·rename_i u;have:=aW (DY x i) s (by omega);have hp:0<=CG (DY x i,s):=n.1 u;have z:=jf (DY x i) (CG (DY x i,s)) hp (by omega) (by omega);exact⟨by omega,λa b=>j a (ZbQ _ _ b)⟩
   exact⟨by omega,j⟩
theorem iQ(b:OC)(q:Ar)(h:b.length<=1048576):Bp (b,q)=if C0 (λi=>decide (b.getD i (0,0)=q)) b.length 0<b.length then ((C0 (λi=>decide (b.getD i (0,0)=q)) b.length 0:Nat):Int)else -1:=by
 rw[Zv];have e:=Xx (c:=λx0:Int=>(W_ (c_ x0 (U_ b)) (U' (W_ (g9 (So b (R_ x0) (0,0)).1 q.1) (g9 (So b (R_ x0) (0,0)).2 q.2))))) (f:=λx0=>V' .i64 x0 1) b.length (λi=>decide (b.getD i (0,0)=q)) (by omega)
  (λi hi=>by
   simp only[Az,Am,Ak,Aw,BD,AJ,Ax,AG,CM];congr 2;rw[<- Bool.decide_and];simp only[Prod.ext_iff]) (λi hi=>rfl)
 simp only[e];rw[BN,Am,Ak];simp only[Av,CM]
theorem ZbK(b:OC)(q:Ar)(h:b.length<=1000)(hp:Bp (b,q)<0):Bp (b++[q],q)=b.length:=by
 rw[iQ _ _ (by omega)]at hp;have n:∀i,i<b.length->decide (b.getD i (0,0)=q)=false:=by
  refine PI.1 ?_;have:=Jw (λi=>decide (b.getD i (0,0)=q)) b.length 0;split at hp
  ·omega
  omega
 rw[iQ _ _ (by rw[CO,A0,A8];omega)];have u:(b++[q]).length=b.length+1:=by simp
 rw[u];have g:(b++[q]).getD b.length (0,0)=q:=by rw[CQ];simp
 have j:∀i,i<b.length->(b++[q]).getD i (0,0)=b.getD i (0,0):=λi hi=>by rw[CQ,CQ,Bi hi]
 generalize x:C0 (λi=>decide ((b++[q]).getD i (0,0)=q)) (b.length+1) 0=k;have y:=Jw (λi=>decide ((b++[q]).getD i (0,0)=q)) (b.length+1) 0;have t:=RZ (λi=>decide ((b++[q]).getD i (0,0)=q)) (b.length+1) 0 b.length (by omega);have s:=PJ (λi=>decide ((b++[q]).getD i (0,0)=q)) (b.length+1) 0;rw[x]at y t s;have A:¬b.length<k:=λh=>by have:=t h;rw[g]at this;simp at this
 have z:¬k<b.length:=λh=>by
  have:=s (by omega);rw[j k h,n k h]at this;cases this
 have:k=b.length:=by omega
 rw[Ac (by omega),this]
theorem Zbr(b:CI)(a:Dc)(h:b.length<=1000):ER (b++[a],(b.length:Int))=b:=by
 rw[UE];have e:V' .i64 (b.length:Int) 1=b.length+1:=Cp (by unfold Br;omega);simp only[e,B6,Lo,LF,Ax,CJ,AG,IZ,Qa];have g:((b.length:Int)+1).toNat=b.length+1:=by omega
 rw[g,List.take_left',List.drop_eq_nil_of_le (by simp)]
 ·simp
 rfl
theorem ZdO(b:CI)(s:Dr)(h:b.length<=1000)(hp:CG (b,s)<0):CG (b++[mA s],s)=b.length:=by
 have e:=Qb b s.1 s.2.1 s.2.2;have g:=Qb (b++[mA s]) s.1 s.2.1 s.2.2;rw[show (s.1,s.2.1,s.2.2)=s from rfl]at e g;rw[e]at hp;rw[g,FT,Cf,MM];have:=ZbK (b.map BB) (s.2.1,s.2.2) (by rw[Bd];exact h) hp;rw[Bd]at this;exact this
def qd(l:CI)(r:BE):Prop:=r.2.length<=1048576/\∃b:CI,b.length<=1000/\(∀a∈b,Yp a)/\r=Fg (l,b)
def pY(l:CI)(x:Cj)(i:Nat)(b:B8):Prop:=(∀r∈b,qd l r)/\(i=0->b=[])/\(0<i->∃o,b=o++[Fg (l,DY x i)])
theorem wG(l:CI)(x:Cj)(hl:l.length<=1048576)(hx:x.length<=1048576):QQ (l,x)/\QR (l,x)/\QV (l,x)=GA (l,x)/\((GA (l,x)).length<=1000/\∀r∈GA (l,x),r.2.length<=1048576)/\(Ct l=true->GL x=true->pY l x x.length (GA (l,x))):=by
 have o1:=US l hl;have o2:=UZ l hl;have o3:=hZ x hx;have o4:=gR x hx;rw[qB,qD,qu,qp];simp only[PR,<- ju x hx];by_cases hg:Ct l=true/\GL x=true;case neg=>
  have hb:w_ (U' (Ct l)) (U' (GL x))=true:=by
   rw[Bl,Aw,Aw];cases h1:Ct l<;>cases h2:GL x<;>simp_all
  rw[hb];simp only[CL];refine⟨⟨⟨o1,λ_=>trivial,λ_=>o3⟩,λ_=>trivial,λh=>by cases h⟩,⟨⟨o2,λ_=>trivial,λ_=>o4⟩,λ_=>trivial,λh=>by cases h⟩,trivial,⟨by simp,by simp⟩,λh1 h2=>absurd ⟨h1,h2⟩ hg⟩
 case pos=>
  obtain⟨hh,hm⟩:=hg;have hb:w_ (U' (Ct l)) (U' (GL x))=false:=(by rw[Bl,Aw,Aw,hh,hm];rfl);rw[hb];simp only[CH];obtain⟨x8,_,d8⟩:=ZbL x hx hm;have inv:=ZhB x x8 d8;obtain⟨_,or2,_,_⟩:=RP l hl;have DD:∀j:CI,j.length<=1000->(∀a∈j,Yp a)->Pm (l,j)/\O7 (Cd l,j.map BB)/\Kv (Cd l,j.map BB)=Fg (l,j)/\qd l (Fg (l,j)):=by
   intro j h1 h2;obtain⟨a1,a2,a3,a4,a5,_⟩:=ZcE l j hl hh h1 (λa ha=>(h2 a ha).1);have:=ct _ 1 56 a4 (λz hz=>by
    rcases (a5 z).1 hz with h|⟨h,hz⟩
    ·exact(kf l hl hh).2 z h
    obtain⟨q,hq,rfl⟩:=List.mem_map.1 h;have:=(h2 q hq).1;omega) (by omega)
   exact⟨a1,a2,a3,by omega,j,h1,h2,rfl⟩
  obtain⟨a1,a2,⟨i,hi,u,e1,e2,e3,e4⟩,a4⟩:=bg (c:=OU (l,x)) (f:=TY (l,x)) (p:=TU (l,x)) (d:=TV (l,x)) (g:=TW (l,x)) (q:=TX (l,x)) (x0:=([],[],0)) (y0:=([],[],0))
   (λs t=>∃i:Nat,i<=x.length/\∃u:List BE,s=(u,DY x i,(i:Int))/\t=(u,(DY x i).map BB,(i:Int))/\u.length<=2*i/\pY l x i u) (λs=>x.length-s.2.2.toNat) (by
    rintro s t ⟨i,hi,u,rfl,rfl,ho,hr⟩;obtain⟨d1,d2⟩:=inv i hi;have s1:V' .i64 (i:Int) 1=((i+1:Nat):Int):=(by rw[Cp (by unfold Br;omega)];simp);by_cases h_:i<x.length;case neg=>
     have hn:c_ (i:Int) (U_ x)=false:=(by rw[Am,Ak];simp;omega);refine⟨?_,?_,rfl,λh=>?_⟩
     ·simp only[TU,hn];exact⟨λh=>(by cases h),λ_=>trivial⟩
     ·simp only[TX,hn];exact⟨λh=>(by cases h),λ_=>trivial⟩
     simp only[OU,hn]at h;cases h
    case pos=>
    have ht:c_ (i:Int) (U_ x)=true:=(by rw[Am,Ak];simp;omega);have hk:=d8 i h_;have b:=bL x h_;obtain⟨d1',d2'⟩:=inv (i+1) h_;have hget:So x (R_ (i:Int)) (0,0,0)=x.getD i (0,0,0):=(by rw[AJ,Ax,AG]);have D:R_ (i:Int)<x.length:=(by rw[Ax];simpa using h_);simp only[OU,TY,TU,TV,TW,TX,hget,ht,s1,Q9,gp];generalize hs:x.getD i (0,0,0)=s at hk b;generalize hdn:DY x i=j at hk b d1 d2;obtain⟨K,c,m⟩:=s;obtain⟨k1,k2,k3,k4⟩:=hk;simp only at k1 k2 k3 k4;have J:=Zx k3;simp only at J;have M7:∀a∈j++[mA (K,c,m)],Yp a:=λa ha=>by
     rw[CN,List.mem_singleton]at ha;rcases ha with ha|rfl
     ·exact d2 a ha
     exact⟨J,iD k3⟩
    have G:(j++[mA (K,c,m)]).map BB=i9 (j.map BB) [(c,m)]:=(by rw[B6,FT];rfl);have R:i9 j [(0,2,c,m,0)]=j++[mA (K,c,m)]:=(by rw[B6];rfl);have Y:(j.map BB).length=j.length:=Bd ..;have len1:(i9 (j.map BB) [(c,m)]).length=j.length+1:=(by rw[<- G,Bd];simp);obtain⟨p1,p2,p3,p4⟩:=DD (j++[mA (K,c,m)]) (by rw[CO,A0,A8];omega) M7;obtain⟨q1,q2,q3,q4⟩:=DD j (by omega) d2;rw[G]at p2 p3;have lo:∀r:Int×List Int,(i9 u [r]).length=u.length+1:=λr=>(by rw[B6];simp);have lo2:∀r r':Int×List Int,(i9 (i9 u [r]) [r']).length=u.length+2:=λr r'=>(by rw[B6,B6];simp);have A:∀r:Int×List Int,([r]:List BE).length=1:=λ_=>rfl;have C:∀n:Nat,n<=1000->∀w:Nat,w<=5->AD (n*w):=λn hn w hw=>NP (by omega) (by omega);rcases (show K=0\/K=1\/K=2 by omega)with rfl|rfl|rfl
    ·
     have M:i_ 0 1=true:=(by rw[Bj];rfl);have L:i_ 0 2=true:=(by rw[Bj];rfl);have N:g9 0 0=true:=(by rw[BD];rfl);have hneg:CG (j,0,c,m)<0:=by
      rcases aW j (0,c,m) (by omega)with h|h
      ·omega
      exact absurd (k4.2 h.1) (by decide)
     have fl:=ZdO j (0,c,m) (by omega) hneg;have wl:=Zbr j (mA (0,c,m)) (by omega);have U:Nu (j++[mA (0,c,m)],0,c,m):=cf _ _ (by rw[CO,A0,A8];omega);have F:O9 (j++[mA (0,c,m)],(j.length:Int)):=ZY _ _ (by omega) (by rw[CO,A0,A8];omega) (by rw[CO,A0,A8];omega);have I:JQ j (0,c,m)=j:=(by unfold JQ;simp);rw[I]at b;simp only[M,L,N,CL,R,fl,wl,p3,q3];refine⟨⟨λ_=>⟨⟨by omega,by omega⟩,D,⟨λ_=>⟨trivial,C _ (by simp only[A0,A8];omega) _ (by omega),p1,C _ (by rw[A];omega) _ (by omega)⟩,λ_=>trivial⟩,⟨λ_=>⟨U,F,q1,C _ (by rw[lo,A];omega) _ (by omega)⟩,λ_=>trivial⟩⟩,λ_=>trivial⟩,
      ⟨λ_=>⟨⟨by omega,by omega⟩,D,⟨λ_=>⟨C _ (by omega) _ (by omega),C _ (by rw[Y];simp only[A0,A8];omega) _ (by omega),p2,C _ (by rw[A];omega) _ (by omega)⟩,λh=>by cases h⟩,q2,C _ (by rw[lo,A];omega) _ (by omega)⟩,λ_=>trivial⟩,trivial,λ_=>⟨⟨i+1,h_,_,by rw[b],by rw[b],by rw[lo2];omega,⟨λr y=>?_,λh=>absurd h (Nat.succ_ne_zero i),λ_=>⟨_,by rw[b,B6]⟩⟩⟩,by omega⟩⟩
     simp only[B6,CN,List.mem_singleton]at y;rcases y with(h|rfl)|rfl
     ·exact hr.1 r h
     ·exact p4
     exact q4
    ·
     have M:i_ 1 1=false:=(by rw[Bj];rfl);have L:i_ 1 2=true:=(by rw[Bj];rfl);have N:g9 1 0=false:=(by rw[BD];rfl);have e11:g9 1 1=true:=(by rw[BD];rfl);have I:JQ j (1,c,m)=j++[mA (1,c,m)]:=(by unfold JQ;simp);rw[I]at b;simp only[M,L,N,e11,CL,CH,R,p3];refine⟨⟨λ_=>⟨⟨by omega,by omega⟩,D,⟨λ_=>⟨trivial,C _ (by simp only[A0,A8];omega) _ (by omega),p1,C _ (by rw[A];omega) _ (by omega)⟩,λ_=>trivial⟩,⟨λh=>(by cases h),λ_=>trivial⟩⟩,λ_=>trivial⟩,
      ⟨λ_=>⟨⟨by omega,by omega⟩,D,⟨λh=>(by cases h),λ_=>⟨λ_=>C _ (by rw[Y];simp only[A0,A8];omega) _ (by omega),λh=>by cases h⟩⟩,p2,C _ (by rw[A];omega) _ (by omega)⟩,λ_=>trivial⟩,trivial,λ_=>⟨⟨i+1,h_,_,by rw[b],by rw[b,G],by rw[lo];omega,⟨λr y=>?_,λh=>absurd h (Nat.succ_ne_zero i),λ_=>⟨_,by rw[b,B6]⟩⟩⟩,by omega⟩⟩
     simp only[B6,CN,List.mem_singleton]at y;rcases y with h|rfl
     ·exact hr.1 r h
     exact p4
    ·
     have M:i_ 2 1=true:=(by rw[Bj];rfl);have L:i_ 2 2=false:=(by rw[Bj];rfl);have N:g9 2 0=false:=(by rw[BD];rfl);have e11:g9 2 1=false:=(by rw[BD];rfl);have e22:g9 2 2=true:=(by rw[BD];rfl);have hp:0<=CG (j,2,c,m):=k4.1 rfl;have O:CG (j,2,c,m)<j.length:=by
      rcases aW j (2,c,m) (by omega)with h|h
      ·omega
      exact h.2
     have I:JQ j (2,c,m)=ER (j,CG (j,2,c,m)):=(by unfold JQ;simp);rw[I]at b;have Z:=Qb j 2 c m;have wm:=jn j _ hp O;have U:Nu (j,2,c,m):=cf _ _ (by omega);have F:=ZY j _ hp O (by omega);have okp:Pv (j.map BB,c,m):=mW _ _ (by omega);rw[b]at d1' d2';obtain⟨w1,w2,w3,w4⟩:=DD _ (by omega) d2';rw[Z]at hp O F w1 w2 w3 w4 wm b;rw[wm]at w2 w3;generalize Bp (j.map BB,c,m)=p at hp O F w1 w2 w3 w4 wm b Z ⊢;have sp:V' .i64 p 1=p+1:=Cp (by unfold Br;omega);simp only[M,L,N,e11,e22,CL,CH,Z,w3];refine⟨⟨λ_=>⟨⟨by omega,by omega⟩,D,⟨λh=>(by cases h),λ_=>trivial⟩,⟨λ_=>⟨U,F,w1,C _ (by rw[A];omega) _ (by omega)⟩,λ_=>trivial⟩⟩,λ_=>trivial⟩,
      ⟨λ_=>⟨⟨by omega,by omega⟩,D,⟨λh=>(by cases h),λ_=>⟨λh=>(by cases h),λ_=>⟨λ_=>⟨okp,?_⟩,λh=>by cases h⟩⟩⟩,w2,C _ (by rw[A];omega) _ (by omega)⟩,λ_=>trivial⟩,trivial,λ_=>⟨⟨i+1,h_,_,by rw[b],by rw[b,wm],by rw[lo];omega,⟨λr y=>?_,λh=>absurd h (Nat.succ_ne_zero i),λ_=>⟨_,by rw[b,B6]⟩⟩⟩,by omega⟩⟩
     ·rw[sp];simp only[Ax,LF,Lo,IZ,Qa,Db,Qo,Y];exact⟨⟨hp,by omega,by omega,by omega⟩,⟨by omega,by omega,by omega,by omega⟩,by omega,by omega,NP (by omega) (by omega)⟩
     simp only[B6,CN,List.mem_singleton]at y;rcases y with h|rfl
     ·exact hr.1 r h
     exact w4) ⟨0,EE _,[],rfl,rfl,by simp,⟨by simp,λ_=>rfl,λh=>absurd h (by omega)⟩⟩
  refine⟨⟨⟨o1,λ_=>trivial,λ_=>o3⟩,λh=>(by cases h),λ_=>a1⟩,⟨⟨o2,λ_=>trivial,λ_=>o4⟩,λh=>(by cases h),λ_=>⟨or2,a2⟩⟩,by rw[e1,e2],?_⟩;rw[e1]at a4 ⊢;simp only[OU,Am,Ak,Bm]at a4;have hix:i=x.length:=(by omega);subst hix;exact⟨⟨by simp only;omega,λr hr=>(e4.1 r hr).1⟩,λ_ _=>e4⟩
end
section
set_option maxRecDepth 20000
def Yr(n:Nat)(a:Fu):Prop:=B4 a=true/\a.1≠1/\a.1≠6/\a.1≠7/\(a.1≠9->a.2.2.2<n)
theorem j3(a:Fu):Rf a=Kw a:=by
 rw[ug,YV,NA]
theorem Zgz(a:Fu):V1 a=DF a:=by rw[Zaz,il,j3]
theorem Zeo(a:Fu):VP a=DE a:=by rw[yK,gP,j3]
theorem ZcI(a:Fu):Vu a/\VU a/\Vx a/\VV a:=by
 rw[zk,ZaN,zB,Zan,tP];exact⟨ZV _,ZV _,QX _,QX _⟩
theorem ZbD{n:Nat}{a:Fu}(h1:B4 a=true)(s:a.1≠1)(i:a.1≠9->a.2.2.2<n)(t:1<=n):Yr n (DE a)/\Yr n (DF a):=by
 obtain⟨k,c,m,p⟩:=a;have h:=(LC k c m p).1 h1;rw[gP,il,YV,NA,h1];simp only[Aw,BN,Az,Bl,BD,HG]at s i ⊢;by_cases b:k=6
 ·subst b;have x:1<=c/\c<=56/\1<=m/\m<=15:=(by omega);have q:B4 (2,0,m,0)=true:=(LC _ _ _ _).2 (.inr (.inl ⟨rfl,rfl,by omega,by omega,by omega,by omega,by omega⟩));have j:B4 (2,c,0,0)=true:=(LC _ _ _ _).2 (.inr (.inl ⟨rfl,rfl,by omega,by omega,by omega,by omega,by omega⟩));simp only[decide_true,Bool.true_or,Gp,AY,A3,AS];exact⟨⟨q,by simp,by simp,by simp,λ_=>by simp only;omega⟩,⟨j,by simp,by simp,by simp,λ_=>by simp only;omega⟩⟩
 by_cases g:k=7
 ·subst g;have u:1<=c/\c<=56/\1<=p/\p<=3:=(by omega);have q:B4 (3,0,0,p)=true:=(LC _ _ _ _).2 (.inr (.inr (.inl ⟨.inl rfl,rfl,rfl,by omega,by omega⟩)));have j:B4 (2,c,0,0)=true:=(LC _ _ _ _).2 (.inr (.inl ⟨rfl,rfl,by omega,by omega,by omega,by omega,by omega⟩));have:=i (by omega);simp only[b,decide_true,decide_false,Bool.or_true,Gp,AY,A3,AS];exact⟨⟨q,by simp,by simp,by simp,λ_=>this⟩,⟨j,by simp,by simp,by simp,λ_=>by simp only;omega⟩⟩
 simp only[g,b,decide_false,Bool.or_self,Bool.not_false,AS];exact⟨⟨h1,s,b,g,i⟩,⟨h1,s,b,g,i⟩⟩
theorem ZiS{a:Fu}(h:B4 a=true):0<=a.2.2.2/\a.2.2.2<=3:=by
 obtain⟨k,c,m,n⟩:=a;have:=(LC k c m n).1 h;simp only;omega
theorem n7{k:Int}{L:List (List Fu)}(hm:MapOk k L)(on b:Int)(i:0<=b)(g:b<k):B4 (Jq ((k,L),on,b))=true/\(Jq ((k,L),on,b)).1≠1/\((Jq ((k,L),on,b)).1≠9->(Jq ((k,L),on,b)).2.2.2<L.length) /\
 Jq ((k,L),on,b)=(L.getD (BW ((k,L),on,b)).toNat []).getD b.toNat (0,0,0,0):=by
 obtain⟨x,u,s,_⟩:=iR hm on b i g;have e:Jq ((k,L),on,b)=(L.getD (BW ((k,L),on,b)).toNat []).getD b.toNat (0,0,0,0):=by
  rw[Jq];simp only;rw[Am,Dl (by omega),CH,AJ,AJ,Ax,Ax]
 rw[e];have t:=hm.row (BW ((k,L),on,b)).toNat (by omega);obtain⟨q,n,j⟩:=hm.act (BW ((k,L),on,b)).toNat b.toNat (by omega) (by omega);refine⟨q,?_,j,rfl⟩;by_cases h:0<BW ((k,L),on,b)
 ·exact(s h).2
 exact n (by omega)
def LS(x:DU)(k:Int):Fu:=Jq ((x.1,x.2.1),EW (x.2.2.2.1,x.2.2.2.2.1),k)
def M5(x:DU)(k:Int)(h:Bool):Fu:=Y_ h (DE (LS x k)) (DF (LS x k))
def Bn(x:DU)(k:Int)(h:Bool):Fu×DU:=Ev (Jo (M5 x k h).2.1) x (M5 x k h)
def C3(x:DU)(k:Int)(h:Bool):CI:=x.2.2.2.2.1++[(k,(Bn x k h).1)]
def Gw(x:DU)(k:Int)(h:Bool):List CD:=Y_ (W_ (g9 (Bn x k h).1.1 9) (c_ (Bn x k h).1.2.2.2 (U_ x.2.2.1))) (GA (C3 x k h,So x.2.2.1 (R_ (Bn x k h).1.2.2.2) [])) []
def Yi(x:DU)(k:Int)(h:Bool):DU:=(x.1,x.2.1,x.2.2.1,(Bn x k h).2.2.2.2.1,C3 x k h,(Bn x k h).2.2.2.2.2.2)
theorem j5{x:DU}(i:EngOk x)(hs:DG x)(k:Int)(h:Bool)(g:0<=k)(b:k<x.1):Yr x.2.1.length (M5 x k h):=by
 have hm:=Ht hs.1 i.map;obtain⟨t,s,q,_⟩:=n7 hm (EW (x.2.2.2.1,x.2.2.2.2.1)) k g b;obtain⟨n,j⟩:=ZbD t s q hm.l1;unfold M5 LS;cases h
 ·rw[CH];exact j
 rw[CL];exact n
theorem Zcq(w:Bool)(c:Int){m on:Nat}(b:Bool)(h1:m<=15)(g:on<=15):SC w c m on b<=15:=by
 unfold SC;split
 ·omega
 have:=Nat.or_lt_two_pow (x:=m) (y:=on) (n:=4) (by omega) (by omega);omega
theorem Zgp(w:Bool){x:DU}(n:Nat)(G:n<=4){a:Fu}(I:Yr n a)(b:0<=x.2.2.2.2.2.1)(j:x.2.2.2.2.2.1<=15)(D:0<=x.2.2.2.1)(Z:x.2.2.2.1 % 2=0)(f1:x.2.2.2.1<((2^n:Nat):Int)):(B4 (Ev w x a).1=true/\(Ev w x a).1.1=a.1/\(Ev w x a).1.2.1=a.2.1/\(Ev w x a).1.2.2.2=a.2.2.2) /\
 ((Ev w x a).2.1=x.1/\(Ev w x a).2.2.1=x.2.1/\(Ev w x a).2.2.2.1=x.2.2.1/\(Ev w x a).2.2.2.2.2.1=x.2.2.2.2.1) /\
 (0<=(Ev w x a).2.2.2.2.2.2.1/\(Ev w x a).2.2.2.2.2.2.1<=15)/\0<=(Ev w x a).2.2.2.2.1/\(Ev w x a).2.2.2.2.1 % 2=0/\(Ev w x a).2.2.2.2.1<((2^n:Nat):Int):=by
 obtain⟨k,L,mc,f,hd,on,cp⟩:=x;obtain⟨g,c,m,p⟩:=a;obtain⟨h1,Y,N,J,q⟩:=I;have h:=(LC g c m p).1 h1;simp only at b j D f1 Z Y N J q;obtain⟨F,rfl⟩:=Int.eq_ofNat_of_zero_le D;obtain⟨O,rfl⟩:=Int.eq_ofNat_of_zero_le b;obtain⟨M,rfl⟩:=Int.eq_ofNat_of_zero_le (show 0<=m by omega);obtain⟨P,rfl⟩:=Int.eq_ofNat_of_zero_le (show 0<=p by omega);have hF:F<2^n:=by omega
 have R:2^n<=2^4:=Nat.pow_le_pow_right (by omega) G;have U:(2:Nat)^4=16:=by decide
 unfold Ev;simp only[AG];by_cases A:g=2
 ·subst A;by_cases C:0<c
  ·have:=Zcq w c cp (m:=M) (on:=O) (by omega) (by omega);simp only[AS,Ac C];refine⟨⟨(LC _ _ _ _).2 (.inr (.inl ⟨rfl,by omega,by omega,by omega,by omega,by omega,by omega⟩)),?_,?_,?_⟩,⟨?_,?_,?_,?_⟩,⟨?_,?_⟩,?_,?_,?_⟩<;>first|trivial|omega
  simp only[AS,Ae C];refine⟨⟨h1,?_,?_,?_⟩,⟨?_,?_,?_,?_⟩,⟨?_,?_⟩,?_,?_,?_⟩<;>first|trivial|omega
 rw[Ae A];by_cases z:g=4
 ·have hp:=q (by omega);obtain⟨t1,i⟩:=ZgY ⟨F,by omega⟩ ⟨P,by omega⟩ ⟨n,by omega⟩ (by simp only;omega) (by simp only;omega) (by simp only;omega) (by simp only;omega);simp only[Ac z];simp only at t1 i;refine⟨⟨h1,?_,?_,?_⟩,⟨?_,?_,?_,?_⟩,⟨?_,?_⟩,?_,?_,?_⟩<;>first|trivial|omega
 rw[Ae z];by_cases u:g=5
 ·have hp:=q (by omega);obtain⟨t1,i⟩:=Zix ⟨P,by omega⟩ ⟨n,by omega⟩ (by simp only;omega);simp only[Ac u];simp only at t1 i;refine⟨⟨h1,?_,?_,?_⟩,⟨?_,?_,?_,?_⟩,⟨?_,?_⟩,?_,?_,?_⟩<;>first|trivial|omega
 rw[Ae u];by_cases s:g=8
 ·have t:=mM O M;have i:=Nat.or_lt_two_pow (x:=O) (y:=M) (n:=4) (by omega) (by omega);simp only[Ac s];refine⟨⟨h1,?_,?_,?_⟩,⟨?_,?_,?_,?_⟩,⟨?_,?_⟩,?_,?_,?_⟩<;>first|trivial|omega|(split<;>omega)
 rw[Ae s];split
 ·exact⟨⟨h1,rfl,rfl,rfl⟩,⟨rfl,rfl,rfl,rfl⟩,⟨by simp only;omega,by simp only;omega⟩,by simp only;omega,by simp only;omega,by simp only;omega⟩
 exact⟨⟨h1,rfl,rfl,rfl⟩,⟨rfl,rfl,rfl,rfl⟩,⟨by simp only;omega,by simp only;omega⟩,by simp only;omega,by simp only;omega,by simp only;omega⟩
theorem Yv(h:Bool)(a b:Fu):(Y_ h a.1 b.1,Y_ h a.2.1 b.2.1,Y_ h a.2.2.1 b.2.2.1,Y_ h a.2.2.2 b.2.2.2)=Y_ h a b:=by
 cases h
 ·simp only[CH]
 simp only[CL]
theorem Zeg{x:DU}(b:EngOk x)(hs:DG x)(k:Int)(h:Bool)(i:0<=k)(g:k<x.1):(B4 (Bn x k h).1=true/\(Bn x k h).1.1=(M5 x k h).1/\(Bn x k h).1.2.1=(M5 x k h).2.1/\(Bn x k h).1.2.2.2=(M5 x k h).2.2.2) /\
 ((Bn x k h).2.1=x.1/\(Bn x k h).2.2.1=x.2.1/\(Bn x k h).2.2.2.1=x.2.2.1/\(Bn x k h).2.2.2.2.2.1=x.2.2.2.2.1) /\
 (0<=(Bn x k h).2.2.2.2.2.2.1/\(Bn x k h).2.2.2.2.2.2.1<=15)/\0<=(Bn x k h).2.2.2.2.1/\(Bn x k h).2.2.2.2.1 % 2=0/\(Bn x k h).2.2.2.2.1<((2^x.2.1.length:Nat):Int):=
 Zgp _ x.2.1.length (Ht hs.1 b.map).l2 (j5 b hs k h i g) b.on0 b.on1 b.f0 b.f2 b.f1
theorem Zee(x:DU)(k:Int)(h:Bool)(hs:DG x)(g:FD x=false\/k<0\/x.1<=k\/0<=FJ (x,k)):PB (x,k,h)/\Ny (x,k,h)/\BL (x,k,h)=(eW,[],false)/\Ap (x,k,h)=(eW,[],false):=by
 have u:x.2.2.2.2.1.length<=1048576:=hs.2.2.1.1;obtain⟨q,n,C⟩:=iT x hs;obtain⟨t,s⟩:=kQ (x,k) u;have i:∀y,D8 y:=λy=>by rw[PG];trivial
 rw[iA,ic,ir,ig];unfold Mb;simp only[Z8,<- C,G0];cases j:FD x with
 | false=>
   have c2:U' false=true:=(by rw[Aw];rfl);have D:∀b,w_ true b=true:=λb=>(by rw[Bl];rfl);simp only[c2,D,CL];exact⟨⟨⟨q,λ_=>trivial,(λh=>by cases h)⟩,λ_=>trivial,(λh=>by cases h)⟩,⟨⟨n,λ_=>trivial,(λh=>by cases h)⟩,λ_=>trivial,(λh=>by cases h)⟩,rfl,rfl⟩
 | true=>
   have hm:=Ht hs.1 ((ZI x hs).1 j).map;have A:=hm.k1;have z:=hm.k2;have g:k<0\/x.1<=k\/0<=FJ (x,k):=(by rcases g with g|g;rw[j]at g;cases g;exact g);have F:w_ (U' true) (w_ (U' (decide (0<=k)&&decide (k<=iSub .i64 x.1 1))) (iGe (FJ (x,k)) 0))=true:=by
    simp only[Bl,Aw,CK,Gp,Bool.false_or,B7,Bq,F0,Bm,Av];rw[Fl (by unfold Br;omega)];omega
   have c2:w_ (U' true) (w_ (c_ k 0) (w_ (iGe k x.1) (iGe (FJ (x,k)) 0)))=true:=by
    simp only[Bl,Aw,CK,Am,Gp,Bool.false_or,B7,Av];omega
   simp only[F,c2,CL];exact⟨⟨⟨q,λ_=>trivial,λ_=>⟨i _,λ_=>trivial,λ_=>t⟩⟩,λ_=>trivial,λh=>by cases h⟩,⟨⟨n,λ_=>trivial,λ_=>⟨λ_=>trivial,λ_=>⟨λ_=>trivial,λ_=>s⟩⟩⟩,λ_=>trivial,λh=>by cases h⟩,rfl,rfl⟩
theorem Zfb(x:DU)(k:Int)(h:Bool)(hs:DG x)(C:FD x=true)(t:0<=k)(D:k<x.1)(hn:FJ (x,k)<0):PB (x,k,h)/\Ny (x,k,h)/\BL (x,k,h)=(Yi x k h,LY (CF x.2.2.2.2.1) (Gw x k h++[CF (C3 x k h)]),true) /\
 Ap (x,k,h)=(Yi x k h,LY (CF x.2.2.2.2.1) (Gw x k h++[CF (C3 x k h)]),true)/\HZ (CF x.2.2.2.2.1)/\HZ (CF (C3 x k h))/\(∀r∈Gw x k h,HZ r)/\(Gw x k h).length<=1000:=by
 have u:x.2.2.2.2.1.length<=1048576:=hs.2.2.1.1;have n:=(ZI x hs).1 C;have hm:=Ht hs.1 n.map;have hk1:=hm.k1;have hk2:=hm.k2;have hl4:=hm.l2;have h32:=lV u n.held;obtain⟨e1,e2,e3⟩:=iT x hs;obtain⟨q1,q2⟩:=kQ (x,k) u;obtain⟨c1,c2⟩:=Zem x hs;obtain⟨d1,d2⟩:=ZaA x hs;have ag:=j5 n hs k h t D;obtain⟨⟨s1,s2,s3,s4⟩,⟨s5,s6,s7,U⟩,_⟩:=Zeg n hs k h t D;have A:x.2.2.2.1<=15:=by
  have h2:2^x.2.1.length<=2^4:=Nat.pow_le_pow_right (by omega) hl4;have:=n.f1;omega
 obtain⟨t1,t2,t3,t4⟩:=ZeA x (M5 x k h) ag.1 n.f0 A n.on0 n.on1;obtain⟨_,_,_,ea⟩:=n7 hm (EW (x.2.2.2.1,x.2.2.2.2.1)) k t D;obtain⟨la1,la2,_,_⟩:=iR hm (EW (x.2.2.2.1,x.2.2.2.2.1)) k t D;have hv:Rx ((x.1,x.2.1),EW (x.2.2.2.1,x.2.2.2.2.1),k)=BW ((x.1,x.2.1),EW (x.2.2.2.1,x.2.2.2.2.1),k):=by
  rw[BW.eq_1 ((x.1,x.2.1),EW (x.2.2.2.1,x.2.2.2.2.1),k)];simp only;rw[n.map,Bl,Bl,Aw,Am,CK,Dl (by omega),Dl (by omega)];simp only[Gp,Bool.or_self,CH]
 have S2:Co (x,k,h)=LS x k:=by
  unfold Co LS;simp only[ja,ZbU _ _ _ _ hs.1]
 have G:BV (x,k,h)=Bn x k h:=by
  unfold BV;simp only[S2,c2,Yv];exact t3
 have I1:Js (x,k,h)=BW ((x.1,x.2.1),EW (x.2.2.2.1,x.2.2.2.2.1),k):=hv;have eg:So (So x.2.1 (R_ (BW ((x.1,x.2.1),EW (x.2.2.2.1,x.2.2.2.2.1),k))) []) (R_ k) (0,0,0,0)=LS x k:=by
  rw[AJ,AJ,Ax,Ax];exact ea.symm
 have I2:Ex (x,k,h)=DF (LS x k):=by
  unfold Ex;simp only[I1,eg,Zgz]
 have I3:Ey (x,k,h)=DE (LS x k):=by
  unfold Ey;simp only[I1,eg,Zeo]
 have I:BU (x,k,h)=Bn x k h:=by
  unfold BU;simp only[I2,I3,d2,Yv];exact t4
 have H:i9 (Bn x k h).2.2.2.2.2.1 [(k,(Bn x k h).1)]=C3 x k h:=by rw[B6,U];rfl
 have E:∀z:DU,((Bn x k h).2.1,(Bn x k h).2.2.1,(Bn x k h).2.2.2.1,(Bn x k h).2.2.2.2.1,C3 x k h,(Bn x k h).2.2.2.2.2.2)=Yi x k h:=λ_=>by
  unfold Yi;rw[s5,s6,s7]
 have hP:(C3 x k h).length<=1048576:=by unfold C3;simp;omega
 obtain⟨r1,r2,Z,Y⟩:=RP x.2.2.2.2.1 u;obtain⟨u1,u2,u3,J⟩:=RP (C3 x k h) hP;rw[Z]at Y;rw[u3]at J;have S4:Rm (x,k,h)=CF (C3 x k h):=by unfold Rm;simp only[G,H]
 have S5:Rn (x,k,h)=GA (C3 x k h,So x.2.2.1 (R_ (Bn x k h).1.2.2.2) []):=by unfold Rn;simp only[G,H]
 have I5:Rp (x,k,h)=CF (C3 x k h):=by unfold Rp;simp only[I,H,u3]
 have b:W_ (g9 (Bn x k h).1.1 9) (c_ (Bn x k h).1.2.2.2 (U_ x.2.2.1))=true->((0:Int)<=(Bn x k h).1.2.2.2/\(Bn x k h).1.2.2.2<(x.2.2.1.length:Int))/\R_ (Bn x k h).1.2.2.2<x.2.2.1.length /\
  QQ (C3 x k h,So x.2.2.1 (R_ (Bn x k h).1.2.2.2) [])/\QR (C3 x k h,So x.2.2.1 (R_ (Bn x k h).1.2.2.2) [])/\QV (C3 x k h,So x.2.2.1 (R_ (Bn x k h).1.2.2.2) [])=GA (C3 x k h,So x.2.2.1 (R_ (Bn x k h).1.2.2.2) []) /\
  (GA (C3 x k h,So x.2.2.1 (R_ (Bn x k h).1.2.2.2) [])).length<=1000/\∀r∈GA (C3 x k h,So x.2.2.1 (R_ (Bn x k h).1.2.2.2) []),HZ r:=by
  intro j;rw[Az,BD,Am,Ak,Ai,Av,Av]at j;obtain⟨g1,g2⟩:=j;have h0:0<=(Bn x k h).1.2.2.2:=(ZiS s1).1;have hi:R_ (Bn x k h).1.2.2.2<x.2.2.1.length:=(by rw[Ax];omega);have q:=(hs.2.1.2 _ (B5 x.2.2.1 (R_ (Bn x k h).1.2.2.2) [] hi)).1;rw[<- AJ]at q;obtain⟨m1,m2,m3,⟨m4,m5⟩,_⟩:=wG (C3 x k h) (So x.2.2.1 (R_ (Bn x k h).1.2.2.2) []) hP q;exact⟨⟨h0,g2⟩,hi,m1,m2,m3,m4,m5⟩
 have I6:Y_ (W_ (g9 (Bn x k h).1.1 9) (c_ (Bn x k h).1.2.2.2 (U_ x.2.2.1))) (Rk (x,k,h)) []=Gw x k h:=by
  unfold Gw;cases hb:W_ (g9 (Bn x k h).1.1 9) (c_ (Bn x k h).1.2.2.2 (U_ x.2.2.1))with
  |false=>rw[CH,CH]
  | true=>
    rw[CL,CL];unfold Rk;simp only[I,H];exact(b hb).2.2.2.2.1
 have s:(Gw x k h).length<=1000/\∀r∈Gw x k h,HZ r:=by
  unfold Gw;cases hb:W_ (g9 (Bn x k h).1.1 9) (c_ (Bn x k h).1.2.2.2 (U_ x.2.2.1))with
  |false=>rw[CH];exact⟨by simp,by simp⟩
  |true=>rw[CL];exact(b hb).2.2.2.2.2
 have M:Y_ (W_ (g9 (Bn x k h).1.1 9) (c_ (Bn x k h).1.2.2.2 (U_ x.2.2.1))) (GA (C3 x k h,So x.2.2.1 (R_ (Bn x k h).1.2.2.2) [])) []=Gw x k h:=rfl;obtain⟨g1,g2,g3,g4⟩:=Zck (CF x.2.2.2.2.1) (Gw x k h++[CF (C3 x k h)]) Y (by have:=s.1;simp;omega) (by
  intro r F;rw[CN,List.mem_singleton]at F;rcases F with F|rfl
  ·exact s.2 r F
  exact J)
 have i:AD ((x.2.2.2.2.1.length+[(k,(Bn x k h).1)].length)*5):=by unfold AD;simp only[A0,A8];omega
 have g:AD (((Gw x k h).length+[CF (C3 x k h)].length)*2):=by have:=s.1;unfold AD;simp only[A0,A8];omega
 obtain⟨R,O,N,L⟩:=ZcI (LS x k);have okl:∀y,D8 y:=λy=>by rw[PG];trivial
 have ola:=jx x.1 x.2.1 (EW (x.2.2.2.1,x.2.2.2.2.1)) k hs.1;have bs:w_ (U' true) (w_ (U' (decide (0<=k)&&decide (k<=iSub .i64 x.1 1))) (iGe (FJ (x,k)) 0))=false:=by
  rw[Fl (by unfold Br;omega),Bl,Bl,Aw,Aw,CK,Gj (by omega),Gj (by omega),Dl (by omega)];rfl
 have bi:w_ (U' true) (w_ (c_ k 0) (w_ (iGe k x.1) (iGe (FJ (x,k)) 0)))=false:=by
  rw[Bl,Bl,Bl,Aw,Am,CK,CK,Dl (by omega),Dl (by omega),Dl (by omega)];rfl
 have S1:Mb (x,k,h)=(decide (0<=k)&&decide (k<=iSub .i64 x.1 1)):=by unfold Mb;rw[G0]
 refine⟨?_,?_,?_,?_,Y,J,s.2,s.1⟩
 ·rw[iA];simp only[Z8,<- e3,C,S1,S2,G,S4,S5,H,M,bs,c2,Yv,ja];refine⟨⟨e1,λ_=>trivial,λ_=>⟨okl _,λ_=>trivial,λ_=>q1⟩⟩,(λh=>by cases h),λ_=>⟨c1,si _ _ u,(Zb4 _ _ _ _ hs.1).1,⟨λ_=>R,λ_=>O⟩,t1,by rw[U];exact i,⟨λj=>⟨(b j).1,(b j).2.1,(b j).2.2.1⟩,λ_=>trivial⟩,u1,g,r1,by rw[B6];exact g1,trivial,trivial,trivial⟩⟩
 ·rw[ic,Za9];have hrow:=hm.row (BW ((x.1,x.2.1),EW (x.2.2.2.1,x.2.2.2.2.1),k)).toNat (by omega);have okA:Rq ((x.1,x.2.1),EW (x.2.2.2.1,x.2.2.2.2.1),k):=by
   have:=ola.2;rw[Vn.eq_1]at this;refine this.2.2 ?_;simp only;rw[n.map,Bl,Bl,Aw,Am,CK,Dl (by omega),Dl (by omega)];rfl
  simp only[C,bi,I1,eg,I2,I3,I,I5,I6,H,d2,Yv,Z];refine⟨⟨e2,λ_=>trivial,λ_=>⟨λ_=>trivial,λ_=>⟨λ_=>trivial,λ_=>q2⟩⟩⟩,(λh=>by cases h),λ_=>⟨d1,r7 _ _ u,okA,⟨la1,la2⟩,by rw[Ax];omega,⟨t,?_⟩,?_,⟨λ_=>N,λ_=>L⟩,t2,by rw[U];exact i,⟨λj=>⟨(b j).1,(b j).2.1,(b j).2.2.2.1⟩,λ_=>trivial⟩,u2,g,r2,by rw[B6];exact g2,trivial,trivial,trivial⟩⟩
  ·rw[AJ,Ax];omega
  rw[AJ,Ax,Ax];omega
 ·rw[ir];simp only[Z8,<- e3,C,S1,G,S4,S5,H,M,bs,CH,B6,g3,E x]
 rw[ig,Zar];simp only[C,bi,I,I5,I6,H,CH,B6,Z,g4,E x]
end
section
set_option maxRecDepth 8000
def qn:d4:=(A_ [3,2,1] 3 [O' 0 7 0,G_ 6 (Q_ As)] (A_ [7,3,2,1] 7 [E' 1048576] (A_ [7,3,2,1] 21 [K_ 0 7 3,C_ 7,I' Kz [21,22],G_ 7 (C_ 23)] (.seq [3,2,1] (A_ [25,3,2,1] 24 [C_ 7,M' 24 AL] (.cond 25 (A_ [6] 6 [Q_ AV] .ret) .skip)) (A_ [10,9,8,3,2,1] 27 [K_ 0 7 3,I' FE [27],C_ 1,C_ 2,I' Lf [28,29,30],G_ 26 (C_ 31),B_ (.extract 26 0),B_ (.extract 26 1),B_ (.extract 26 2),H_ 8 (B_ (.e_ 1 [Ad,.b_,.b_,Ad,.b_,Ad,EO])),E_ (.V_ 1 7 8 32),D_ 33,C_ 34] (A_ [11,10,9,8,3,2,1] 35 [K_ 0 7 3,I' FE [35],G_ 11 (B_ (.e_ 2 [Ad,.b_,.b_,Ad,.b_,Ad,EO])),E_ (.V_ 2 7 11 36)] (A_ [14,13,12,11,10,9,8,3,2,1] 38 [K_ 2 7 11,C_ 1,C_ 2,I' Iz [38,39,40],G_ 37 (C_ 41),B_ (.extract 37 0),B_ (.extract 37 1),B_ (.extract 37 2),H_ 12 (B_ (.e_ 3 [Ad,.b_,.b_,Ad,.b_,Ad,EO])),E_ (.V_ 3 7 12 42),C_ 43,C_ 44] (.seq [14,13,12,11,10,9,8,3,2,1] (A_ [59,14,13,12,11,10,9,8,3,2,1] 45 [K_ 3 7 12,K_ 1 7 8,I' ET [45,46],P' 47,C_ 48,F' 49 (I_ (.a true (.mv 13) none)),F' 49 (I_ (.a true (.mv 9) none)),F' 49 (I' Ee [50,51]),F' 49 (P' 52),L_ 49 AV 53,C_ 54,F' 55 (Q_ 14),F' 55 (Q_ 10),F' 55 (B_ (.eqB true 56 57)),L_ 55 AV 58] (.cond 59 (A_ [6] 6 [Q_ As] .ret) .skip)) (.seq [14,13,12,11,10,9,8,3,2,1] (A_ [64,14,13,12,11,10,9,8,3,2,1] 60 [K_ 2 7 11,K_ 0 7 3,G' [1] (I' FE [61]),G' (rg 3) (I' ET [60,62]),G' (rg 4) (P' 63)] (.cond 64 (A_ [6] 6 [Q_ As] .ret) .skip)) (A_ [15,14,13,12,11,10,9,8,3,2,1] 15 [E' 1] (A_ [15,14,13,12,10,9,8,3,2,1] 65 [K_ 2 7 11,C_ 15,I_ (.mark Jn UF 65 66),G_ 15 (C_ 67)] (.seq [13,12,10,9,8,3,2,1] (A_ [86,13,12,10,9,8,3,2,1] 68 [C_ 15,M' 68 AL,C_ 69,F' 70 (K_ 3 7 12),F' 70 (K_ 1 7 8),F' 70 (I' ET [71,72]),F' 70 (P' 73),L_ 70 AV 74,C_ 75,F' 76 (I_ (.a true (.mv 13) none)),F' 76 (I_ (.a true (.mv 9) none)),F' 76 (I' Ee [77,78]),F' 76 (P' 79),L_ 76 AV 80,C_ 81,F' 82 (Q_ 14),F' 82 (Q_ 10),F' 82 (B_ (.eqB true 83 84)),L_ 82 AV 85] (.cond 86 (A_ [6] 6 [Q_ As] .ret) .skip)) (A_ [16,13,12,10,9,8,3,2,1] 16 [E' 1] (A_ [16,13,12,10,9,8,3,2,1] 87 [K_ 3 7 12,C_ 16,I_ (.mark Jn UF 87 88),G_ 16 (C_ 89)] (A_ [16,13,12,10,9,8,3,2,1] 90 [D_ 13,C_ 16,I_ (.mark L5 YM 90 91),G_ 16 (C_ 92)] (A_ [17,16,13,12,10,9,8,3,2,1] 17 [E' 1] (A_ [17,16,13,12,10,9,8,3,2,1] 93 [K_ 3 7 12,C_ 17,I' Ib [93,94],G_ 17 (C_ 95)] (.seq [17,16,13,12,10,9,8,3,2,1] (A_ [97,17,16,13,12,10,9,8,3,2,1] 96 [C_ 17,M' 96 AL] (.cond 97 (A_ [6] 6 [Q_ As] .ret) .skip)) (A_ [17,16,13,12,10,9,8,3,2,1] 98 [D_ 13,C_ 17,I' H9 [98,99],G_ 17 (C_ 100)] (.seq [17,16,13,12,10,9,8,3,2,1] (A_ [102,17,16,13,12,10,9,8,3,2,1] 101 [C_ 17,M' 101 AL] (.cond 102 (A_ [6] 6 [Q_ As] .ret) .skip)) (.seq [16,13,12,10,9,8,3,2,1] (A_ [105,16,13,12,10,9,8,3,2,1] 103 [C_ 17,C_ 16,N' 103 104] (.cond 105 (A_ [6] 6 [Q_ As] .ret) .skip)) (A_ [20,19,18,16,13,12,10,9,8] 107 [K_ 0 7 3,I' FE [107],C_ 1,C_ 2,I' Iz [108,109,110],G_ 106 (C_ 111),B_ (.extract 106 0),B_ (.extract 106 1),B_ (.extract 106 2),H_ 18 (B_ (.e_ 4 [Ad,.b_,.b_,Ad,.b_,Ad,EO])),E_ (.V_ 4 7 18 112),D_ 113,C_ 114] (.seq [16,13,12] (A_ [129,16,13,12] 115 [K_ 4 7 18,K_ 1 7 8,I' ET [115,116],P' 117,C_ 118,F' 119 (I_ (.a true (.mv 19) none)),F' 119 (I_ (.a true (.mv 9) none)),F' 119 (I' Ee [120,121]),F' 119 (P' 122),L_ 119 AV 123,C_ 124,F' 125 (Q_ 20),F' 125 (Q_ 10),F' 125 (B_ (.eqB true 126 127)),L_ 125 AV 128] (.cond 129 (A_ [6] 6 [Q_ As] .ret) .skip)) (A_ [17,16,13,12] 17 [E' 1] (A_ [17,16,13] 130 [K_ 3 7 12,C_ 17,I' Ib [130,131],G_ 17 (C_ 132)] (.seq [17,16,13] (A_ [134,17,16,13] 133 [C_ 17,M' 133 AL] (.cond 134 (A_ [6] 6 [Q_ As] .ret) .skip)) (A_ [17,16] 135 [D_ 13,C_ 17,I' H9 [135,136],G_ 17 (C_ 137)] (.seq [17,16] (A_ [139,17,16] 138 [C_ 17,M' 138 AL] (.cond 139 (A_ [6] 6 [Q_ As] .ret) .skip)) (.seq [] (A_ [142] 140 [C_ 17,C_ 16,N' 140 141] (.cond 142 (A_ [6] 6 [Q_ As] .ret) .skip)) (A_ [6] 6 [Q_ AV] .ret))))))))))))))))))))))))))))))
def Ho:Fn:=⟨⟨3,143,5,true,[.tmp 6],qn⟩,[.agg [Au,(.Z',.sl (.one (.sl AB))),(.Z',.sl (.one (.sl AQ))),Au,(.Z',.sl AU),Au,(.Z',.bool)],.one .Z' (.int .i64),.one .Z' (.bool)],.one (.one .own (.bool))⟩
theorem qI:Ho.A:=AM ⟨we,UO,Za1,UO,im,Vb,YS,UO,Vb,fp,Vb,YS,fp,qC,fH,fv,UO,im,Vb,YS,fH,fv,trivial⟩
def Ue:Ep->Bool:=Ho.V
def T0:Ep->Prop:=Ho.O
end
section
set_option maxRecDepth 100000
theorem ZmR(x:Ep)(f)(_:f=Ah x.1)(b)(_:b=Ap (f,x.2))(k)(_:k=AP b.1 1)(a)(_:a=Ed ((b.1.1,k.1.2.1,k.1.2.2.1,b.1.2.2.2.1,k.1.2.2.2.2.1,b.1.2.2.2.2.2),1))(j)(_:j=BL (f,x.2))(m)(_:m=U' (DZ (b.1,j.1)))(c)(_:c=w_ m (w_ (U' (Hq (b.2.1,j.2.1))) (U' (bIff b.2.2 j.2.2))))(d)(_:d=(Ns (b.1,j.1)/\(m=true->True)/\(m=false->Pb (b.2.1,j.2.1))))(e)(_:e=De b.2.1 k.2)(g)(_:g=QZ ((b.1.1,k.1.2.1,k.1.2.2.1,b.1.2.2.2.1,k.1.2.2.2.2.1,b.1.2.2.2.2.2),1))(h)(_:h=H8 (e.1,a))(i)(_:i=c_ (AP f 1).2 0)(l)(_:l=c_ (Jr (x.1,1048576)) 0)(n)(_:n=c_ a 0)(p)(_:p=U' (DZ (f,f)))(q)(_:q=i_ h e.2)(r)(_:r=List.length b.1.2.2.2.2.1)(s)(_:s=List.length f.2.2.2.2.1)(t)(_:t=c_ h 0)(u)(_:u=List.length b.1.2.2.1)(w)(_:w=Nq x.1)(y)(_:y=List.length f.2.2.1)(z)(_:z=List.length b.1.2.1)(aa)(_:aa=List.length f.2.1)(ab)(_:ab=List.length b.2.1)(ac)(_:ac=w_ i c):Ue x=w_ l (W_ (U' c) (W_ (U' p) (W_ (U' ac) (W_ (U' n) (W_ (U' t) (W_ (U' q) (W_ (U' c) (W_ (U' n) (W_ (U' t) (U' q))))))))))/\T0 x=(UY (x.1,1048576)/\(l=true->True)/\(l=false->w/\PB (f,x.2)/\w/\Ny (f,x.2)/\d/\(c=true->True)/\(c=false->w/\Ns (f,f)/\(p=true->True)/\(p=false->((aa=aa/\y=y/\s=s)/\DMk.ok (DMk.mk (RT.cons (CT.int IntKind.i64) (RT.cons (CT.sl (RT.one (CT.sl (RT.cons (CT.int IntKind.i64) (RT.cons (CT.int IntKind.i64) (RT.cons (CT.int IntKind.i64) (RT.one (CT.int IntKind.i64)))))))) (RT.cons (CT.sl (RT.one (CT.sl (RT.cons (CT.int IntKind.i64) (RT.cons (CT.int IntKind.i64) (RT.one (CT.int IntKind.i64))))))) (RT.cons (CT.int IntKind.i64) (RT.cons (CT.sl (RT.cons (CT.int IntKind.i64) (RT.cons (CT.int IntKind.i64) (RT.cons (CT.int IntKind.i64) (RT.cons (CT.int IntKind.i64) (RT.one (CT.int IntKind.i64))))))) (RT.cons (CT.int IntKind.i64) (RT.one CT.bool))))))) true Nh AP false) f)/\((i=true->True)/\(i=false->d))/\(ac=true->True)/\(ac=false->((z=z/\u=u/\r=r)/\DMk.ok (DMk.mk (RT.cons (CT.int IntKind.i64) (RT.cons (CT.sl (RT.one (CT.sl (RT.cons (CT.int IntKind.i64) (RT.cons (CT.int IntKind.i64) (RT.cons (CT.int IntKind.i64) (RT.one (CT.int IntKind.i64)))))))) (RT.cons (CT.sl (RT.one (CT.sl (RT.cons (CT.int IntKind.i64) (RT.cons (CT.int IntKind.i64) (RT.one (CT.int IntKind.i64))))))) (RT.cons (CT.int IntKind.i64) (RT.cons (CT.sl (RT.cons (CT.int IntKind.i64) (RT.cons (CT.int IntKind.i64) (RT.cons (CT.int IntKind.i64) (RT.cons (CT.int IntKind.i64) (RT.one (CT.int IntKind.i64))))))) (RT.cons (CT.int IntKind.i64) (RT.one CT.bool))))))) true Nh AP false) b.1)/\(ab=ab/\DMk.ok (DMk.mk (RT.one (CT.sl (RT.cons (CT.int IntKind.i64) (RT.one (CT.sl (RT.one (CT.int IntKind.i64))))))) false OW De false) b.2.1)/\g/\(n=true->True)/\(n=false->QW (e.1,a)/\(t=true->True)/\(t=false->(q=true->True)/\(q=false->w/\Ny (f,x.2)/\d/\(c=true->True)/\(c=false->g/\(n=true->True)/\(n=false->QW (e.1,a))))))))))):=by subst_vars;exact⟨(Ho.v x).trans (by kernel_rfl),(Ho.o x).trans (by kernel_rfl)⟩
abbrev qJ:=λx=>(ZmR x _ rfl _ rfl _ rfl _ rfl _ rfl _ rfl _ rfl _ rfl _ rfl _ rfl _ rfl _ rfl _ rfl _ rfl _ rfl _ rfl _ rfl _ rfl _ rfl _ rfl _ rfl _ rfl _ rfl _ rfl _ rfl _ rfl).1
abbrev qF:=λx=>(ZmR x _ rfl _ rfl _ rfl _ rfl _ rfl _ rfl _ rfl _ rfl _ rfl _ rfl _ rfl _ rfl _ rfl _ rfl _ rfl _ rfl _ rfl _ rfl _ rfl _ rfl _ rfl _ rfl _ rfl _ rfl _ rfl _ rfl).2
attribute [irreducible] Ue T0
end
section
set_option maxRecDepth 20000
theorem ZdL(x:DU)(k:Int)(h:Bool)(hs:DG x):∃E L b,PB (x,k,h)/\Ny (x,k,h)/\BL (x,k,h)=(E,L,b)/\Ap (x,k,h)=(E,L,b)/\DG E/\Wm L:=by
 have y:x.2.2.2.2.1.length<=1048576:=hs.2.2.1.1;by_cases g:FD x=false\/k<0\/x.1<=k\/0<=FJ (x,k)
 ·obtain⟨t,s,n,j⟩:=Zee x k h hs g;exact⟨_,_,_,t,s,n,j,by simp[eW,DG,Ej,JA,Lm,Mi],by simp[Wm]⟩
 have u:FD x=true:=by
  cases e:FD x with
  |true=>rfl
  |false=>exact absurd (.inl e) g
 have O:¬k<0:=λq=>g (.inr (.inl q));have N:¬x.1<=k:=λq=>g (.inr (.inr (.inl q)));have M:¬0<=FJ (x,k):=λq=>g (.inr (.inr (.inr q)));have F:=(ZI x hs).1 u;have D:=lV y F.held;obtain⟨t,s,n,j,J,I,G,R⟩:=Zfb x k h hs u (by omega) (by omega) (by omega);have C:(C3 x k h).length<=1048576:=by unfold C3;simp;omega
 have hi:=mf HZ (CF x.2.2.2.2.1) J (Gw x k h++[CF (C3 x k h)]) (λr i=>by
  rw[CN,List.mem_singleton]at i;rcases i with i|rfl
  ·exact G r i
  exact I)
 have z:(Gw x k h++[CF (C3 x k h)]).length<=1048576:=by rw[CO];simp only[A0,A8];omega
 refine⟨_,_,_,t,s,n,j,⟨hs.1,hs.2.1,⟨C,λa _=>by simp[N3,NJ]⟩,trivial⟩,⟨CV hi.1 z,λa A=>⟨hi.2.1 a A,trivial⟩⟩⟩
theorem rR(x:DU×Int×Bool)(hw:TuX.wf Ho.h x):T0 x/\Ue x=true:=by
 obtain⟨⟨k,q,n,J,i,g,j⟩,D,u⟩:=x;rw[qF,qJ];obtain⟨w1,O,N,w4,M,w6,w7⟩:=hw.1;have t:aH (k,q,n,J,i,g,j):=⟨Zbs O,Zbh N,⟨M.1,λa _=>by simp[nA,Wt]⟩,trivial⟩;generalize (k,q,n,J,i,g,j)=x at t;simp only;obtain⟨I,s⟩:=ZdC x t 1048576 (by omega) (by omega);rcases s with s|⟨s,_,y⟩
 ·have e:c_ (Jr (x,1048576)) 0=true:=(by rw[Am];simpa using s);simp only[e];simp[Bl,I]
 have e:c_ (Jr (x,1048576)) 0=false:=by rw[Am];simpa using s
 obtain⟨t1,R⟩:=Zdp x y;obtain⟨E,L,b,r1,r2,Y,U,G,F⟩:=ZdL x D u y;obtain⟨Z,z⟩:=kz x x y;have z:=z.2 rfl;obtain⟨p1,A⟩:=kz E E G;have A:=A.2 rfl;obtain⟨l1,C⟩:=ZcU L L F;have C:=C.2 rfl;obtain⟨m1,⟨m2,m3⟩,_,_⟩:=ko x y 1 (by omega) (by omega);obtain⟨n1,⟨n2,n3⟩,n4,n5⟩:=ko E G 1 (by omega) (by omega);obtain⟨o1,⟨o2,o3⟩,o4,o5⟩:=ZcL L F (AP E 1).2 (by omega) (by omega);have c0:c_ (AP x 1).2 0=false:=by rw[Am];simp;omega
 have c1:c_ (AP E 1).2 0=false:=by rw[Am];simp;omega
 have c2:c_ (De L (AP E 1).2).2 0=false:=by rw[Am];simp;omega
 simp only[e,R,Y,U,I,t1,r1,r2,Z,z,p1,A,l1,C,m1,n1,n4,n5,o1,o4,o5,c0,c1,c2];simp[Bl,Az,Aw,EF,Bj]
end
end
end Go.Ag
