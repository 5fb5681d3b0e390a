/- Part 8 of what FnExactRelease needs. No conditions. -/
import Derived.Test.YtbkpfpcnjpggaaaGreatLibG
namespace Go.Ag
set_option linter.unusedSimpArgs false
set_option linter.unusedVariables false
noncomputable section
section
set_option maxRecDepth 20000
def Tb(x:Cl):Prop:=x.length<=1048576/\∀ a∈x,Wl a
theorem vz(a b:Cl)(h:Tb a):Na (a,b)/\(Gg (a,b)=true↔a=b):=by
 rw[mw,mr];obtain⟨h1,h2⟩:=h
 have hY:∀ i:Nat,i<a.length->O7 (((lGet a i (0,[])).1,(lGet a i (0,[])).2),((lGet b i (0,[])).1,(lGet b i (0,[])).2))/\(I8 (((lGet a i (0,[])).1,(lGet a i (0,[])).2),((lGet b i (0,[])).1,(lGet b i (0,[])).2))=true↔a.getD i (0,[])=b.getD i (0,[])):=λ i hi=>by
  have:=wT (a.getD i (0,[])) (b.getD i (0,[])) (h2 _ (Ce a i (0,[]) hi));rw[AU,AU];exact this
 by_cases hl:a.length=b.length
 . refine⟨⟨λ _=>trivial,λ _=>MA a b (0,[]) (λ i=>bNot (I8 (((lGet a i (0,[])).1,(lGet a i (0,[])).2),((lGet b i (0,[])).1,(lGet b i (0,[])).2)))) hl (λ i hi=>by simp only[Ax,Cf,(hY i hi).2]) (by omega) (λ i hi=>by simp only[AD,As,Al,Ay,Ax,AQ,Dd]) (λ i hi=>rfl) (λ i hi=>?_)⟩,?_⟩
   . simp only[As,Al,Ay,AB,AQ];exact⟨λ hh=>⟨by omega,by omega,by omega,by omega,(hY i (by omega)).1⟩,λ _=>trivial⟩
   . have hv:=MH (c:=λ i:Int=>bAnd (iLt i (lLen a)) (bNot ((λ i=>bNot (I8 (((lGet a i (0,[])).1,(lGet a i (0,[])).2),((lGet b i (0,[])).1,(lGet b i (0,[])).2)))) i.toNat))) (f:=λ i=>iAdd .i64 i 1) a b (0,[]) (λ i=>bNot (I8 (((lGet a i (0,[])).1,(lGet a i (0,[])).2),((lGet b i (0,[])).1,(lGet b i (0,[])).2)))) hl (λ i hi=>by simp only[Ax,Cf,(hY i hi).2]) (by omega) (λ i hi=>by simp only[AD,As,Al,Ax,AQ,Dd]) (λ i hi=>rfl)
     have e1:bNot (iNe (lLen a) (lLen b))=true:=by rw[Ax,BD,Al,Al,hl];simp
     rw[e1,AD true,JO,Ax (iLt _ (lLen a)),As _ (lLen a)];simp only[<- Ay,Al] at hv ⊢;simp only[BJ,B7];rw[hv];simp
 . have e1:bNot (iNe (lLen a) (lLen b))=false:=by rw[Ax,BD,Al,Al];simp;omega
   refine⟨⟨λ _=>trivial,λ h=>?_⟩,?_⟩
   . rw[Ax] at e1;rw[h] at e1;cases e1
   . rw[e1,AD,J5];constructor
     . intro h;cases h
     . intro e;subst e;exact absurd rfl hl
def FL(a:BE)(k:Int):BE×Int:=((k,(FD a.2 (IntKind.i64.wrap (k+1))).1),(FD a.2 (IntKind.i64.wrap (k+1))).2)
theorem vE(x:Cl)(h:Tb x)(m:Int)(h0:0<=m)(h1:m+1099512676352<=2305843009213693952):MZ x/\(m<=(CG x m).2/\(CG x m).2<=m+1099512676352)/\OO ((CG x m).1,m)/\GR ((CG x m).1,m)=(CG x m).2:=by
 have hl:x.length<=1048576:=h.1
 have hU:Kh FL x 1048577:=by
  intro a ha k k0 k1;have e0:IntKind.i64.wrap (k+1)=k+1:=Cu (by omega) (by omega);obtain⟨_,⟨p1,q1⟩,y1,z1⟩:=eX a.2 (h.2 a ha).1 (k+1) (by omega) (by omega)
  have t1:¬ (FD a.2 (k+1)).2<0:=by omega
  have ee:(FL a k).2=(FD a.2 (k+1)).2:=by simp only[FL,e0]
  rw[ee];omega
 have hB:x.length*1048577<=1099512676352:=L6 hl (by decide);have up:=Mk (m:=m) hU h0 (by omega)
 have hmg:CG x m=AP FL x m:=by unfold FL;rw[Zj,ZC];rfl
 rw[hmg];have hL:=FY FL x m
 have hg:∀ i,i<x.length->(AP FL x m).1.getD i (0,[])=(FL (x.getD i (0,[])) (A4 FL x m i).2).1:=λ i hi=>LX _ _ _ hi _
 have hok:MZ x:=by rw[Zi];exact⟨Cz h.1 (by decide),λ a ha=>⟨trivial,⟨Cz (h.2 a ha).1 (by decide),λ a ha=>trivial⟩⟩⟩
 rw[jP,jH];dsimp only;generalize (AP FL x m).1=L at hL hg ⊢
 have key:LoopOk (fun(x0:Aq)=>(bAnd (iLt x0.2 (lLen L)) (bAnd (bNot (iNe (lGet L (iNat x0.2) (0,[])).1 x0.1)) (bNot (iLt (Ed ((lGet L (iNat x0.2) (0,[])).2,(iAdd .i64 x0.1 1))) 0))))) (fun(x0:Aq)=>((Ed ((lGet L (iNat x0.2) (0,[])).2,(iAdd .i64 x0.1 1))),(iAdd .i64 x0.2 1))) (fun(x0:Aq)=>(((iLt x0.2 (lLen L))=true->((((0:Int)<=x0.2)/\(x0.2<(((List.length L):Int))))/\(((iNat x0.2)<(List.length L))/\(((iNe (lGet L (iNat x0.2) (0,[])).1 x0.1)=true->True)/\((iNe (lGet L (iNat x0.2) (0,[])).1 x0.1)=false->((((0:Int)<=x0.2)/\(x0.2<(((List.length L):Int))))/\(((iNat x0.2)<(List.length L))/\(O6 ((lGet L (iNat x0.2) (0,[])).2,(iAdd .i64 x0.1 1))))))))))/\((iLt x0.2 (lLen L))=false->True))) (m,0)/\Ap (fun(x0:Aq)=>(bAnd (iLt x0.2 (lLen L)) (bAnd (bNot (iNe (lGet L (iNat x0.2) (0,[])).1 x0.1)) (bNot (iLt (Ed ((lGet L (iNat x0.2) (0,[])).2,(iAdd .i64 x0.1 1))) 0))))) (fun(x0:Aq)=>((Ed ((lGet L (iNat x0.2) (0,[])).2,(iAdd .i64 x0.1 1))),(iAdd .i64 x0.2 1))) (m,0)=((AP FL x m).2,(x.length:Int)):=by
  refine LK hl (0,[]) (λ i hi=>?_) ?_
  . obtain⟨b1,b2⟩:=KF (m:=m) hU h0 (by omega) (0,[]) i (by omega);have bm:i*1048577+1048577<=x.length*1048577:=LQ hi;have g:=hg i hi
    have hlt:(i:Int)<(L.length:Int):=by omega
    have hlN:i<L.length:=by omega
    have ha:=Ce x i (0,[]) hi;generalize (A4 FL x m i).2=k at b1 b2 g ⊢;generalize x.getD i (0,[])=a at g ha ⊢;have e0:IntKind.i64.wrap (k+1)=k+1:=Cu (by omega) (by omega);obtain⟨_,⟨p1,q1⟩,y1,z1⟩:=eX a.2 (h.2 a ha).1 (k+1) (by omega) (by omega)
    have t1:¬ (FD a.2 (k+1)).2<0:=by omega
    simp only[AU,Ay,Al,AQ,LR,LM,BD,As,De,LP,AD,Ax,Ez,g,FL,e0,y1,z1,t1];simp[hlt,hlN,y1,z1,t1]
  . simp[As,Al,hL,AD]
 refine⟨hok,⟨up.1,by omega⟩,key.1,?_⟩;simp only[key.2];simp[Cn,As,Al,hL]
end
theorem sM(x:MC):M9 x=Fz x:=by
 rw[jW,Zu,ZO];generalize bNot (iLt (Ap _ _ _) _)=L;simp only[AD,Ax,Dt,BD,De];by_cases h:x.1.1=x.2.1<;>simp[h]
theorem aK(a b:BE)(h:a.2.length<=1048576):Rx (a,b)/\Lt (a,b):=by
 obtain⟨m,a⟩:=a;obtain⟨n,b⟩:=b;rw[kt,j6,oN];have h:a.length<=1048576:=h
 have lp:∀ {c:Int->Bool} {f:Int->Int} {p:Int->Prop},(∀ st,c st=true->st<a.length)->(∀ st,f st=iAdd .i64 st 1)->(∀ st:Int,0<=st->st<=a.length->p st)->LoopOk c f p 0:=λ hc hf hp=>
  K0 (λ st=>st) a.length (by omega) (λ st _ _ h=>hc st h) hf hp (by simp) (by simp)
 have cc:∀ {st:Int} {t:Bool},bAnd (iLt st (lLen a)) t=true->st<a.length:=λ {st t} h=>by
  rw[AD,As,Al,Ai,AB] at h;exact h.1
 have pp:a.length=b.length->∀ st:Int,0<=st->iLt st (lLen a)=true->(((0:Int)<=st/\st<(a.length:Int))/\iNat st<a.length/\((0:Int)<=st/\st<(b.length:Int))/\iNat st<b.length):=λ hl st h0 h1=>by
  rw[As,Al,AB] at h1;rw[Ay];omega
 refine⟨⟨λ _=>trivial,λ hb=>?_⟩,λ _=>⟨λ _=>trivial,λ hb=>?_⟩,λ _=>trivial⟩
 . simp only[Dt,BD,Al,Cy,Cf,AB] at hb;exact lp (λ st hc=>cc hc) (λ _=>rfl) (λ st h0 h1=>⟨pp (by omega) st h0,λ _=>trivial⟩)
 . simp only[BD,Al,Cf,AB] at hb;exact lp (λ st hc=>cc hc) (λ _=>rfl) (λ st h0 h1=>⟨pp (by omega) st h0,λ _=>trivial⟩)
theorem SX(x:Dv):Dx x=Dp x:=by
 simp only[oU,ZT,V0,aD,qW,qj,Ax,AD,Dt,Ez,Cn,De,BD,As,L9,K3,KR,ZbD,ZbA,Al,K6,AU,Hj,L5,WN,D4,eY,Ay,ZaG];rw[La]
 repeat' split
 all_goals simp only[Ai,Cg,BJ,Cf,JZ,Cy,AB,B7,JX,Le,A6,L0] at *
 all_goals omega
theorem Rz(x:Dv):Lx x:=by
 have h:∀ y,Fb y:=λ y=>by rw[VZ];trivial
 rw[nS];simp[h]
theorem Vi(x:Dv):Nj x:=by
 have h1:∀ y,Ns y:=λ y=>by rw[rZ];trivial
 have h2:∀ y,LB y:=λ y=>by rw[rX];trivial
 have h3:∀ y,Pe y:=λ y=>by rw[pI];trivial
 rw[mE];simp[h1,h2,h3]
theorem N5(a b c:Int):BZ (a,b,c)=(decide (b<=a)&&decide (a<=c)):=by rw[V0];simp only[AD,KR,L9]
theorem T0 (x):Fb x:=by rw[VZ];trivial
theorem va (x):RG x:=by rw[lr];exact Rz _
theorem du(x:Be):Jz x=Gi x:=by
 rw[sx,aC]
 have:∀ {c c':Int×Int->Bool} {f:Int×Int->Int×Int} {a:Int×Int} {n:Int},(∀ x,c x=c' x)->bNot (iLt (Ap c f a).2 n)=bNot (iLt (Ap c' f a).2 n):=by
  intro c c' f a n h;rw[funext h]
 apply this;intro st;rw[La];simp only[lX,SX,N5,tV,Ax,AD,Dt,De,As,K3,Ai,Cg,BJ,Cf,JZ,Cy,AB,B7,JX,Le,A6,L0];generalize Dp _=A;cases A<;>simp<;>omega
theorem Z0(x:Be)(h:x.length<=1048576):Pn x:=by
 rw[sk];refine K0 (λ st=>st.2) x.length (by omega) (λ st _ _ hc=>?_) (λ st=>rfl) (λ st h0 h1=>?_) (by simp) (by simp)
 . simp only[AD,As,Al,Ai,AB] at hc;exact hc.1
 . refine⟨λ hlt=>?_,λ _=>trivial⟩;simp only[As,Al,AB] at hlt
   have h3:st.2.toNat<x.length:=by omega
   simp only[N5,Ay,h3,h0,hlt,T0,va,Rz,Gp,implies_true,KN,Ax,Dt,Ai,Cg,BJ,Cf,JZ,Cy,AB,B7,JX,Le,A6,L0,Cf,Cy];exact⟨λ hh=>hh.1,λ hh=>hh.1.1⟩
theorem ZX(x:Be)(h:x.length<=1048576):Pj x:=by
 rw[rK];refine K0 (λ st=>st.2) x.length (by omega) (λ st _ _ hc=>?_) (λ st=>rfl) (λ st h0 h1=>?_) (by simp) (by simp)
 . simp only[AD,As,Al,Ai,AB] at hc;exact hc.1
 . refine⟨λ hlt=>?_,λ _=>trivial⟩;simp only[As,Al,AB] at hlt
   have h3:st.2.toNat<x.length:=by omega
   simp only[uV,Ay,h3,h0,hlt,Vi,Gp,implies_true,KN,As,K3,Ax,Dt,Ai,Cg,BJ,Cf,JZ,Cy,AB,B7,JX,Le,A6,L0,Cf,Cy];refine⟨λ h4 h5=>by omega,λ h4 h5=>by omega⟩
def gS(h:C0):Prop:=0<=h.1/\h.1<=31/\Dp h.2=true/\h.2.1≠1/\h.2.1≠6/\h.2.1≠7
theorem vJ{x:List C0}(hl:x.length<=1048576)(h:Gi x=true):∀ a∈x,gS a:=by
 rw[aC,Ax,BJ,As _ (lLen x),B7] at h
 have key:=bD (c:=λ x0:Int×Int=>(bAnd (iLt x0.2 (lLen x)) (bAnd (bNot (bOr (iLt (lGet x (iNat x0.2) (0,0,0,0,0)).1 0) (bOr (iGt (lGet x (iNat x0.2) (0,0,0,0,0)).1 31) (bOr (iEq (JB (x0.1,(lGet x (iNat x0.2) (0,0,0,0,0)).1)) 1) (bNot (Dp ((lGet x (iNat x0.2) (0,0,0,0,0)).2.1,(lGet x (iNat x0.2) (0,0,0,0,0)).2.2.1,(lGet x (iNat x0.2) (0,0,0,0,0)).2.2.2.1,(lGet x (iNat x0.2) (0,0,0,0,0)).2.2.2.2))))))) (bNot (bOr (iEq (lGet x (iNat x0.2) (0,0,0,0,0)).2.1 1) (bOr (iEq (lGet x (iNat x0.2) (0,0,0,0,0)).2.1 6) (iEq (lGet x (iNat x0.2) (0,0,0,0,0)).2.1 7)))))))
  (f:=λ x0=>((iOr .i64 x0.1 (iShl .i64 1 (lGet x (iNat x0.2) (0,0,0,0,0)).1)),(iAdd .i64 x0.2 1)))
  (λ st=>∃ i:Nat,st.2=i/\i<=x.length/\∀ j,j<i->gS (x.getD j (0,0,0,0,0))) (λ st=>x.length-st.2.toNat) (λ st hI hc=>?_) (x0:=(0,0)) ⟨0,rfl,FW _,λ j hj=>by omega⟩
 . obtain⟨⟨i,k1,k2,k3⟩,_⟩:=key;rw[k1,Al] at h
   have:i=x.length:=by omega
   subst this;intro a ha;obtain⟨j,hj,rfl⟩:=H5 ha;have:=k3 j hj;rw[CQ,A3 hj] at this;exact this
 . obtain⟨i,k1,k2,k3⟩:=hI;obtain⟨s,j⟩:=st;simp only at k1;subst k1;simp only[AD,Ax,Dt,As,K3,De,Al,AU,Ay,AQ,Ai,BJ,Cy,AB,B7,Cf] at hc;obtain⟨c1,⟨c2,c3,_,c5⟩,c6,c7,c8⟩:=hc;refine⟨⟨i+1,?_,by omega,λ j hj=>?_⟩,?_⟩
   . simp only;rw[CH (by unfold Cv;omega)];omega
   . by_cases hji:j=i
     . subst hji;exact⟨by omega,by omega,c5,c6,c7,c8⟩
     . exact k3 j (by omega)
   . simp only;rw[CH (by unfold Cv;omega)];omega
theorem dx {X Y:Type} {c:X->Bool} {f:X->X} {p:X->Prop} {d:Y->Bool} {g:Y->Y} {q:Y->Prop} (R:X->Y->Prop) (m:X->Nat)
 (h:∀ x y,R x y->p x/\q y/\c x=d y/\(c x=true->R (f x) (g y)/\m (f x)<m x)) {x0:X} {y0:Y} (h0:R x0 y0) :
 LoopOk c f p x0/\LoopOk d g q y0/\R (Ap c f x0) (Ap d g y0)/\c (Ap c f x0)=false:=by
 have go:∀ (n:Nat) (x:X) (y:Y),m x<n->R x y->∃ u v,LoopTo c f p x u/\LoopTo d g q y v/\R u v/\c u=false:=by
  intro n
  induction n with
  |zero=>intro x y hm;exact absurd hm (Mf _)
  | succ n ih=>
    intro x y hm hR;obtain⟨h1,h2,h3,h4⟩:=h x y hR
    cases hc:c x with
    |false=>exact⟨x,y,.stop h1 hc,.stop h2 (by rw[<- h3];exact hc),hR,hc⟩
    | true=>
      obtain⟨h5,h6⟩:=h4 hc;obtain⟨u,v,a1,a2,a3,a4⟩:=ih _ _ (by omega) h5;exact⟨u,v,.go h1 hc a1,.go h2 (by rw[<- h3];exact hc) a2,a3,a4⟩
 obtain⟨u,v,a1,a2,a3,a4⟩:=go _ x0 y0 (Qq _) h0
 exact⟨⟨_,a1⟩,⟨_,a2⟩,by rw[a1.val,a2.val];exact a3,by rw[a1.val];exact a4⟩
theorem dQ{X:Type}{c:X->Bool}{f:X->X}{p:X->Prop}(I:X->Prop)(m:X->Nat)(h:∀ x,I x->p x/\(c x=true->I (f x)/\m (f x)<m x)){x0:X}(h0:I x0) :
 LoopOk c f p x0/\I (Ap c f x0)/\c (Ap c f x0)=false:=LS I m h h0
theorem Zbg{X:Type}{c:X->Bool}{f:X->X}{p:X->Prop}(n:Nat)(st:Nat->X)(t:Nat->Bool){x0:X}(h0:st 0=x0)(hc:∀ i,i<=n->(∀ j,j<i->t j=true)->c (st i)=(decide (i<n)&&t i))(hf:∀ i,i<n->(∀ j,j<=i->t j=true)->f (st i)=st (i+1))(hp:∀ i,i<=n->(∀ j,j<i->t j=true)->p (st i)) :
 LoopOk c f p x0/\∃ k,k<=n/\Ap c f x0=st k/\(k=n↔∀ i,i<n->t i=true):=by
 have hle:=Kx (λ i=>!t i) n 0
 have hno:∀ j,j<CI (λ i=>!t i) n 0->t j=true:=λ j hj=>by
  have:=S9 (λ i=>!t i) n 0 j (by omega) hj;simpa using this
 have:=NK (c:=c) (f:=f) (p:=p) (CI (λ i=>!t i) n 0) st h0 (λ k hk=>by
  refine⟨hp k (by omega) (λ j hj=>hno j (by omega)),?_,hf k (by omega) (λ j hj=>hno j (by omega))⟩;rw[hc k (by omega) (λ j hj=>hno j (by omega)),hno k hk]
  have:k<n:=by omega
  simp[this]) ⟨hp _ (by omega) hno,by
  rw[hc _ (by omega) hno];by_cases h:CI (λ i=>!t i) n 0<n
  . have:=NA (λ i=>!t i) n 0 (by omega);simp only[BJ] at this;rw[this];simp
  . simp[h]⟩
 refine⟨this.1,_,by omega,this.2,?_⟩
 rw[Py]
 simp
theorem Tq{α:Type}(x:List α)(d:α){i:Nat}(h:i<x.length):x.take i++[x.getD i d]=x.take (i+1):=by
 rw[Ur,CQ,A3 h];rfl
theorem W1 {α:Type} {c:Int×List α->Bool} {f:Int×List α->Int×List α} {p:Int×List α->Prop} (x:List α) (d:α) (hl:x.length<=1048576)
 (hc:∀ (i:Nat) (l:List α),c ((i:Int),l)=decide (i<x.length)) (hf:∀ (i:Nat) (l:List α),i<x.length->f ((i:Int),l)=(iAdd .i64 (i:Int) 1,l++[x.getD i d])) (hp:∀ (i:Nat) (l:List α),i<=x.length->l.length=i->p ((i:Int),l)) :
 LoopOk c f p (0,[])/\Ap c f (0,[])=((x.length:Int),x):=by
 have:=NK (c:=c) (f:=f) (p:=p) x.length (λ i=>((i:Int),x.take i)) (x0:=(0,[])) rfl (λ k hk=>by
  refine⟨hp k _ (by omega) (by rw[CJ];omega),by rw[hc];simpa using hk,?_⟩;rw[hf k _ hk,CH (by unfold Cv;omega),Tq x d hk]
  simp) ⟨hp _ _ (by omega) (by rw[CJ];omega),by rw[hc];simp⟩
 rw[H4] at this
 exact this
theorem wM {α:Type} {c:List α×Int->Bool} {f:List α×Int->List α×Int} {p:List α×Int->Prop} (x:List α) (d:α) (hl:x.length<=1048576)
 (hc:∀ (i:Nat) (l:List α),c (l,(i:Int))=decide (i<x.length)) (hf:∀ (i:Nat) (l:List α),i<x.length->f (l,(i:Int))=(l++[x.getD i d],iAdd .i64 (i:Int) 1)) (hp:∀ (i:Nat) (l:List α),i<=x.length->l.length=i->p (l,(i:Int))) :
 LoopOk c f p ([],0)/\Ap c f ([],0)=(x,(x.length:Int)):=by
 have:=NK (c:=c) (f:=f) (p:=p) x.length (λ i=>(x.take i,(i:Int))) (x0:=([],0)) rfl (λ k hk=>by
  refine⟨hp k _ (by omega) (by rw[CJ];omega),by rw[hc];simpa using hk,?_⟩;rw[hf k _ hk,CH (by unfold Cv;omega),Tq x d hk]
  simp) ⟨hp _ _ (by omega) (by rw[CJ];omega),by rw[hc];simp⟩
 rw[H4] at this
 exact this
theorem Zaj{a k:Nat}(hk:k<=64)(h:a*2^k<9223372036854775808):iShl .i64 (a:Int) (k:Int)=((a*2^k:Nat):Int):=by
 rw[gv];show IntKind.i64.wrap ((a:Int)*2^min (k:Int).toNat 64)=_;rw[AQ,Nat.min_eq_left hk]
 have:((a:Int)*2^k)=((a*2^k:Nat):Int):=by norm_cast
 rw[this];exact wrap_i64 (by unfold Cv;omega)
def Bytes(x:BF):Prop:=∀ a∈x,0<=a/\a<256
theorem Bytes.get{x:List Int}(h:Bytes x)(i:Nat):∃ n:Nat,n<256/\x.getD i 0=(n:Int):=by
 by_cases hi:i<x.length
 . obtain⟨h0,h1⟩:=h _ (Ce x i 0 hi);exact⟨(x.getD i 0).toNat,by omega,by omega⟩
 . exact⟨0,by omega,by rw[CQ,Bz (by omega)];rfl⟩
theorem Bytes.of{x:List Int}(h:CT.wf (.sl (.one (.int .u8))) x):Bytes x:=by
 intro a ha;have:=h.2 a ha;simp only[RT.wf,CT.wf] at this
 have h:IntKind.u8.min<=a/\a<=IntKind.u8.max:=by simpa [Lit.wf] using this
 have e1:IntKind.u8.min=0:=by decide
 have e2:IntKind.u8.max=255:=by decide
 rw[e1,e2] at h;omega
theorem L3{α:Type}(x:List α)(d:α){i:Nat}(h:i<x.length):x.getD i d=x[i]:=by
 rw[CQ,A3 h];rfl
abbrev OM:=List C0
theorem xQ(k:Int)(x:Ct)(hs:Fc (k,x)):SM (k,x)/\Pp (k,x)=(k,x):=by
 rw[qS,qC]
 obtain⟨a1,a2⟩:=W1 (c:=Sj (k,x)) (f:=Sl (k,x)) (p:=Vz (k,x)) x [] hs.1.1 (λ i l=>by simp[Sj,As,Al])
  (λ i l _=>by simp[Sl,D4,AU,Ay]) (λ i l hi hl=>by
   simp only[Vz,As,Al,AB];refine⟨λ h=>?_,λ _=>trivial⟩
   have e:lGet x (iNat (i:Int)) []=x.getD i []:=by rw[AU,Ay,AQ]
   have h1:(x.getD i []).length<=1048576:=(hs.1.2 _ (Ce x i [] (by omega))).1;have h2:x.length<=1048576:=hs.1.1;rw[e]
   refine⟨⟨by omega,h⟩,by rw[Ay];omega,by unfold AK;simp only[Bp];omega,by unfold AK;simp only[Bi,Bp];omega⟩)
 exact⟨a1,by rw[a2]⟩
theorem sU(k:Int)(x:Ct)(hs:Fc (k,x)):Ru (k,x)/\OZ (k,x)=(k,x):=by
 rw[kR,kT]
 obtain⟨a1,a2⟩:=W1 (c:=Rm (k,x)) (f:=Ri (k,x)) (p:=Vc (k,x)) x [] hs.1.1 (λ i l=>by simp[Rm,As,Al])
  (λ i l _=>by simp[Ri,D4,AU,Ay]) (λ i l hi hl=>by
   simp only[Vc,As,Al,AB];refine⟨λ h=>?_,λ _=>trivial⟩
   have e:lGet x (iNat (i:Int)) []=x.getD i []:=by rw[AU,Ay,AQ]
   have h1:(x.getD i []).length<=1048576:=(hs.1.2 _ (Ce x i [] (by omega))).1;have h2:x.length<=1048576:=hs.1.1;rw[e]
   refine⟨⟨by omega,h⟩,by rw[Ay];omega,by unfold AK;omega,by unfold AK;simp only[Bi,Bp];omega⟩)
 exact⟨a1,by rw[a2]⟩
theorem uq(x:BH):Km x=HG x:=by
 rw[mK,ZV,N5,N5]
 have inner:∀ (i a n:Int) (A B:Bool),bNot (bOr A (bSel (iEq a 1) (bOr (iEq i 0) B) B))=bNot (bOr A (bSel (iEq i 0) (bOr (iEq a 1) B) B)):=by
  intro i a n A B;simp only[Ax,Dt,Cn,De];by_cases h1:a=1<;>by_cases h2:i=0<;>simp[h1,h2]
 simp only[SX,λ i a A B=>inner i a 0 A B];generalize bNot (iLt (Ap _ _ _) (lLen x.2))=L;rw[La];simp only[AD,Ax,Dt,As,K3,Al,Ai,Cg,BJ,Cf,JZ,Cy,AB,B7,JX,Le,A6,L0];cases L<;>simp<;>omega
theorem sH(x:BH)(h:Fc x):Sb x/\RZ x:=by
 obtain⟨k,x⟩:=x;have h:Kt x:=h.1;rw[nN,mU]
 have inl:∀ i:Int,0<=i->i<x.length->(lGet x (iNat i) []).length<=1048576:=λ i h0 hi=>by
  rw[AU,Ay];exact(h.2 _ (Ce x i.toNat [] (by omega))).1
 refine⟨⟨?_,λ _=>trivial,λ _=>⟨T0 _,λ _=>T0 _,λ _=>trivial⟩⟩,λ _=>trivial,λ _=>?_⟩
 all_goals
  refine K0 (λ st=>st) x.length (by have:=h.1;omega) (λ st _ _ hc=>?_) (λ st=>rfl) (λ st h0 h1=>?_) (by simp) (by simp)
  . rw[AD,As st,Al,Ai,AB] at hc
    exact hc.1
  . refine⟨λ hlt=>?_,λ _=>trivial⟩
    rw[As,Al,AB] at hlt;have hlt:st<(x.length:Int):=hlt
    have h3:iNat st<x.length:=by rw[Ay];omega
    have hl:=inl st h0 hlt;refine⟨⟨h0,hlt⟩,h3,λ _=>trivial,λ _=>?_⟩;refine K0 (λ st=>st) (lGet x (iNat st) []).length (by omega) (λ j _ _ hc=>?_) (λ st=>rfl) (λ j j0 j1=>?_) (by simp) (by simp)
    . rw[AD,As j,Al,Ai,AB] at hc;exact hc.1
    . have fin:iLt j (lLen (lGet x (iNat st) []))=true->j<((lGet x (iNat st) []).length:Int)/\iNat j<(lGet x (iNat st) []).length:=λ hj=>by
       rw[As,Al,AB] at hj;exact⟨hj,by rw[Ay];omega⟩
      first
       |exact⟨⟨h0,hlt⟩,h3,λ hj=>⟨⟨h0,hlt⟩,h3,⟨j0,(fin hj).1⟩,(fin hj).2,Rz _⟩,λ _=>trivial⟩
       |exact⟨λ hj=>⟨⟨j0,(fin hj).1⟩,(fin hj).2,Vi _⟩,λ _=>trivial⟩
theorem tG{k:Int}{x:List Dh}(h:CT.wf (.sl (.one (.sl Au))) x):Tw (k,x):=by
 exact⟨⟨h.1,λ l hl=>⟨(h.2 l hl).1,λ a _=>by simp[Tv]⟩⟩,trivial⟩
structure MapOk (k:Int) (x:Ct):Prop where
 k1:1<=k
 k2:k<=32
 l1:1<=x.length
 l2:x.length<=4
 row:∀ i:Nat,i<x.length->((x.getD i []).length:Int)=k
 act:∀ i j:Nat,i<x.length->j<(x.getD i []).length->Dp ((x.getD i []).getD j (0,0,0,0))=true/\(i=0->((x.getD i []).getD j (0,0,0,0)).1≠1)/\(((x.getD i []).getD j (0,0,0,0)).1≠9->((x.getD i []).getD j (0,0,0,0)).2.2.2<x.length)
theorem ui{k:Int}{x:List Dh}(hs:Fc (k,x))(h:HG (k,x)=true):MapOk k x:=by
 rw[ZV,AD,Ai] at h;obtain⟨h1,h2⟩:=h;simp only[Ax,Dt,As,K3,Al,Ai,Cg,BJ,Cf,JZ,Cy,AB,B7,JX,Le,A6,L0] at h1;rw[Ax,BJ,As _ (lLen _),Al,B7] at h2;have hs:Kt x:=hs.1
 have all:=dY h2 (by show (x.length:Int)<=_;omega) (λ i hi hc=>by
  rw[AD,As (i:Int),Al,Ai,AB] at hc
  have:=hc.1;show i<x.length;simp only at this;omega) (λ i hi=>rfl)
 have row:∀ i:Nat,i<x.length->((x.getD i []).length:Int)=k/\∀ j:Nat,j<(x.getD i []).length->Dp ((x.getD i []).getD j (0,0,0,0))=true/\(i=0->((x.getD i []).getD j (0,0,0,0)).1≠1)/\(((x.getD i []).getD j (0,0,0,0)).1≠9->((x.getD i []).getD j (0,0,0,0)).2.2.2<x.length):=by
  intro i hi;have hc:=all i hi;rw[AD,AD,Ai,Ai] at hc;obtain⟨_,c1,c2⟩:=hc;simp only[Ax,BD,Al,AU,Ay,AQ,JV,AB] at c1;rw[Ax,BJ,As _ (lLen _),Al,B7] at c2;have hli:=(hs.2 _ (Ce x i [] hi)).1
  have hin:(lGet x (iNat (i:Int)) [])=x.getD i []:=by rw[AU,Ay,AQ]
  have all2:=dY c2 (by show ((lGet x (iNat (i:Int)) []).length:Int)<=_;rw[hin];omega) (λ j hj hc=>by
   simp only[AD,As,Al,Ai,AB] at hc
   have:=hc.1;show j<(lGet x (iNat (i:Int)) []).length;omega) (λ j hj=>rfl)
  refine⟨c1,λ j hj=>?_⟩;have hc:=all2 j (by show j<(lGet x (iNat (i:Int)) []).length;rw[hin];exact hj);simp only[hin] at hc;simp only[AD,Ax,Dt,Cn,De,BD,KR,Al,AU,Ay,AQ,Ai,BJ,Cy,Cf] at hc;obtain⟨_,d1,d2⟩:=hc;refine⟨d1,λ hz=>?_,λ h9=>?_⟩
  . subst hz;simp only[Int.ofNat_zero,K5,decide_true,A9,Cy,B7] at d2;exact d2.1
  . split at d2
    . simp only[Cy,JZ,B7,Cf,AB] at d2;rcases d2.2 with d2|d2
      . exact absurd d2 h9
      . omega
    . simp only[JZ,B7,Cf,AB] at d2;rcases d2 with d2|d2
      . exact absurd d2 h9
      . omega
 exact⟨by omega,by omega,by omega,by omega,λ i hi=>(row i hi).1,λ i j hi hj=>(row i hi).2 j hj⟩
def Cj(h:C0):Int×Int:=(h.2.2.1,h.2.2.2.1)
theorem xD(dn:Be)(i:Nat):(dn.map Cj).getD i (0,0)=Cj (dn.getD i (0,0,0,0,0)):=by
 rw[CQ,CQ,Gy];cases dn[i]?<;>rfl
theorem ZbK{c:Int->Bool}{f:Int->Int}(n:Int)(h0:0<=n)(hn:n<=9223372036854775806)(hc:∀ st:Int,c st=true->st<n)(hf:∀ st,f st=iAdd .i64 st 1):0<=Ap c f 0:=
 (bD (λ st=>0<=st/\st<=n) (λ st=>(n-st).toNat) (λ st hI h=>by
  have:=hc st h
  rw[hf,CH (by constructor<;>omega)]
  exact⟨by omega,by omega⟩) ⟨by omega,h0⟩).1.1
theorem fT(dn:Be)(k c m:Int):Gj (dn,k,c,m)=B8 (dn.map Cj,c,m):=by
 rw[rT,aG];simp only[AU,xD,Al,Ba,Cj]
theorem WR(dm:U6)(q:Aq)(h:dm.length<=1048576):B8 (dm,q)=-1\/(0<=B8 (dm,q)/\B8 (dm,q)<dm.length):=by
 rw[aG,Cn,As,Al];split
 . rename_i hlt;rw[AB] at hlt;refine .inr ⟨ZbK dm.length (by omega) (by omega) (λ st hc=>?_) (λ _=>rfl),hlt⟩;rw[AD,As,Ai,AB] at hc;exact hc.1
 . exact .inl rfl
theorem ZaJ(dn:Be)(q:DX)(h:dn.length<=1048576):SK (dn,q):=by
 rw[qJ];refine K0 (λ st=>st) dn.length (by omega) (λ st _ _ h=>?_) (λ _=>rfl) (λ st h0 h1=>⟨λ hlt=>?_,λ _=>trivial⟩) (by simp) (by simp)
 . rw[AD,As,Al,Ai,AB] at h;exact h.1
 . rw[As,Al,AB] at hlt;have a:(0:Int)<=st/\st<(dn.length:Int):=⟨h0,hlt⟩
   have b:iNat st<dn.length:=by rw[Ay];omega
   exact⟨a,b,λ _=>⟨a,b⟩,λ _=>trivial⟩
theorem Zat(dm:U6)(q:Aq)(h:dm.length<=1048576):SE (dm,q):=by
 rw[rH];refine K0 (λ st=>st) dm.length (by omega) (λ st _ _ h=>?_) (λ _=>rfl) (λ st h0 h1=>⟨λ hlt=>?_,λ _=>trivial⟩) (by simp) (by simp)
 . rw[AD,As,Al,Ai,AB] at h;exact h.1
 . rw[As,Al,AB] at hlt;exact⟨⟨h0,hlt⟩,by rw[Ay];omega⟩
theorem tX(dn:Be)(p:Int)(h0:0<=p)(h1:p<dn.length) :
 (Et (dn,p)).map Cj=lApp (lTake (dn.map Cj) (lN (lSub (dn.map Cj) 0 (iNat p)))) (lSub (dn.map Cj) (iNat (iAdd .i64 p 1)) (lN (dn.map Cj))):=by
 have hm:min p.toNat dn.length=p.toNat:=by omega
 rw[Vp]
 simp only[D4,WN,K6,L5,Ay,Hs,N7,CJ,Gz,Uo,List.map_drop,Ba,CA,hm]
theorem tS(dn:Be)(p:Int)(h0:0<=p)(h1:p<dn.length)(h:dn.length<=1048576):(Et (dn,p)).length<=dn.length:=by
 rw[Vp];simp only[D4,K6,L5,Ay,Hs,N7,CJ,Mh,DR,CA];rw[CH (by constructor<;>omega)];omega
theorem Xb(K p:Int)(A:Bool):bNot (bOr (bNot (BZ (K,0,2))) (bOr (bNot A) (bNot (bIff (iEq K 2) (iGe p 0)))))=
 bAnd (bNot (bNot A)) (bSel (bOr (iEq K 0) (iEq K 1)) (bNot (iGe p 0)) (bAnd (iEq K 2) (bNot (iLt p 0)))):=by
 have hp:decide (p<0)=!decide (0<=p):=by simp only[<- decide_not,Int.not_le]
 rw[V0]
 simp only[AD,Ax,Dt,Ez,Cn,De,KR,L9,As,hp]
 generalize decide (0<=p)=P
 have h:K=0\/K=1\/K=2\/(¬ (0<=K/\K<=2)):=by omega
 rcases h with h|h|h|h
 . subst h;cases A<;>cases P<;>decide
 . subst h;cases A<;>cases P<;>decide
 . subst h;cases A<;>cases P<;>decide
 . have e0:K≠0:=by omega
   have e1:K≠1:=by omega
   have e2:K≠2:=by omega
   have e3:(decide (0<=K)&&decide (K<=2))=false:=by rw[<- Bool.decide_and];exact Gs h
   simp only[e3,e0,e1,e2,decide_false];cases A<;>rfl
theorem yT {l:List DX} {cs:List C0×Int->Bool} {fs} {ci:List Aq×Int->Bool} {fi}
 (h:∀ (dn:Be) (i:Int),0<=i->i<=l.length->dn.length<=i->cs (dn,i)=ci (dn.map Cj,i)/\(cs (dn,i)=true->i<l.length/\∃ dn':List C0,fs (dn,i)=(dn',i+1)/\fi (dn.map Cj,i)=(dn'.map Cj,i+1)/\dn'.length<=i+1)) :
 bAnd (bNot (iLt (Ap cs fs ([],0)).2 (lLen l))) (bAnd (iLe (lLen l) 8) (iEq (lLen (Ap cs fs ([],0)).1) 0))=
 bAnd (bNot (iGt (lLen l) 8)) (bAnd (bNot (iLt (Ap ci fi ([],0)).2 (lLen l))) (iEq (lLen (Ap ci fi ([],0)).1) 0)):=by
 have go:∀ (n:Nat) (dn:Be) (i:Int),0<=i->i<=l.length->dn.length<=i->(l.length-i).toNat<n ->
  ∃ (en:Be) (j:Int),LoopTo cs fs (λ _=>True) (dn,i) (en,j)/\LoopTo ci fi (λ _=>True) (dn.map Cj,i) (en.map Cj,j):=by
  intro n
  induction n with
  |zero=>intro _ _ _ _ _ hm;exact absurd hm (Mf _)
  | succ n ih=>
    intro dn i h0 h1 h2 hm;obtain⟨a,b⟩:=h dn i h0 h1 h2
    cases hc:cs (dn,i) with
    |false=>exact⟨dn,i,.stop trivial hc,.stop trivial (by rw[<- a,hc])⟩
    | true=>
      obtain⟨c1,dn',c2,c3,c4⟩:=b hc;obtain⟨en,j,d1,d2⟩:=ih dn' (i+1) (by omega) (by omega) c4 (by omega);exact⟨en,j,.go trivial hc (by rw[c2];exact d1),.go trivial (by rw[<- a,hc]) (by rw[c3];exact d2)⟩
 obtain⟨en,j,d1,d2⟩:=go _ [] 0 (by omega) (by omega) (by simp) (Qq _)
 have d2:LoopTo ci fi (λ _=>True) ([],0) (en.map Cj,j):=d2
 rw[d1.val,d2.val]
 simp only[AD,Ax,L9,K3,Al,Ba,<- decide_not,Int.not_lt]
 exact Bool.and_left_comm ..
theorem WH (dn:Be) (K c m p i:Int) (t:Bool) (n:Int) (hp:p=-1\/(0<=p/\p<dn.length)) (hd:dn.length<=i) (hi:i<n) (hn:n<=1048576)
 (hc:bSel (bOr (iEq K 0) (iEq K 1)) (bNot (iGe p 0)) (bAnd (iEq K 2) (bNot (iLt p 0)))=true) :
 bSel (bOr (iEq K 0) (iEq K 1)) (bSel (iEq K 1) (lApp (dn.map Cj) [(c,m)]) (dn.map Cj)) (lApp (lTake (dn.map Cj) (lN (lSub (dn.map Cj) 0 (iNat p)))) (lSub (dn.map Cj) (iNat (iAdd .i64 p 1)) (lN (dn.map Cj))))=
  (bSel (iEq K 1) (lApp dn [(0,2,c,m,0)]) (bSel (iEq K 2) (Et (dn,p)) dn)).map Cj /\
 ((bSel (iEq K 1) (lApp dn [(0,2,c,m,0)]) (bSel (iEq K 2) (Et (dn,p)) dn)).length:Int)<=i+1:=by
 simp only[Cn,Dt,AD,Ax,De,KR,As,Cg,AB] at hc ⊢
 by_cases k1:K=1
 . subst k1
   simp[D4,Cj];omega
 . by_cases k0:K=0
   . subst k0;simp;omega
   . simp only[k0,k1,or_self,Bs,Ai,AB,BJ,B7] at hc ⊢
     have h0:0<=p:=by omega
     have h1:p<dn.length:=by omega
     rw[Ac hc.1];refine⟨(tX dn p h0 h1).symm,?_⟩;have:=tS dn p h0 h1 (by omega);omega
theorem vW(x:Cp)(h:x.length<=1048576):SF x=SI x:=by
 rw[qa,pt];refine yT (λ dn i h0 h1 h2=>?_);have hr:=WR (dn.map Cj) ((lGet x (iNat i) (0,0,0)).2.1,(lGet x (iNat i) (0,0,0)).2.2) (by rw[Ba];omega);rw[Ba] at hr;simp only[fT,SX,ZN,Xb];generalize B8 (dn.map Cj,(lGet x (iNat i) (0,0,0)).2.1,(lGet x (iNat i) (0,0,0)).2.2)=p at hr ⊢;refine⟨trivial,λ hc=>?_⟩;rw[AD,AD,As,Al,Ai,Ai,AB] at hc;obtain⟨hc1,hc2,hc3⟩:=hc;obtain⟨s1,s2⟩:=WH dn (lGet x (iNat i) (0,0,0)).1 (lGet x (iNat i) (0,0,0)).2.1 (lGet x (iNat i) (0,0,0)).2.2 p i true x.length hr h2 hc1 (by omega) hc3;rw[CH (a:=i) (b:=1) (by constructor<;>omega)];exact⟨hc1,_,rfl,by rw[s1],s2⟩
theorem PK{k w:Nat}(h:k<=1048577)(hw:w<=1000):AK (k*w):=by
 unfold AK;exact Cz (Nat.mul_le_mul h hw) (by decide)
theorem bQ(dn:Be)(p:Int)(h0:0<=p)(h1:p<dn.length)(h:dn.length<=1048576):OU (dn,p):=by
 rw[l8,CH (a:=p) (b:=1) (by constructor<;>omega)];simp only[Ay,K6,D4,L5,Hs,N7,CJ,Mh,DR,Bp,CA];refine⟨⟨h0,by omega,by omega,by omega⟩,⟨by omega,by omega,by omega,by omega⟩,PK (by omega) (by omega),PK (by omega) (by omega)⟩
theorem sa(x:Cp)(h:x.length<=1048576):Pf x:=by
 rw[qv];refine(LS (λ st:List C0×Int=>0<=st.2/\st.2<=(x.length:Int)/\(st.1.length:Int)<=st.2) (λ st=>((x.length:Int)-st.2).toNat) (λ st hI=>?_) ⟨by simp,by simp,by simp⟩).1;obtain⟨dn,i⟩:=st;obtain⟨i0,i1,i2⟩:=hI;simp only at i0 i1 i2;have hr:=WR (dn.map Cj) ((lGet x (iNat i) (0,0,0)).2.1,(lGet x (iNat i) (0,0,0)).2.2) (by rw[Ba];omega);rw[Ba] at hr;have hf:=ZaJ dn ((lGet x (iNat i) (0,0,0)).1,(lGet x (iNat i) (0,0,0)).2.1,(lGet x (iNat i) (0,0,0)).2.2) (by omega);simp only[fT,SX,ZN,Xb,Rz,oj,VZ];generalize B8 (dn.map Cj,(lGet x (iNat i) (0,0,0)).2.1,(lGet x (iNat i) (0,0,0)).2.2)=p at hr ⊢;refine⟨⟨λ hlt=>?_,λ _=>trivial⟩,λ hc=>?_⟩
 . rw[As,Al,AB] at hlt;refine⟨⟨i0,hlt⟩,by rw[Ay];omega,hf,⟨trivial,λ _=>trivial,λ _=>⟨trivial,trivial⟩⟩,λ _=>trivial,λ hc=>⟨λ _=>⟨trivial,PK (by simp only[Bi,Bp];omega) (by omega)⟩,λ k1=>⟨λ k2=>?_,λ _=>trivial⟩⟩⟩;have hc:=congrArg bNot hc;rw[Xb] at hc;simp only[Cn,Dt,AD,Ax,De,KR,As,AB] at hc k1 k2;simp[k2] at hc;exact bQ dn p (by omega) (by omega) (by omega)
 . rw[AD,AD,As,Al,Ai,Ai,AB] at hc;obtain⟨hc1,hc2,hc3⟩:=hc;obtain⟨s1,s2⟩:=WH dn (lGet x (iNat i) (0,0,0)).1 (lGet x (iNat i) (0,0,0)).2.1 (lGet x (iNat i) (0,0,0)).2.2 p i true x.length hr i2 hc1 (by omega) hc3;rw[CH (a:=i) (b:=1) (by constructor<;>omega)];exact⟨⟨by show 0<=i+1;omega,by show i+1<=_;omega,s2⟩,by show (_-(i+1)).toNat<_;omega⟩
theorem qL(x:Cp)(h:x.length<=1048576):Pc x:=by
 rw[p7];refine⟨λ _=>trivial,λ _=>?_⟩;refine(LS (λ st:List Aq×Int=>0<=st.2/\st.2<=(x.length:Int)/\∃ dn:List C0,st.1=dn.map Cj/\(dn.length:Int)<=st.2) (λ st=>((x.length:Int)-st.2).toNat) (λ st hI=>?_) ⟨by simp,by simp,[],rfl,by simp⟩).1;obtain⟨dm,i⟩:=st;obtain⟨i0,i1,dn,rfl,i2⟩:=hI;simp only at i0 i1 i2;have hr:=WR (dn.map Cj) ((lGet x (iNat i) (0,0,0)).2.1,(lGet x (iNat i) (0,0,0)).2.2) (by rw[Ba];omega);have hf:=Zat (dn.map Cj) ((lGet x (iNat i) (0,0,0)).2.1,(lGet x (iNat i) (0,0,0)).2.2) (by rw[Ba];omega);rw[Ba] at hr;simp only[Vi];generalize B8 (dn.map Cj,(lGet x (iNat i) (0,0,0)).2.1,(lGet x (iNat i) (0,0,0)).2.2)=p at hr ⊢;refine⟨⟨λ hlt=>?_,λ _=>trivial⟩,λ hc=>?_⟩
 . rw[As,Al,AB] at hlt;refine⟨⟨i0,hlt⟩,by rw[Ay];omega,hf,trivial,λ _=>trivial,λ _=>⟨λ _=>⟨λ _=>trivial,λ _=>⟨λ _=>PK (by simp only[Ba,Bi,Bp];omega) (by omega),λ _=>trivial⟩⟩,λ _=>⟨λ _=>⟨λ _=>trivial,λ hp=>?_⟩,λ _=>trivial⟩⟩⟩;rw[As,B7] at hp
   have h0:0<=p:=by omega
   have h1:p<dn.length:=by omega
   rw[CH (a:=p) (b:=1) (by constructor<;>omega)];simp only[Ay,K6,L5,Hs,N7,CJ,Mh,Ba];exact⟨⟨h0,by omega,by omega,by omega⟩,⟨by omega,by omega,by omega,by omega⟩,by omega,by omega,PK (by omega) (by omega)⟩
 . rw[AD,AD,As,Al,Ai,Ai,AB] at hc;obtain⟨hc1,hc2,hc3⟩:=hc;obtain⟨s1,s2⟩:=WH dn (lGet x (iNat i) (0,0,0)).1 (lGet x (iNat i) (0,0,0)).2.1 (lGet x (iNat i) (0,0,0)).2.2 p i true x.length hr i2 hc1 (by omega) hc3;rw[CH (a:=i) (b:=1) (by constructor<;>omega)];exact⟨⟨by show 0<=i+1;omega,by show i+1<=_;omega,_,s1,s2⟩,by show (_-(i+1)).toNat<_;omega⟩
abbrev Kd:=Int×Ct×Ch×Int×Be×Int×Bool
theorem eV{c c':Int->Bool}{f:Int->Int}{p q:Int->Prop}(n:Nat)(hn:n<=1048576)(hc:∀ i:Nat,i<n->c i=c' i)(hlt:∀ i:Nat,c i=true->i<n)(hlt':∀ i:Nat,c' i=true->i<n)(hf:∀ i,f i=iAdd .i64 i 1)(hp:∀ i:Nat,i<=n->p i/\q i) :
 LoopOk c f p 0/\LoopOk c' f q 0/\Ap c f 0=Ap c' f 0/\0<=Ap c f 0/\Ap c f 0<=n:=by
 obtain⟨b1,b2,⟨k,h1,h2,h3⟩,b4⟩:=dx (c:=c) (f:=f) (p:=p) (d:=c') (g:=f) (q:=q) (x0:=0) (y0:=0) (λ x y=>∃ k:Nat,k<=n/\x=k/\y=k) (λ x=>n-x.toNat) (by
  rintro x y ⟨k,hk,rfl,rfl⟩
  refine⟨(hp k hk).1,(hp k hk).2,?_,λ h=>?_⟩
  . by_cases hkn:k<n
    . exact hc k hkn
    . have e1:c (k:Int)=false:=by cases h:c (k:Int) with
       |false=>rfl
       |true=>exact absurd (hlt k h) hkn
      have e2:c' (k:Int)=false:=by cases h:c' (k:Int) with
       |false=>rfl
       |true=>exact absurd (hlt' k h) hkn
      rw[e1,e2]
  . have hkn:=hlt k h
    have e:f (k:Int)=((k+1:Nat):Int):=by rw[hf,CH (by unfold Cv;omega)];omega
    exact⟨⟨k+1,hkn,e,e⟩,by rw[e];omega⟩) ⟨0,by omega,rfl,rfl⟩
 exact⟨b1,b2,by rw[h2,h3],by omega,by omega⟩
theorem aU(x:Kd)(hs:DI x):Sq x/\RR x/\E9 x=Nk x:=by
 obtain⟨keys,layers,macros,fixed,held,once,caps⟩:=x;have hk:Fc (keys,layers):=hs.1;have hm:HP macros:=hs.2.1;have hh:JF held:=hs.2.2.1;obtain⟨a1,a2⟩:=sH (keys,layers) hk
 have l1:=eV (c:=Lu (keys,layers,macros,fixed,held,once,caps)) (c':=Ls (keys,layers,macros,fixed,held,once,caps)) (f:=GQ) (p:=Vf (keys,layers,macros,fixed,held,once,caps)) (q:=Vl (keys,layers,macros,fixed,held,once,caps)) macros.length hm.1
  (λ i hi=>by
   simp only[Lu,Ls]
   rw[AU,Ay,AQ,vW _ (hm.2 _ (Ce macros i [] hi)).1])
  (λ i h=>by simp only[Lu,AD,Ai,As,Al,AB] at h;omega)
  (λ i h=>by simp only[Ls,AD,Ai,As,Al,AB] at h;omega) (λ i=>rfl)
  (λ i hi=>by
   have k:(i:Int)<macros.length->Pf (lGet macros (iNat (i:Int)) [])/\Pc (lGet macros (iNat (i:Int)) []):=λ h=>by
    rw[AU,Ay,AQ];have:=(hm.2 _ (Ce macros i [] (by omega))).1;exact⟨sa _ this,qL _ this⟩
   simp only[Vf,Vl,As,Al,AB]
   refine⟨⟨λ h=>⟨⟨by omega,h⟩,by rw[Ay];omega,(k h).1⟩,λ _=>trivial⟩,⟨λ h=>⟨⟨by omega,h⟩,by rw[Ay];omega,(k h).2⟩,λ _=>trivial⟩⟩)
 have l2:=eV (c:=M5 (keys,layers,macros,fixed,held,once,caps)) (c':=M4 (keys,layers,macros,fixed,held,once,caps)) (f:=GQ) (p:=Vh (keys,layers,macros,fixed,held,once,caps)) (q:=Vk (keys,layers,macros,fixed,held,once,caps)) held.length hh.1
  (λ i hi=>rfl)
  (λ i h=>by simp only[M5,AD,Ai,As,Al,AB] at h;omega)
  (λ i h=>by simp only[M4,AD,Ai,As,Al,AB] at h;omega) (λ i=>rfl)
  (λ i hi=>by
   simp only[Vh,Vk,As,Al,AB]
   have k:(i:Int)<held.length->iNat (i:Int)<held.length:=λ h=>by rw[Ay];omega
   refine⟨⟨λ h=>⟨⟨by omega,h⟩,k h,λ _=>trivial,λ _=>⟨⟨by omega,h⟩,k h,λ _=>⟨⟨by omega,h⟩,k h⟩,λ _=>trivial⟩⟩,λ _=>trivial⟩,⟨λ h=>⟨⟨by omega,h⟩,k h⟩,λ _=>trivial⟩⟩)
 have ef:Ix=GQ:=rfl;rw[nz,oc,ox,mX,ef];obtain⟨p1,p2,p3,_⟩:=l1;obtain⟨q1,q2,q3,_⟩:=l2;simp only[<- p3,<- q3,uq,du]
 have hl:(0:Int)<=lLen layers:=by rw[Al];omega
 refine⟨?_,?_,?_⟩
 . simp only[a1,Z0 held hh.1,T0,p1,q1,hl];simp
 . simp only[a2,ZX held hh.1,p2,q2,hl];simp
 . cases hv:HG (keys,layers) with
   |false=>simp[Dt,Ax,AD]
   | true=>
     have hm:=ui hk hv
     have e1:iShl .i64 1 (lLen layers)=((2^layers.length:Nat):Int):=by
      have h2:2^layers.length<=2^4:=Nat.pow_le_pow_right (by omega) hm.l2;rw[Al];have:=Zaj (a:=1) (k:=layers.length) (by have:=hm.l2;omega) (by omega);rw[H6] at this;exact this
     have h2:2^layers.length<=2^4:=Nat.pow_le_pow_right (by omega) hm.l2;generalize (2^layers.length:Nat)=M at e1 h2;have e2:iSub .i64 (M:Int) 1=(M:Int)-1:=NR (by unfold Cv;omega);rw[e1,e2,N5,N5];generalize iLt (Ap _ _ _) (lLen macros)=A;generalize iLt (Ap _ _ _) (lLen held)=B;rw[La];simp only[Dt,Ax,AD,K3,As,KR,De,Ai,Cy,BJ,AB,B7,Uq];constructor
     . rintro⟨⟨_,h1,h3,h4,h5⟩,h6,h7,h8,h9,h10⟩;exact⟨⟨trivial,h1,h3⟩,h6,h7,⟨h8,by omega⟩,h9,by omega,by omega⟩
     . rintro⟨⟨_,h1,h3⟩,h6,h7,⟨h8,h9⟩,h10,h11,h12⟩;exact⟨⟨trivial,h1,h3,by omega,by omega⟩,h6,h7,h8,h10,by omega⟩
theorem sC(x:Ch)(hs:HP x):RD x/\RL x=x:=by
 rw[j3,kF]
 obtain⟨a1,a2⟩:=wM (c:=Rj x) (f:=Rk x) (p:=Vb x) x [] hs.1 (λ i l=>by simp[Rj,As,Al])
  (λ i l _=>by simp[Rk,D4,AU,Ay]) (λ i l hi hl=>by
   simp only[Vb,As,Al,AB];refine⟨λ h=>?_,λ _=>trivial⟩
   have e:lGet x (iNat (i:Int)) []=x.getD i []:=by rw[AU,Ay,AQ]
   have:=(hs.2 _ (Ce x i [] (by omega))).1;have:=hs.1;rw[e]
   refine⟨⟨by omega,h⟩,by rw[Ay];omega,by unfold AK;omega,by unfold AK;simp only[Bi,Bp];omega⟩)
 exact⟨a1,by rw[a2]⟩
theorem xb(x:Kd)(hs:DI x):SH x/\DG x=x:=by
 obtain⟨keys,layers,macros,fixed,held,once,caps⟩:=x;have hm:HP macros:=hs.2.1;have hh:JF held:=hs.2.2.1;obtain⟨c1,c2⟩:=xQ keys layers hs.1;rw[rQ,qQ]
 obtain⟨a1,a2⟩:=W1 (c:=Sc (keys,layers,macros,fixed,held,once,caps)) (f:=RU (keys,layers,macros,fixed,held,once,caps)) (p:=VC (keys,layers,macros,fixed,held,once,caps)) macros [] hm.1 (λ i l=>by simp[Sc,As,Al])
  (λ i l _=>by simp[RU,D4,AU,Ay]) (λ i l hi hl=>by
   simp only[VC,As,Al,AB];refine⟨λ h=>?_,λ _=>trivial⟩
   have e:lGet macros (iNat (i:Int)) []=macros.getD i []:=by rw[AU,Ay,AQ]
   have:=(hm.2 _ (Ce macros i [] (by omega))).1;have:=hm.1;rw[e]
   refine⟨⟨by omega,h⟩,by rw[Ay];omega,by unfold AK;simp only[Bp];omega,by unfold AK;simp only[Bi,Bp];omega⟩)
 have hl:=hh.1;refine⟨⟨c1,a1,by unfold AK;simp only[Bp];omega⟩,?_⟩;rw[a2];simp only[c2,D4,CA]
theorem cJ (x):FH x=B9 x:=by rw[qI,aF]
theorem cW(x:Em)(h:x.1.2.2.2.2.1.length<=1048576):SD x/\Pk x:=by
 rw[sy,rL]
 have:∀ {c:Int->Bool} {f:Int->Int} {p:Int->Prop},(∀ st,c st=true->st<x.1.2.2.2.2.1.length)->(∀ st,f st=iAdd .i64 st 1)->(∀ st:Int,0<=st->st<=x.1.2.2.2.2.1.length->p st)->LoopOk c f p 0:=λ hc hf hp=>
  K0 (λ st=>st) x.1.2.2.2.2.1.length (by omega) (λ st _ _ h=>hc st h) hf hp (by simp) (by simp)
 constructor
 all_goals
  refine this (λ st hc=>?_) (λ _=>rfl) (λ st h0 h1=>⟨λ hlt=>?_,λ _=>trivial⟩)
  . rw[AD,As,Al,Ai,AB] at hc;exact hc.1
  . rw[As,Al,AB] at hlt
    exact⟨⟨h0,hlt⟩,by rw[Ay];omega⟩
theorem tl{x:List Cp}(h:CT.wf (.sl (.one (.sl AJ))) x):WA x:=by
 exact⟨h.1,λ l hl=>⟨(h.2 l hl).1,λ a _=>by simp[fV]⟩⟩
theorem Za7{a b:List Int}(ha:a.Pairwise (· < ·))(hb:b.Pairwise (· < ·))(h:∀ x,x∈a↔x∈b):a=b:=by
 induction a generalizing b with
 | nil=>
   cases b with
   |nil=>rfl
   |cons y b=>exact absurd ((h y).2 KT) List.not_mem_nil
 | cons x a ih=>
   cases b with
   |nil=>exact absurd ((h x).1 KT) List.not_mem_nil
   | cons y b=>
     obtain⟨a1,a2⟩:=List.pairwise_cons.1 ha;obtain⟨b1,b2⟩:=List.pairwise_cons.1 hb
     have e:x=y:=by
      rcases Ck.1 ((h x).1 KT) with e|e
      . exact e
      . rcases Ck.1 ((h y).2 KT) with g|g
        . exact g.symm
        . have:=a1 _ g;have:=b1 _ e;omega
     subst e;congr 1
     refine ih a2 b2 λ z=>⟨λ hz=>?_,λ hz=>?_⟩
     . rcases Ck.1 ((h z).1 (List.mem_cons_of_mem _ hz)) with e|e
       . subst e;have:=a1 _ hz;omega
       . exact e
     . rcases Ck.1 ((h z).2 (List.mem_cons_of_mem _ hz)) with e|e
       . subst e;have:=b1 _ hz;omega
       . exact e
theorem fj {α:Type} {c:Int->Bool} {f:Int->Int} {p:Int->Prop} (x:List α) (d:α) (q:α->Bool) (hl:x.length<=1048576)
 (hc:∀ i:Nat,i<=x.length->c (i:Int)=(decide (i<x.length)&&!q (x.getD i d))) (hf:∀ i:Nat,i<x.length->f (i:Int)=iAdd .i64 (i:Int) 1) (hp:∀ i:Nat,i<=x.length->p (i:Int)) :
 LoopOk c f p 0/\iLt (Ap c f 0) (lLen x)=x.any q:=by
 obtain⟨h1,k,hk,h2,h3⟩:=Zbg (c:=c) (f:=f) (p:=p) (x0:=0) x.length (λ i=>(i:Int)) (λ i=>!q (x.getD i d)) rfl (λ i hi _=>hc i hi) (λ i hi _=>by rw[hf i hi,CH (by unfold Cv;omega)];simp) (λ i hi _=>hp i hi)
 refine⟨h1,?_⟩
 rw[h2,As,Al,La,AB,List.any_eq_true]
 constructor
 . intro h
   have h4:¬ ∀ i,i<x.length->(!q (x.getD i d))=true:=λ hh=>by have:=h3.2 hh;omega
   simp only[Classical.not_forall,BJ,Le] at h4;obtain⟨i,hi,g⟩:=h4;exact⟨_,Ce x i d hi,g⟩
 . rintro⟨a,ha,g⟩
   obtain⟨i,hi,rfl⟩:=H5 ha
   have h5:k≠x.length:=λ e=>by
    have:=h3.1 e i hi;rw[L3 x d hi,g] at this;exact absurd this (by decide)
   omega
theorem xi(l:BF)(v:Int)(hl:l.length<=1048576):SC (l,v)/\Nv (l,v)=decide (v∈l):=by
 rw[sv,qR]
 obtain⟨h1,h2⟩:=fj (c:=Sd (l,v)) (f:=Vw) (p:=Vy (l,v)) l 0 (λ a=>decide (a=v)) hl
  (λ i hi=>by simp only[Sd,AD,As,Al,Ax,De,AU,Ay,AQ,Dd])
  (λ i hi=>rfl) (λ i hi=>by
   simp only[Vy,As,Al,Ay,AQ,AB]
   exact⟨λ h=>⟨⟨by omega,by omega⟩,by omega⟩,λ _=>trivial⟩)
 refine⟨h1,?_⟩;rw[h2,La,List.any_eq_true,AB];constructor
 . rintro⟨a,ha,g⟩;rw[AB] at g;exact g▸ha
 . intro h;exact⟨v,h,by simp⟩
def Zap(C l:BF):Prop:=l.Pairwise (· < ·)/\∀ z,z∈l↔(z∈C/\z≠0)
theorem zx{α:Type}(x:List α)(d:α){i:Nat}(h:i<x.length)(z:α):z∈x.take (i+1)↔z∈x.take i\/z=x.getD i d:=by
 rw[<- Tq x d h,D5,List.mem_singleton]
theorem Za4{α:Type}(x:List α){i:Nat}{z:α}(h:z∈x.take i):∃ j,∃ (hj:j<x.length),j<i/\z=x[j]:=by
 obtain⟨j,hj,rfl⟩:=H5 h;rw[CJ] at hj;exact⟨j,by omega,by omega,List.getElem_take ..⟩
theorem vU(C:BF)(hl:C.length<=1048576):Sz C/\Zap C (Nt C)/\(Nt C).length<=C.length:=by
 rw[pY,p5];simp only[nP,VD,DMk.ok]
 have hs:(Dq C 0).1=CS C:=by rw[aP]
 have hsl:=Wm C
 have hso:(CS C).Pairwise (λ a b=>a<=b):=by
  have:=List.pairwise_mergeSort (le:=λ x y:Int=>decide (x<=y)) (by simp;intros;omega) (by simp;intros;omega) C;exact this.imp (by simp)
 have hmem:∀ z,z∈CS C↔z∈C:=λ z=>(List.mergeSort_perm C _).mem_iff
 generalize CS C=S at hs hsl hso hmem
 have key := dQ (c:=OY C) (f:=RN C) (p:=Vq C) (x0:=([],0))
  (λ st=>∃ i:Nat,st.2=(i:Int)/\i<=S.length/\st.1.length<=i/\st.1.Pairwise (· < ·)/\∀ z,z∈st.1↔(z∈S.take i/\z≠0)) (λ st=>S.length-st.2.toNat) (by
  rintro⟨l,n⟩ ⟨i,h1,hi,hli,hp,hm⟩
  simp only at h1 hli hp hm
  subst h1
  simp only[OY,RN,Vq,VD,hs,As,Al,AU,Ay,AQ,AB]
  generalize hv:S.getD i 0=v
  obtain⟨g1,g2⟩:=xi l v (by omega)
  have r1:AK ((l.length+[v].length)*1):=by unfold AK;simp only[Bi,Bp];omega
  refine⟨⟨λ h=>⟨⟨by omega,by omega⟩,by omega,⟨λ _=>g1,λ _=>trivial⟩,⟨λ _=>r1,λ _=>trivial⟩⟩,λ _=>trivial⟩,λ h=>?_⟩
  have hi':i<S.length:=by omega
  refine⟨⟨i+1,by rw[CH (by unfold Cv;omega)];simp,by omega,?_,?_,?_⟩,by rw[CH (by unfold Cv;omega)];omega⟩
  . rw[Cn,D4];split
    . simp only[DR,Bi,Bp];omega
    . omega
  . rw[Cn,D4];split
    . next hb=>
      rw[AD,Ax,g2,Ai,BD] at hb;obtain⟨b1,b2⟩:=hb;simp only[BJ,B7] at b2;refine List.pairwise_append.2 ⟨hp,List.pairwise_singleton _ _,λ a ha b hb=>?_⟩;rw[List.mem_singleton] at hb;subst hb;obtain⟨j,hj,hji,e⟩:=Za4 S ((hm a).1 ha).1;have hle:=List.pairwise_iff_getElem.1 hso j i hj hi' hji;rw[<- L3 S 0 hi',hv] at hle
      have:a≠b:=λ e=>b2 (e▸ha)
      omega
    . exact hp
  . intro z
    rw[zx S 0 hi',hv,Cn,D4];split
    . next hb=>
      rw[AD,Ax,g2,Ai,BD] at hb;obtain⟨b1,b2⟩:=hb
      have b1:v≠0:=by simpa using b1
      rw[D5,List.mem_singleton,hm];constructor
      . rintro(⟨h3,h4⟩|e)
        . exact⟨.inl h3,h4⟩
        . exact⟨.inr e,e▸b1⟩
      . rintro⟨h3|e,h4⟩
        . exact .inl ⟨h3,h4⟩
        . exact .inr e
    . next hb=>
      rw[AD,Ax,g2,Ai,BD] at hb;rw[hm];constructor
      . rintro⟨h3,h4⟩;exact⟨.inl h3,h4⟩
      . rintro⟨h3|e,h4⟩
        . exact⟨h3,h4⟩
        . subst e
          have hz:z∈l:=by
           refine Classical.byContradiction λ hn=>hb ⟨by simpa using h4,by simpa using hn⟩
          exact(hm z).1 hz) ⟨0,rfl,FW _,Bt _,List.Pairwise.nil,by simp⟩
 obtain⟨k1,⟨i,k2,k3,k4,k5,k6⟩,k7⟩:=key;simp only[OY,VD,hs,k2,As,Al,B7] at k7
 have:i=S.length:=by omega
 subst this;rw[H4] at k6;refine⟨⟨by unfold AK;omega,⟨trivial,by rw[aO];show C.length<4611686018427387904;omega⟩,k1⟩,⟨k5,λ z=>by rw[k6,hmem]⟩,by omega⟩
theorem ta{a:Int×Int×Int×Int}(h:Dp a=true):0<=a.2.1/\a.2.1<=56:=by
 rw[ZT] at h;simp only[Cn,Dt,AD,De,BD,aD,KR,L9] at h
 repeat' split at h
 all_goals simp only[Ai,Cg,BJ,Cf,JZ,Cy,AB,B7,JX,Le,A6,L0] at *
 all_goals omega
def DU(x:OM):List Int:=x.map λ a=>a.2.2.1
theorem we(x:OM){i:Nat}(h:i<x.length):(DU x).getD i 0=(x.getD i (0,0,0,0,0)).2.2.1:=by
 rw[L3 x _ h,L3 (DU x) 0 (by simpa [DU] using h)];simp[DU]
theorem zh(x:OM)(hl:x.length<=1048576) :
 LoopOk Iw (Ki x) (Vg x) (1,[])/\(Ap Iw (Ki x) (1,[])).2.Pairwise (· < ·)/\∀ z,z∈(Ap Iw (Ki x) (1,[])).2↔(z∈DU x/\1<=z/\z<=56):=by
 have inner:∀ (c:Int) (l:BF),l.length<=60->LoopOk (M7 x (c,l)) OT (Rv x (c,l)) 0/\iLt (Ap (M7 x (c,l)) OT 0) (lLen x)=decide (c∈DU x):=by
  intro c l hll
  obtain⟨h1,h2⟩:=fj (c:=M7 x (c,l)) (f:=OT) (p:=Rv x (c,l)) x (0,0,0,0,0) (λ a=>decide (a.2.2.1=c)) hl
   (λ i hi=>by simp only[M7,AD,As,Al,Ax,De,AU,Ay,AQ,Dd])
   (λ i hi=>rfl) (λ i hi=>by
    have r1:AK ((l.length+[c].length)*1):=by unfold AK;simp only[Bi,Bp];omega
    simp only[Rv,As,Al,Ay,AQ,AB]
    exact⟨λ h=>⟨⟨by omega,by omega⟩,by omega,λ _=>r1,λ _=>trivial⟩,λ _=>trivial⟩)
  refine⟨h1,?_⟩;rw[h2,La,List.any_eq_true,AB,DU,List.mem_map];simp only[AB]
 have key:=dQ (c:=Iw) (f:=Ki x) (p:=Vg x) (x0:=(1,[]))
  (λ st=>1<=st.1/\st.1<=57/\(st.2.length:Int)<st.1/\st.2.Pairwise (· < ·)/\∀ z,z∈st.2↔(z∈DU x/\1<=z/\z<st.1)) (λ st=>57-st.1.toNat) (by
  rintro⟨c,l⟩ ⟨h1,h2,h3,h4,h5⟩
  simp only at h1 h2 h3 h4 h5
  obtain⟨i1,i2⟩:=inner c l (by omega)
  refine⟨⟨λ _=>i1,λ _=>trivial⟩,λ h=>?_⟩
  simp only[Iw,L9,AB] at h
  have s1:iAdd .i64 c 1=c+1:=CH (by unfold Cv;omega)
  simp only[Ki,s1,i2,Cn,D4,AB]
  refine⟨⟨by omega,by omega,?_,?_,λ z=>?_⟩,by omega⟩
  . split
    . simp only[DR,Bi,Bp];omega
    . omega
  . split
    . refine List.pairwise_append.2 ⟨h4,List.pairwise_singleton _ _,λ a ha b hb=>?_⟩;rw[List.mem_singleton] at hb;have:=((h5 a).1 ha).2.2;omega
    . exact h4
  . split
    . next hb=>
      rw[D5,List.mem_singleton,h5];constructor
      . rintro(⟨a1,a2,a3⟩|e)
        . exact⟨a1,a2,by omega⟩
        . subst e;exact⟨hb,by omega,by omega⟩
      . rintro⟨a1,a2,a3⟩;by_cases e:z=c
        . exact .inr e
        . exact .inl ⟨a1,a2,by omega⟩
    . next hb=>
      rw[h5];constructor
      . rintro⟨a1,a2,a3⟩;exact⟨a1,a2,by omega⟩
      . rintro⟨a1,a2,a3⟩
        have:z≠c:=λ e=>hb (e▸a1)
        exact⟨a1,a2,by omega⟩) ⟨by simp,by simp,by simp,List.Pairwise.nil,by simp⟩
 obtain⟨k1,⟨k2,k3,k4,k5,k6⟩,k7⟩:=key
 simp only[Iw,L9,B7] at k7
 refine⟨k1,k5,λ z=>?_⟩
 rw[k6]
 constructor
 . rintro⟨a,b,c⟩;exact⟨a,b,by omega⟩
 . rintro⟨a,b,c⟩;exact⟨a,b,by omega⟩
theorem Zba(x:OM)(hl:x.length<=1048576) :
 LoopOk (Lv x) (M8 x) (Rq x) (0,0)/\LoopOk (Iv x) (Iu x) (RB x) ([],0,0) /\
 (Ap (Iv x) (Iu x) ([],0,0)).2.2=(Ap (Lv x) (M8 x) (0,0)).2/\(Ap (Iv x) (Iu x) ([],0,0)).1=DU x:=by
 obtain⟨a1,a2,⟨i,h1,h2,h3⟩,a4⟩:=dx (c:=Lv x) (f:=M8 x) (p:=Rq x) (d:=Iv x) (g:=Iu x) (q:=RB x) (x0:=(0,0)) (y0:=([],0,0))
  (λ s t=>∃ i:Nat,i<=x.length/\s.1=(i:Int)/\t=((DU x).take i,s.1,s.2)) (λ s=>x.length-s.1.toNat) (by
   rintro⟨n,m⟩ t ⟨i,hi,h1,rfl⟩
   simp only at h1
   subst h1
   have hcl:(DU x).length=x.length:=by simp[DU]
   have hlen:((DU x).take i).length=i:=by rw[CJ];omega
   have s1:iAdd .i64 (i:Int) 1=(i:Int)+1:=CH (by unfold Cv;omega)
   simp only[Lv,M8,Rq,Iv,Iu,RB,As,Al,Ay,AQ,AB,s1,hlen,Bi,Bp,D4,AU]
   refine⟨⟨λ h=>⟨⟨⟨by omega,by omega⟩,by omega,λ _=>trivial,λ _=>⟨⟨by omega,by omega⟩,by omega⟩⟩,λ _=>⟨⟨by omega,by omega⟩,by omega⟩,λ _=>trivial⟩,λ _=>trivial⟩,⟨λ h=>⟨⟨by omega,by omega⟩,by omega,by unfold AK;omega⟩,λ _=>trivial⟩,trivial,λ h=>⟨⟨i+1,by omega,by omega,?_⟩,by omega⟩⟩
   have hi':i<x.length:=by omega
   rw[<- Tq (DU x) 0 (by omega),we x hi']) ⟨0,by omega,rfl,rfl⟩
 refine⟨a1,a2,by rw[h3],?_⟩
 rw[h3]
 simp only[Lv,h2,As,Al,B7] at a4
 rw[Qr]
 simp only[DU,Ba];omega
theorem VW(x:OM)(hl:x.length<=1048576):O5 x/\O8 x/\Kl x=FF x/\(Kl x).2.length<=1048576:=by
 rw[mQ,oE,nq,nf,du];have o1:=Z0 x hl;have o2:=ZX x hl;by_cases h:Gi x=true
 . obtain⟨m1,m2,m3,m4⟩:=Zba x hl;obtain⟨s1,s2,s3⟩:=zh x hl
   have hcl:(DU x).length=x.length:=by simp[DU]
   obtain⟨c1,⟨c2,c3⟩,c4⟩:=vU (DU x) (by omega);have hh:=vJ hl h
   have e:Nt (DU x)=(Ap Iw (Ki x) (1,[])).2:=Za7 c2 s2 λ z=>by
    rw[c3,s3];constructor
    . rintro⟨a,b⟩;refine⟨a,?_⟩;obtain⟨k,hk,rfl⟩:=List.mem_map.1 a;have:=ta (hh k hk).2.2.1;omega
    . rintro⟨a,b,c⟩;exact⟨a,by omega⟩
   rw[m3,m4,<- e];refine⟨⟨o1,λ _=>trivial,λ _=>⟨m1,s1⟩⟩,⟨o2,λ _=>trivial,λ _=>⟨m2,c1⟩⟩,rfl,?_⟩;rw[Cn];split
   . simp
   . simp only;omega
 . have hb:bNot (Gi x)=true:=by rw[Ax];simpa using h
   rw[hb];simp[Eg,o1,o2]
section
set_option maxRecDepth 20000
abbrev Q1:=Int×List Int
theorem rC(a b:Q1)(h:a.2.length<=1048576):Fz (a,b)=decide (a=b):=by
 obtain⟨m,x⟩:=a;obtain⟨n,y⟩:=b;simp only at h;rw[Zu,ZO];simp only
 rw[Yt (c:=λ x0=>bAnd (iLt x0 (lLen x)) (bNot (iNe (lGet x (iNat x0) 0) (lGet y (iNat x0) 0)))) (f:=λ x0=>iAdd .i64 x0 1) x.length (λ i=>!decide (x.getD i 0=y.getD i 0)) (by omega)
  (λ i hi=>by simp only[AD,Ax,BD,As,Al,AU,Ay,AQ,Dd,JV]) (λ i hi=>rfl)]
 have hall:=Py (t:=λ i=>!decide (x.getD i 0=y.getD i 0)) (n:=x.length);have hle:=Kx (λ i=>!decide (x.getD i 0=y.getD i 0)) x.length 0;generalize CI (λ i=>!decide (x.getD i 0=y.getD i 0)) x.length 0=q at hall hle;simp only[AD,Ax,BD,De,As,Al,JV];rw[La];simp only[Ai,BJ,AB,B7,Ao];constructor
 . rintro⟨h1,h2,h3⟩;refine⟨h1,Yp (by omega) λ i hi hj=>?_⟩;have:=(hall.1 (by omega)) i hi;rw[Cf,AB,L3 x 0 hi,L3 y 0 hj] at this;exact this
 . rintro⟨rfl,rfl⟩
   have:=hall.2 λ i hi=>by simp
   refine⟨rfl,rfl,by omega⟩
def Ka(p r:Q1):List Q1:=if p=r then [] else [r]
theorem uU(p r:Q1)(hp:p.2.length<=1048576)(hr:r.2.length<=1048576) :
 RO (p,[r])/\MX p [r]/\Sg (p,[r])=Ka p r/\MY p [r]=Ka p r:=by
 have g0:lGet [r] (iNat (0:Int)) (0,[])=r:=by rw[AU,Ay];rfl
 have cp:Pq r=r:=by rw[q7,D4,CA]
 have hs:=rC p r hp
 have f0:ON (p,[r]) ([],0,p)=(Ka p r,1,r):=by
  simp only[ON,g0,sM,cp,D4,hs,CA];rw[CH (by unfold Cv;omega),Cn,Ax];unfold Ka;by_cases e:p=r
  . simp[e]
  . simp[e]
 have h:=NK (c:=OR (p,[r])) (f:=ON (p,[r])) (p:=Rp (p,[r])) 1 (λ i=>if i=0 then (([]:List Q1),(0:Int),p) else (Ka p r,1,r)) (x0:=([],0,p)) rfl (λ k hk=>by
  have:k=0:=by omega
  subst this;refine⟨?_,by rw[Ac rfl];simp only[OR,As,Al];rfl,by rw[Ac rfl,f0];rfl⟩;rw[Ac rfl];simp only[Rp,g0,As,Al,AB];refine⟨λ _=>?_,λ _=>trivial⟩;have hb:((0:Int)<=0/\(0:Int)<((List.length [r]:Nat):Int))/\iNat (0:Int)<List.length [r]:=⟨⟨by omega,by simp⟩,by rw[Ay];simp⟩;refine⟨⟨hb.1,hb.2,(aK _ _ hp).1,⟨λ _=>⟨hb.1,hb.2,?_,?_⟩,λ _=>trivial⟩⟩,hb⟩
  . rw[sq];unfold AK;simp only[Bp];omega
  . unfold AK;simp only[Bi,Bp];omega) ⟨by
  rw[Af (by omega)];simp only[Rp,As,Al,AB]
  exact⟨λ h=>absurd h (by simp),λ _=>trivial⟩,by rw[Af (by omega)];simp only[OR,As,Al];rfl⟩
 rw[mn,lE,Ze,Zd]
 refine⟨h.1,⟨by simp,λ i hi=>?_⟩,by rw[h.2];rfl,?_⟩
 . have:i=0:=by simp only[Bi,Bp] at hi;omega
   subst this;exact⟨(aK _ _ hp).2,hs⟩
 . unfold Y6 Ka
   simp only[C4];by_cases e:p=r
   . simp[e]
   . simp[e]
theorem tK(x:Kd)(k:Int)(hl:x.2.2.2.2.1.length<=1048576) :
 (B9 (x,k)=-1/\∀ a∈x.2.2.2.2.1,a.1≠k)\/∃ i:Nat,i<x.2.2.2.2.1.length/\B9 (x,k)=(i:Int)/\(x.2.2.2.2.1.getD i (0,0,0,0,0)).1=k:=by
 rw[aF]
 simp only
 generalize x.2.2.2.2.1=l at *
 rw[Yt (c:=λ x0=>bAnd (iLt x0 (lLen l)) (bNot (iEq (lGet l (iNat x0) (0,0,0,0,0)).1 k))) (f:=λ x0=>iAdd .i64 x0 1) l.length (λ i=>decide ((l.getD i (0,0,0,0,0)).1=k)) (by omega)
  (λ i hi=>by simp only[AD,Ax,De,As,Al,AU,Ay,AQ,Dd]) (λ i hi=>rfl)]
 have hall:=Py (t:=λ i=>decide ((l.getD i (0,0,0,0,0)).1=k)) (n:=l.length)
 have hle:=Kx (λ i=>decide ((l.getD i (0,0,0,0,0)).1=k)) l.length 0
 have hlt:=NA (λ i=>decide ((l.getD i (0,0,0,0,0)).1=k)) l.length 0
 generalize CI (λ i=>decide ((l.getD i (0,0,0,0,0)).1=k)) l.length 0=q at hall hle hlt
 rw[Cn,As,Al]
 by_cases h:q<l.length
 . right
   refine⟨q,h,by rw[Ac (by simpa using h)],by simpa using hlt (by omega)⟩
 . left
   refine⟨by rw[Af (by simpa using h)],λ a ha=>?_⟩;obtain⟨i,hi,rfl⟩:=H5 ha;have:=hall.1 (by omega) i hi;rw[B7,L3 l _ hi] at this;exact this
theorem tf(l:OM)(i:Nat)(h:i<l.length)(hl:l.length<=1048576):Et (l,(i:Int))=l.eraseIdx i /\
 lApp (lTake l (lN (lSub l 0 (iNat (i:Int))))) (lSub l (iNat (iAdd .i64 (i:Int) 1)) (lN l))=l.eraseIdx i:=by
 have e:iAdd .i64 (i:Int) 1=((i+1:Nat):Int):=by rw[CH (by unfold Cv;omega)];omega
 rw[Vp]
 simp only[e,D4,WN,K6,L5,Ay,AQ,Hs,N7,CA,CJ,Nat.min_eq_left (Nat.le_of_lt h),List.eraseIdx_eq_take_drop_succ]
 have:(l.drop (i+1)).take (l.length-(i+1))=l.drop (i+1):=Qr (by rw[Mh];omega)
 rw[this];exact⟨rfl,rfl⟩
theorem sD(x:Kd)(hs:DI x):Rt x/\Bn x=x:=by
 obtain⟨keys,layers,macros,fixed,held,once,caps⟩:=x;have hm:HP macros:=hs.2.1;have hh:JF held:=hs.2.2.1;obtain⟨c1,c2⟩:=sU keys layers hs.1;obtain⟨b1,b2⟩:=sC macros hm;rw[ku,ky];have hl:=hh.1;refine⟨⟨c1,b1,by unfold AK;simp only;omega⟩,?_⟩;simp only[c2,b2]
def YX:Kd:=(0,[],[],0,[],0,false)
theorem uA(x:Kd)(k:Int)(hs:DI x)(h:E9 x=false\/B9 (x,k)<0) :
 Nl (x,k)/\LA (x,k)/\Bx (x,k)=(YX,[],false)/\Aj (x,k)=(YX,[],false):=by
 have hl:x.2.2.2.2.1.length<=1048576:=hs.2.2.1.1
 obtain⟨e1,e2,e3⟩:=aU x hs
 obtain⟨k1,k2⟩:=cW (x,k) hl
 have hb:bOr (bNot (E9 x)) (iLt (B9 (x,k)) 0)=true:=by
  rw[Dt,Ax,As,Cg,BJ,AB];exact h
 rw[Z7,Z4,ae,ah]
 simp only[cJ,<- e3,hb,Eg]
 refine⟨⟨k1,e1,λ _=>trivial,λ h=>by cases h⟩,⟨⟨e2,λ _=>trivial,λ _=>k2⟩,λ _=>trivial,λ h=>by cases h⟩,rfl,rfl⟩
theorem um(x:Kd)(k:Int)(hs:DI x)(he:E9 x=true)(i:Nat)(hi:i<x.2.2.2.2.1.length)(hk:B9 (x,k)=(i:Int)) :
 Nl (x,k)/\LA (x,k) /\
 Bx (x,k)=((x.1,x.2.1,x.2.2.1,x.2.2.2.1,x.2.2.2.2.1.eraseIdx i,x.2.2.2.2.2),Ka (FF x.2.2.2.2.1) (FF (x.2.2.2.2.1.eraseIdx i)),true) /\
 Aj (x,k)=((x.1,x.2.1,x.2.2.1,x.2.2.2.1,x.2.2.2.2.1.eraseIdx i,x.2.2.2.2.2),Ka (FF x.2.2.2.2.1) (FF (x.2.2.2.2.1.eraseIdx i)),true):=by
 have hl:x.2.2.2.2.1.length<=1048576:=hs.2.2.1.1
 obtain⟨e1,e2,e3⟩:=aU x hs
 obtain⟨k1,k2⟩:=cW (x,k) hl
 have hb:bOr (bNot true) (iLt (i:Int) 0)=false:=by
  rw[Dt,Ax,As,Gs (by omega)];rfl
 obtain⟨c1,c2⟩:=xb x hs
 obtain⟨d1,d2⟩:=sD x hs
 obtain⟨w1,w2⟩:=tf x.2.2.2.2.1 i hi hl
 have hl':(x.2.2.2.2.1.eraseIdx i).length<=1048576:=by rw[List.length_eraseIdx];split<;>omega
 obtain⟨r1,r2,r3,r4⟩:=VW x.2.2.2.2.1 hl
 obtain⟨s1,s2,s3,s4⟩:=VW (x.2.2.2.2.1.eraseIdx i) hl'
 rw[r3] at r4
 rw[s3] at s4
 obtain⟨g1,g2,g3,g4⟩:=uU (FF x.2.2.2.2.1) (FF (x.2.2.2.2.1.eraseIdx i)) r4 s4
 have hw:=bQ x.2.2.2.2.1 (i:Int) (by omega) (by omega) hl
 have e:iAdd .i64 (i:Int) 1=((i+1:Nat):Int):=by rw[CH (by unfold Cv;omega)];omega
 rw[Z7,Z4,ae,ah,pM,pV]
 simp only[cJ,<- e3,he,hk,c2,d2,w1,w2,r3,s3,g3,g4,hb,EE]
 refine⟨⟨k1,e1,(λ h=>by cases h),λ _=>⟨c1,hw,r1,s1,g1,trivial,trivial,trivial⟩⟩,⟨⟨e2,λ _=>trivial,λ _=>k2⟩,(λ h=>by cases h),λ _=>⟨d1,k2,⟨by omega,by omega,by rw[Ay];omega,by omega⟩,?_,?_,r2,s2,g2,trivial,trivial,trivial⟩⟩,trivial,trivial⟩
 . rw[e];simp only[Ay,K6];omega
 . simp only[e,Ay,K6,L5,Hs,N7,CJ,Mh,AQ]
   refine⟨by omega,by omega,by unfold AK;omega⟩
theorem uQ(x:Kd)(k:Int)(hs:DI x):∃ E L b,Nl (x,k)/\LA (x,k)/\Bx (x,k)=(E,L,b)/\Aj (x,k)=(E,L,b)/\DI E/\Tb L:=by
 have hl:x.2.2.2.2.1.length<=1048576:=hs.2.2.1.1;by_cases hb:E9 x=false\/B9 (x,k)<0
 . obtain⟨a1,a2,a3,a4⟩:=uA x k hs hb;exact⟨_,_,_,a1,a2,a3,a4,by simp[YX,DI,Fc,HP,JF,Kt],by simp[Tb]⟩
 . have he:E9 x=true:=by
    cases e:E9 x with
    |true=>rfl
    |false=>exact absurd (.inl e) hb
   rcases tK x k hl with⟨h1,_⟩|⟨i,hi,hk,_⟩
   . exact absurd (.inr (by rw[h1];decide)) hb
   . obtain⟨a1,a2,a3,a4⟩:=um x k hs he i hi hk
     have hl':(x.2.2.2.2.1.eraseIdx i).length<=1048576:=by rw[List.length_eraseIdx];split<;>omega
     obtain⟨_,_,s3,s4⟩:=VW (x.2.2.2.2.1.eraseIdx i) hl';rw[s3] at s4;refine⟨_,_,_,a1,a2,a3,a4,⟨hs.1,hs.2.1,⟨hl',λ a ha=>hs.2.2.1.2 a ((List.eraseIdx_sublist _ _).subset ha)⟩,trivial⟩,?_⟩;unfold Ka;split
     . exact⟨by simp,λ a ha=>by cases ha⟩
     . exact⟨by simp,λ a ha=>by
        rw[List.mem_singleton] at ha;rw[ha]
        exact⟨s4,trivial⟩⟩
theorem js(x:Kd×Int)(hw:TuX.wf Ge.h x):Re x/\Rf x=true:=by
 obtain⟨⟨k,lay,mac,fx,held,once,caps⟩,key⟩:=x;rw[jn,jm];obtain⟨w1,w2,w3,w4,w5,w6,w7⟩:=hw.1;have hwl:Wq (k,lay,mac,fx,held,once,caps):=⟨tG w2,tl w3,⟨w5.1,λ a _=>by simp[fk,Tv]⟩,trivial⟩;generalize (k,lay,mac,fx,held,once,caps)=x at hwl;simp only;obtain⟨k1,k2⟩:=xu x hwl 1048576 (by omega) (by omega);rcases k2 with k2|⟨k2,_,k3⟩
 . have e:iLt (HH (x,1048576)) 0=true:=by rw[As];simpa using k2
   simp only[e];simp[Dt,k1]
 . have e:iLt (HH (x,1048576)) 0=false:=by rw[As];simpa using k2
   obtain⟨t1,t2⟩:=wQ x k3;obtain⟨E,L,b,r1,r2,r3,r4,r5,r6⟩:=uQ x key k3;obtain⟨q1,q2⟩:=cu x x k3;have q2:=q2.2 rfl;obtain⟨p1,p2⟩:=cu E E r5;have p2:=p2.2 rfl;obtain⟨l1,l2⟩:=vz L L r6;have l2:=l2.2 rfl;obtain⟨m1,⟨m2,m3⟩,_,_⟩:=cG x k3 1 (by omega) (by omega);obtain⟨n1,⟨n2,n3⟩,n4,n5⟩:=cG E r5 1 (by omega) (by omega);obtain⟨o1,⟨o2,o3⟩,o4,o5⟩:=vE L r6 (AG E 1).2 (by omega) (by omega)
   have c0:iLt (AG x 1).2 0=false:=by rw[As];simp;omega
   have c1:iLt (AG E 1).2 0=false:=by rw[As];simp;omega
   have c2:iLt (CG L (AG E 1).2).2 0=false:=by rw[As];simp;omega
   simp only[e,t2,r3,r4,k1,t1,r1,r2,q1,q2,p1,p2,l1,l2,m1,n1,n4,n5,o1,o4,o5,c0,c1,c2];simp[Dt,AD,Ax,Ez,BD]
end
end
end Go.Ag
