/- Part 8 of what FnCaps needs. No conditions. -/
import Derived.Test.YtbkpfpcnjpggaaaLibG
namespace Go.Ag
set_option linter.unusedSimpArgs false
set_option linter.unusedVariables false
noncomputable section
section
set_option maxRecDepth 20000
theorem Za(x:Cn)(k:Int)(hl:x.2.2.2.2.1.length<=1048576) :
 (B1 (x,k)=-1/\∀ a∈x.2.2.2.2.1,a.1≠k)\/∃ i:Nat,i<x.2.2.2.2.1.length/\B1 (x,k)=(i:Int)/\(x.2.2.2.2.1.getD i (0,0,0,0,0)).1=k:=by
 rw[fY]
 simp only
 generalize x.2.2.2.2.1=l at *
 rw[R9 (c:=λ x0=>bAnd (iLt x0 (lLen l)) (bNot (iEq (lGet l (iNat x0) (0,0,0,0,0)).1 k))) (f:=λ x0=>iAdd .i64 x0 1) l.length (λ i=>decide ((l.getD i (0,0,0,0,0)).1=k)) (by omega)
  (λ i hi=>by simp only[AE,AF,BC,Aq,As,A7,Ax,Bl,G2]) (λ i hi=>rfl)]
 have hall:=OP (t:=λ i=>decide ((l.getD i (0,0,0,0,0)).1=k)) (n:=l.length)
 have hle:=Jr (λ i=>decide ((l.getD i (0,0,0,0,0)).1=k)) l.length 0
 have hlt:=OU (λ i=>decide ((l.getD i (0,0,0,0,0)).1=k)) l.length 0
 generalize CL (λ i=>decide ((l.getD i (0,0,0,0,0)).1=k)) l.length 0=q at hall hle hlt
 rw[BB,Aq,As]
 by_cases h:q<l.length
 . right
   refine⟨q,h,by rw[Ac (by simpa using h)],by simpa using hlt (by omega)⟩
 . left
   refine⟨by rw[Ae (by simpa using h)],λ a ha=>?_⟩;obtain⟨i,hi,rfl⟩:=IM ha;have:=hall.1 (by omega) i hi;rw[Bm,G0 l _ hi] at this;exact this
theorem vD(l:BL)(i:Nat)(h:i<l.length)(hl:l.length<=1048576):Dg (l,(i:Int))=l.eraseIdx i /\
 lApp (lTake l (lN (lSub l 0 (iNat (i:Int))))) (lSub l (iNat (iAdd .i64 (i:Int) 1)) (lN l))=l.eraseIdx i:=by
 have e:iAdd .i64 (i:Int) 1=((i+1:Nat):Int):=by rw[Bu (by unfold AO;omega)];omega
 rw[Qm]
 simp only[e,BA,Wg,HM,Iz,Ax,Bl,G1,L5,CP,Eu,Nat.min_eq_left (Nat.le_of_lt h),List.eraseIdx_eq_take_drop_succ]
 have:(l.drop (i+1)).take (l.length-(i+1))=l.drop (i+1):=PB (by rw[Nf];omega)
 rw[this];exact⟨rfl,rfl⟩
theorem gn(x:Cn)(hs:FT x):Qj x/\B4 x=x:=by
 obtain⟨keys,layers,macros,fixed,held,once,caps⟩:=x;have hm:MU macros:=hs.2.1;have hh:Pe held:=hs.2.2.1;obtain⟨c1,c2⟩:=gp keys layers hs.1;obtain⟨b1,b2⟩:=gu macros hm;rw[pY,pT];have hl:=hh.1;refine⟨⟨c1,b1,by unfold Av;simp only;omega⟩,?_⟩;simp only[c2,b2]
def XR:Cn:=(0,[],[],0,[],0,false)
theorem xo(x:Cn)(k:Int)(hs:FT x)(he:D6 x=true)(i:Nat)(hi:i<x.2.2.2.2.1.length)(hk:B1 (x,k)=(i:Int)) :
 QK (x,k)/\fg (x,k) /\
 QR (x,k)=((x.1,x.2.1,x.2.2.1,x.2.2.2.1,x.2.2.2.2.1.eraseIdx i,x.2.2.2.2.2),NM (B0 x.2.2.2.2.1) [B0 (x.2.2.2.2.1.eraseIdx i)],true) /\
 fL (x,k)=((x.1,x.2.1,x.2.2.1,x.2.2.2.1,x.2.2.2.2.1.eraseIdx i,x.2.2.2.2.2),NM (B0 x.2.2.2.2.1) [B0 (x.2.2.2.2.1.eraseIdx i)],true):=by
 have hl:x.2.2.2.2.1.length<=1048576:=hs.2.2.1.1
 obtain⟨e1,e2,e3⟩:=Q6 x hs
 obtain⟨k1,k2⟩:=V0 (x,k) hl
 have hb:bOr (bNot true) (iLt (i:Int) 0)=false:=by
  rw[AZ,AF,Aq,Es (by omega)];rfl
 obtain⟨c1,c2⟩:=Wa x hs
 obtain⟨d1,d2⟩:=gn x hs
 obtain⟨w1,w2⟩:=vD x.2.2.2.2.1 i hi hl
 have hl':(x.2.2.2.2.1.eraseIdx i).length<=1048576:=by rw[List.length_eraseIdx];split<;>omega
 obtain⟨r1,r2,r3,r4⟩:=MJ x.2.2.2.2.1 hl
 obtain⟨s1,s2,s3,s4⟩:=MJ (x.2.2.2.2.1.eraseIdx i) hl'
 rw[r3] at r4
 rw[s3] at s4
 obtain⟨g1,g2,g3,g4⟩:=iE (B0 x.2.2.2.2.1) [B0 (x.2.2.2.2.1.eraseIdx i)] r4 (by simp) (λ r hr=>by rw[List.mem_singleton] at hr;rw[hr];exact s4)
 have hw:=VS x.2.2.2.2.1 (i:Int) (by omega) (by omega) hl
 have e:iAdd .i64 (i:Int) 1=((i+1:Nat):Int):=by rw[Bu (by unfold AO;omega)];omega
 rw[sY,fg,sP,fL,fk,YR]
 simp only[VZ,<- e3,he,hk,c2,d2,w1,w2,r3,s3,g3,g4,hb,CQ]
 refine⟨⟨k1,e1,(λ h=>by cases h),λ _=>⟨c1,hw,r1,s1,g1,trivial,trivial,trivial⟩⟩,⟨⟨e2,λ _=>trivial,λ _=>k2⟩,(λ h=>by cases h),λ _=>⟨d1,k2,⟨by omega,by omega,by rw[Ax];omega,by omega⟩,?_,?_,r2,s2,g2⟩⟩,trivial,trivial⟩
 . rw[e];simp only[Ax,HM];omega
 . simp only[e,Ax,HM,Iz,G1,L5,Eu,Nf,Bl]
   refine⟨by omega,by omega,by unfold Av;omega⟩
theorem EngOk.rel{x:Cn}(h:EngOk x)(hl:x.2.2.2.2.1.length<=1048576)(i:Nat):EngOk (x.1,x.2.1,x.2.2.1,x.2.2.2.1,x.2.2.2.2.1.eraseIdx i,x.2.2.2.2.2):=by
 obtain⟨a1,a2,a3,a4,a5,a6,a7,a8,a9,a10⟩:=h;have hsub:=List.eraseIdx_sublist x.2.2.2.2.1 i;have hl':(x.2.2.2.2.1.eraseIdx i).length<=1048576:=JG hsub.length_le hl;obtain⟨b1,b2⟩:=(OY hl).1 a4;refine⟨a1,a2,a3,(OY hl').2 ⟨λ a ha=>b1 a (hsub.subset ha),b2.sublist hsub⟩,λ a ha=>a5 a (hsub.subset ha),a6,a7,a8,a9,a10⟩
end
section
set_option maxRecDepth 20000
def XX(n:Nat)(a:ET):Prop:=Bo a=true/\a.1≠1/\a.1≠6/\a.1≠7/\(a.1≠9->a.2.2.2<n)
theorem je(a:ET):Qs a=Kh a:=by
 rw[qu,Yi,Lz]
theorem kT(a:ET):CZ a=Dx a:=by rw[wy,gN,je]
theorem zu(a:ET):UQ a=DG a:=by rw[uK,fF,je]
theorem iU(a:ET):Uy a/\U6 a/\Us a/\Q2 a:=by
 rw[uf,wj,tF,vH,qB];exact⟨Zp _,Zp _,Qe _,Qe _⟩
theorem wL{n:Nat}{a:ET}(h1:Bo a=true)(h2:a.1≠1)(h3:a.1≠9->a.2.2.2<n)(hn:1<=n):XX n (DG a)/\XX n (Dx a):=by
 obtain⟨k,c,m,p⟩:=a;have h:=(Dl k c m p).1 h1;rw[fF,gN,Yi,Lz,h1];simp only[AF,BB,AE,AZ,BC,Nl] at h2 h3 ⊢;by_cases k6:k=6
 . subst k6
   have h6:1<=c/\c<=56/\1<=m/\m<=15:=by omega
   have i1:Bo (2,0,m,0)=true:=(Dl _ _ _ _).2 (.inr (.inl ⟨rfl,rfl,by omega,by omega,by omega,by omega,by omega⟩));have i2:Bo (2,c,0,0)=true:=(Dl _ _ _ _).2 (.inr (.inl ⟨rfl,rfl,by omega,by omega,by omega,by omega,by omega⟩));simp only[decide_true,Bool.true_or,Gs,AJ,AP,AM];exact⟨⟨i1,by simp,by simp,by simp,λ _=>by simp only;omega⟩,⟨i2,by simp,by simp,by simp,λ _=>by simp only;omega⟩⟩
 . by_cases k7:k=7
   . subst k7
     have h7:1<=c/\c<=56/\1<=p/\p<=3:=by omega
     have i1:Bo (3,0,0,p)=true:=(Dl _ _ _ _).2 (.inr (.inr (.inl ⟨.inl rfl,rfl,rfl,by omega,by omega⟩)));have i2:Bo (2,c,0,0)=true:=(Dl _ _ _ _).2 (.inr (.inl ⟨rfl,rfl,by omega,by omega,by omega,by omega,by omega⟩));have:=h3 (by omega);simp only[k6,decide_true,decide_false,Bool.or_true,Gs,AJ,AP,AM];exact⟨⟨i1,by simp,by simp,by simp,λ _=>this⟩,⟨i2,by simp,by simp,by simp,λ _=>by simp only;omega⟩⟩
   . simp only[k7,k6,decide_false,Bool.or_self,Bool.not_false,AM];exact⟨⟨h1,h2,k6,k7,h3⟩,⟨h1,h2,k6,k7,h3⟩⟩
theorem Zdp{a:ET}(h:Bo a=true):0<=a.2.2.2/\a.2.2.2<=3:=by
 obtain⟨k,c,m,n⟩:=a;have:=(Dl k c m n).1 h;simp only;omega
theorem nr{k:Int}{L:List (List ET)}(hm:MapOk k L)(on key:Int)(k0:0<=key)(k1:key<k) :
 Bo (Hm ((k,L),on,key))=true/\(Hm ((k,L),on,key)).1≠1/\((Hm ((k,L),on,key)).1≠9->(Hm ((k,L),on,key)).2.2.2<L.length) /\
 Hm ((k,L),on,key)=(L.getD (BU ((k,L),on,key)).toNat []).getD key.toNat (0,0,0,0):=by
 obtain⟨a1,a2,a3,_⟩:=hU hm on key k0 k1
 have e:Hm ((k,L),on,key)=(L.getD (BU ((k,L),on,key)).toNat []).getD key.toNat (0,0,0,0):=by
  rw[eE];simp only;rw[Aq,Es (by omega),CQ,A7,A7,Ax,Ax]
 rw[e]
 have hr:=hm.row (BU ((k,L),on,key)).toNat (by omega)
 obtain⟨b1,b2,b3⟩:=hm.act (BU ((k,L),on,key)).toNat key.toNat (by omega) (by omega)
 refine⟨b1,?_,b3,rfl⟩
 by_cases h:0<BU ((k,L),on,key)
 . exact(a3 h).2
 . exact b2 (by omega)
def HS(x:Cn)(k:Int):ET:=Hm ((x.1,x.2.1),D8 (x.2.2.2.1,x.2.2.2.2.1),k)
def Gz(x:Cn)(k:Int)(h:Bool):ET:=bSel h (DG (HS x k)) (Dx (HS x k))
def A8(x:Cn)(k:Int)(h:Bool):ET×Cn:=CK (Ez (Gz x k h).2.1) x (Gz x k h)
def Ct(x:Cn)(k:Int)(h:Bool):BL:=x.2.2.2.2.1++[(k,(A8 x k h).1)]
def Hh(x:Cn)(k:Int)(h:Bool):List Ds:=bSel (bAnd (iEq (A8 x k h).1.1 9) (iLt (A8 x k h).1.2.2.2 (lLen x.2.2.1))) (Fj (Ct x k h,lGet x.2.2.1 (iNat (A8 x k h).1.2.2.2) [])) []
def I8(x:Cn)(k:Int)(h:Bool):Cn:=(x.1,x.2.1,x.2.2.1,(A8 x k h).2.2.2.2.1,Ct x k h,(A8 x k h).2.2.2.2.2.2)
theorem V3{x:Cn}(he:EngOk x)(hs:FT x)(k:Int)(h:Bool)(k0:0<=k)(k1:k<x.1):XX x.2.1.length (Gz x k h):=by
 have hm:=GQ hs.1 he.map;obtain⟨a1,a2,a3,_⟩:=nr hm (D8 (x.2.2.2.1,x.2.2.2.2.1)) k k0 k1;obtain⟨b1,b2⟩:=wL a1 a2 a3 hm.l1;unfold Gz HS;cases h
 . rw[CQ];exact b2
 . rw[Dm];exact b1
theorem yw(w:Bool)(c:Int){m on:Nat}(cp:Bool)(h1:m<=15)(h2:on<=15):Pp w c m on cp<=15:=by
 unfold Pp;split
 . omega
 . have:=Nat.or_lt_two_pow (x:=m) (y:=on) (n:=4) (by omega) (by omega);omega
theorem Zag(w:Bool){x:Cn}(n:Nat)(hn:n<=4){a:ET}(ha:XX n a)(on0:0<=x.2.2.2.2.2.1)(on1:x.2.2.2.2.2.1<=15)(f0:0<=x.2.2.2.1)(f2:x.2.2.2.1 % 2=0)(f1:x.2.2.2.1<((2^n:Nat):Int)) :
 (Bo (CK w x a).1=true/\(CK w x a).1.1=a.1/\(CK w x a).1.2.1=a.2.1/\(CK w x a).1.2.2.2=a.2.2.2) /\
 ((CK w x a).2.1=x.1/\(CK w x a).2.2.1=x.2.1/\(CK w x a).2.2.2.1=x.2.2.1/\(CK w x a).2.2.2.2.2.1=x.2.2.2.2.1) /\
 (0<=(CK w x a).2.2.2.2.2.2.1/\(CK w x a).2.2.2.2.2.2.1<=15)/\0<=(CK w x a).2.2.2.2.1/\(CK w x a).2.2.2.2.1 % 2=0/\(CK w x a).2.2.2.2.1<((2^n:Nat):Int):=by
 obtain⟨k,L,mc,f,hd,on,cp⟩:=x
 obtain⟨kd,c,m,p⟩:=a
 obtain⟨h1,h2,h3,h4,h5⟩:=ha
 have h:=(Dl kd c m p).1 h1
 simp only at on0 on1 f0 f1 f2 h2 h3 h4 h5
 obtain⟨F,rfl⟩:=Int.eq_ofNat_of_zero_le f0
 obtain⟨O,rfl⟩:=Int.eq_ofNat_of_zero_le on0
 obtain⟨M,rfl⟩:=Int.eq_ofNat_of_zero_le (show 0<=m by omega)
 obtain⟨P,rfl⟩:=Int.eq_ofNat_of_zero_le (show 0<=p by omega)
 have hF:F<2^n:=by omega
 have h2n:2^n<=2^4:=Nat.pow_le_pow_right (by omega) hn
 have h24:(2:Nat)^4=16:=by decide
 unfold CK
 simp only[Bl]
 by_cases k2:kd=2
 . subst k2
   by_cases hc:0<c
   . have:=yw w c cp (m:=M) (on:=O) (by omega) (by omega);simp only[AM,Ac hc]
     refine⟨⟨(Dl _ _ _ _).2 (.inr (.inl ⟨rfl,by omega,by omega,by omega,by omega,by omega,by omega⟩)),?_,?_,?_⟩,⟨?_,?_,?_,?_⟩,⟨?_,?_⟩,?_,?_,?_⟩<;>first|trivial|omega
   . simp only[AM,Ae hc]
     refine⟨⟨h1,?_,?_,?_⟩,⟨?_,?_,?_,?_⟩,⟨?_,?_⟩,?_,?_,?_⟩<;>first|trivial|omega
 . rw[Ae k2]
   by_cases k4:kd=4
   . have hp:=h5 (by omega);obtain⟨t1,t2⟩:=ZbL ⟨F,by omega⟩ ⟨P,by omega⟩ ⟨n,by omega⟩ (by simp only;omega) (by simp only;omega) (by simp only;omega) (by simp only;omega);simp only[Ac k4];simp only at t1 t2
     refine⟨⟨h1,?_,?_,?_⟩,⟨?_,?_,?_,?_⟩,⟨?_,?_⟩,?_,?_,?_⟩<;>first|trivial|omega
   . rw[Ae k4];by_cases k5:kd=5
     . have hp:=h5 (by omega);obtain⟨t1,t2⟩:=ZcJ ⟨P,by omega⟩ ⟨n,by omega⟩ (by simp only;omega);simp only[Ac k5];simp only at t1 t2
       refine⟨⟨h1,?_,?_,?_⟩,⟨?_,?_,?_,?_⟩,⟨?_,?_⟩,?_,?_,?_⟩<;>first|trivial|omega
     . rw[Ae k5];by_cases k8:kd=8
       . have t:=mK O M;have t2:=Nat.or_lt_two_pow (x:=O) (y:=M) (n:=4) (by omega) (by omega);simp only[Ac k8]
         refine⟨⟨h1,?_,?_,?_⟩,⟨?_,?_,?_,?_⟩,⟨?_,?_⟩,?_,?_,?_⟩<;>first|trivial|omega|(split<;>omega)
       . rw[Ae k8];split
         . exact⟨⟨h1,rfl,rfl,rfl⟩,⟨rfl,rfl,rfl,rfl⟩,⟨by simp only;omega,by simp only;omega⟩,by simp only;omega,by simp only;omega,by simp only;omega⟩
         . exact⟨⟨h1,rfl,rfl,rfl⟩,⟨rfl,rfl,rfl,rfl⟩,⟨by simp only;omega,by simp only;omega⟩,by simp only;omega,by simp only;omega,by simp only;omega⟩
theorem XP(h:Bool)(a b:ET):(bSel h a.1 b.1,bSel h a.2.1 b.2.1,bSel h a.2.2.1 b.2.2.1,bSel h a.2.2.2 b.2.2.2)=bSel h a b:=by
 cases h
 . simp only[CQ]
 . simp only[Dm]
theorem jy{x:Cn}(he:EngOk x)(hs:FT x)(k:Int)(h:Bool)(k0:0<=k)(k1:k<x.1) :
 (Bo (A8 x k h).1=true/\(A8 x k h).1.1=(Gz x k h).1/\(A8 x k h).1.2.1=(Gz x k h).2.1/\(A8 x k h).1.2.2.2=(Gz x k h).2.2.2) /\
 ((A8 x k h).2.1=x.1/\(A8 x k h).2.2.1=x.2.1/\(A8 x k h).2.2.2.1=x.2.2.1/\(A8 x k h).2.2.2.2.2.1=x.2.2.2.2.1) /\
 (0<=(A8 x k h).2.2.2.2.2.2.1/\(A8 x k h).2.2.2.2.2.2.1<=15)/\0<=(A8 x k h).2.2.2.2.1/\(A8 x k h).2.2.2.2.1 % 2=0/\(A8 x k h).2.2.2.2.1<((2^x.2.1.length:Nat):Int):=
 Zag _ x.2.1.length (GQ hs.1 he.map).l2 (V3 he hs k h k0 k1) he.on0 he.on1 he.f0 he.f2 he.f1
theorem Zbv{x:Cn}(he:EngOk x)(hs:FT x)(k:Int)(h:Bool)(k0:0<=k)(k1:k<x.1)(hn:∀ a∈x.2.2.2.2.1,a.1≠k):EngOk (I8 x k h):=by
 have hl:x.2.2.2.2.1.length<=1048576:=hs.2.2.1.1;have h32:=Z4 hl he.held;have hm:=GQ hs.1 he.map;have ha:=V3 he hs k h k0 k1;obtain⟨⟨s1,s2,s3,s4⟩,_,⟨s5,s6⟩,s7,s8,s9⟩:=jy he hs k h k0 k1;obtain⟨b1,b2⟩:=(OY hl).1 he.held;have hk2:=hm.k2;refine⟨he.map,he.mac,he.macs,?_,?_,s5,s6,s7,s8,s9⟩
 . refine(OY (by show (Ct x k h).length<=_;unfold Ct;simp;omega)).2 ⟨?_,?_⟩
   . intro a hmem;change a∈Ct x k h at hmem;unfold Ct at hmem;rw[CC,List.mem_singleton] at hmem;rcases hmem with hmem|rfl
     . exact b1 a hmem
     . exact⟨k0,by simp only;omega,s1,by simp only;rw[s2];exact ha.2.1,by simp only;rw[s2];exact ha.2.2.1,by simp only;rw[s2];exact ha.2.2.2.1⟩
   . show (Ct x k h).Pairwise _;unfold Ct;refine List.pairwise_append.2 ⟨b2,List.pairwise_singleton _ _,λ a ha b hb=>?_⟩;rw[List.mem_singleton] at hb;subst hb;exact hn a ha
 . intro a hmem;change a∈Ct x k h at hmem;unfold Ct at hmem;rw[CC,List.mem_singleton] at hmem;rcases hmem with hmem|rfl
   . exact he.hk a hmem
   . refine⟨k1,λ h9=>?_⟩;simp only at h9 ⊢;rw[s4];exact ha.2.2.2.2 (by rw[<- s2];exact h9)
theorem j6(x:Cn)(k:Int)(h:Bool)(hs:FT x)(hb:D6 x=false\/k<0\/x.1<=k\/0<=B1 (x,k)) :
 Lu (x,k,h)/\OK (x,k,h)/\Iv (x,k,h)=(XR,[],false)/\MK (x,k,h)=(XR,[],false):=by
 have hl:x.2.2.2.2.1.length<=1048576:=hs.2.2.1.1
 obtain⟨e1,e2,e3⟩:=Q6 x hs
 obtain⟨k1,k2⟩:=V0 (x,k) hl
 have okl:∀ y,Ea y:=λ y=>by rw[OL];trivial
 rw[gG,gE,gC,gJ]
 unfold Ll
 simp only[VZ,<- e3,FW]
 cases he:D6 x with
 | false=>
   have c2:bNot false=true:=by rw[AF];rfl
   have c3:∀ b,bOr true b=true:=λ b=>by rw[AZ];rfl
   simp only[c2,c3,Dm];exact⟨⟨⟨e1,λ _=>trivial,(λ h=>by cases h)⟩,λ _=>trivial,(λ h=>by cases h)⟩,⟨⟨e2,λ _=>trivial,(λ h=>by cases h)⟩,λ _=>trivial,(λ h=>by cases h)⟩,rfl,rfl⟩
 | true=>
   have hm:=GQ hs.1 ((Vw x hs).1 he).map;have hk1:=hm.k1;have hk2:=hm.k2
   have hb:k<0\/x.1<=k\/0<=B1 (x,k):=by rcases hb with hb|hb;rw[he] at hb;cases hb;exact hb
   have c1:bOr (bNot true) (bOr (bNot (decide (0<=k)&&decide (k<=iSub .i64 x.1 1))) (iGe (B1 (x,k)) 0))=true:=by
    simp only[AZ,AF,CG,Gs,Bool.false_or,Cm,Bx,F2,Bm,Ap];rw[EF (by unfold AO;omega)];omega
   have c2:bOr (bNot true) (bOr (iLt k 0) (bOr (iGe k x.1) (iGe (B1 (x,k)) 0)))=true:=by
    simp only[AZ,AF,CG,Aq,Gs,Bool.false_or,Cm,Ap];omega
   simp only[c1,c2,Dm];exact⟨⟨⟨e1,λ _=>trivial,λ _=>⟨okl _,λ _=>trivial,λ _=>k1⟩⟩,λ _=>trivial,λ h=>by cases h⟩,⟨⟨e2,λ _=>trivial,λ _=>⟨λ _=>trivial,λ _=>⟨λ _=>trivial,λ _=>k2⟩⟩⟩,λ _=>trivial,λ h=>by cases h⟩,rfl,rfl⟩
theorem jX(x:Cn)(k:Int)(h:Bool)(hs:FT x)(he:D6 x=true)(k0:0<=k)(k1:k<x.1)(hn:B1 (x,k)<0) :
 Lu (x,k,h)/\OK (x,k,h)/\Iv (x,k,h)=(I8 x k h,NM (B0 x.2.2.2.2.1) (Hh x k h++[B0 (Ct x k h)]),true) /\
 MK (x,k,h)=(I8 x k h,NM (B0 x.2.2.2.2.1) (Hh x k h++[B0 (Ct x k h)]),true)/\JZ (B0 x.2.2.2.2.1)/\JZ (B0 (Ct x k h))/\(∀ r∈Hh x k h,JZ r)/\(Hh x k h).length<=1048576:=by
 have hl:x.2.2.2.2.1.length<=1048576:=hs.2.2.1.1
 have eo:=(Vw x hs).1 he
 have hm:=GQ hs.1 eo.map
 have hk1:=hm.k1
 have hk2:=hm.k2
 have hl4:=hm.l2
 have h32:=Z4 hl eo.held
 obtain⟨e1,e2,e3⟩:=Q6 x hs
 obtain⟨q1,q2⟩:=V0 (x,k) hl
 obtain⟨c1,c2⟩:=Wa x hs
 obtain⟨d1,d2⟩:=gn x hs
 have ag:=V3 eo hs k h k0 k1
 obtain⟨⟨s1,s2,s3,s4⟩,⟨s5,s6,s7,s8⟩,_⟩:=jy eo hs k h k0 k1
 have hf15:x.2.2.2.1<=15:=by
  have h2:2^x.2.1.length<=2^4:=Nat.pow_le_pow_right (by omega) hl4;have:=eo.f1;omega
 obtain⟨t1,t2,t3,t4⟩:=yW x (Gz x k h) ag.1 eo.f0 hf15 eo.on0 eo.on1
 obtain⟨_,_,_,ea⟩:=nr hm (D8 (x.2.2.2.1,x.2.2.2.2.1)) k k0 k1
 obtain⟨la1,la2,_,_⟩:=hU hm (D8 (x.2.2.2.1,x.2.2.2.2.1)) k k0 k1
 have hv:QS ((x.1,x.2.1),D8 (x.2.2.2.1,x.2.2.2.2.1),k)=BU ((x.1,x.2.1),D8 (x.2.2.2.1,x.2.2.2.2.1),k):=by
  rw[Uc ((x.1,x.2.1),D8 (x.2.2.2.1,x.2.2.2.2.1),k)];simp only;rw[eo.map,AZ,AZ,AF,Aq,CG,Es (by omega),Es (by omega)];simp only[Gs,Bool.or_self,CQ]
 have S2:Cj (x,k,h)=HS x k:=by
  unfold Cj HS;simp only[iH,xa _ _ _ _ hs.1]
 have S3:BN (x,k,h)=A8 x k h:=by
  unfold BN;simp only[S2,c2,XP];exact t3
 have I1:Jj (x,k,h)=BU ((x.1,x.2.1),D8 (x.2.2.2.1,x.2.2.2.2.1),k):=hv
 have eg:lGet (lGet x.2.1 (iNat (BU ((x.1,x.2.1),D8 (x.2.2.2.1,x.2.2.2.2.1),k))) []) (iNat k) (0,0,0,0)=HS x k:=by
  rw[A7,A7,Ax,Ax];exact ea.symm
 have I2:EA (x,k,h)=Dx (HS x k):=by
  unfold EA;simp only[I1,eg,kT]
 have I3:ED (x,k,h)=DG (HS x k):=by
  unfold ED;simp only[I1,eg,zu]
 have I4:BO (x,k,h)=A8 x k h:=by
  unfold BO;simp only[I2,I3,d2,XP];exact t4
 have H:lApp (A8 x k h).2.2.2.2.2.1 [(k,(A8 x k h).1)]=Ct x k h:=by rw[BA,s8];rfl
 have E:∀ z:Cn,((A8 x k h).2.1,(A8 x k h).2.2.1,(A8 x k h).2.2.2.1,(A8 x k h).2.2.2.2.1,Ct x k h,(A8 x k h).2.2.2.2.2.2)=I8 x k h:=λ _=>by
  unfold I8;rw[s5,s6,s7]
 have hP:(Ct x k h).length<=1048576:=by unfold Ct;simp;omega
 obtain⟨r1,r2,r3,r4⟩:=MJ x.2.2.2.2.1 hl
 obtain⟨u1,u2,u3,u4⟩:=MJ (Ct x k h) hP
 rw[r3] at r4
 rw[u3] at u4
 have S4:QL (x,k,h)=B0 (Ct x k h):=by unfold QL;simp only[S3,H]
 have S5:QE (x,k,h)=Fj (Ct x k h,lGet x.2.2.1 (iNat (A8 x k h).1.2.2.2) []):=by unfold QE;simp only[S3,H]
 have I5:QG (x,k,h)=B0 (Ct x k h):=by unfold QG;simp only[I4,H,u3]
 have mac:bAnd (iEq (A8 x k h).1.1 9) (iLt (A8 x k h).1.2.2.2 (lLen x.2.2.1))=true->((0:Int)<=(A8 x k h).1.2.2.2/\(A8 x k h).1.2.2.2<(x.2.2.1.length:Int))/\iNat (A8 x k h).1.2.2.2<x.2.2.1.length /\
  NR (Ct x k h,lGet x.2.2.1 (iNat (A8 x k h).1.2.2.2) [])/\NQ (Ct x k h,lGet x.2.2.1 (iNat (A8 x k h).1.2.2.2) [])/\NU (Ct x k h,lGet x.2.2.1 (iNat (A8 x k h).1.2.2.2) [])=Fj (Ct x k h,lGet x.2.2.1 (iNat (A8 x k h).1.2.2.2) []) /\
  (Fj (Ct x k h,lGet x.2.2.1 (iNat (A8 x k h).1.2.2.2) [])).length<=1048576/\∀ r∈Fj (Ct x k h,lGet x.2.2.1 (iNat (A8 x k h).1.2.2.2) []),JZ r:=by
  intro hc
  rw[AE,BC,Aq,As,Ah,Ap,Ap] at hc
  obtain⟨g1,g2⟩:=hc
  have h0:0<=(A8 x k h).1.2.2.2:=(Zdp s1).1
  have hi:iNat (A8 x k h).1.2.2.2<x.2.2.1.length:=by rw[Ax];omega
  have hlen:=(hs.2.1.2 _ (DY x.2.2.1 (iNat (A8 x k h).1.2.2.2) [] hi)).1
  rw[<- A7] at hlen
  obtain⟨m1,m2,m3,m4,m5⟩:=qQ (Ct x k h) (lGet x.2.2.1 (iNat (A8 x k h).1.2.2.2) []) hP hlen
  exact⟨⟨h0,g2⟩,hi,m1,m2,m3,m4,m5⟩
 have I6:bSel (bAnd (iEq (A8 x k h).1.1 9) (iLt (A8 x k h).1.2.2.2 (lLen x.2.2.1))) (QI (x,k,h)) []=Hh x k h:=by
  unfold Hh
  cases hb:bAnd (iEq (A8 x k h).1.1 9) (iLt (A8 x k h).1.2.2.2 (lLen x.2.2.1)) with
  |false=>rw[CQ,CQ]
  | true=>
    rw[Dm,Dm];unfold QI;simp only[I4,H];exact(mac hb).2.2.2.2.1
 have mS:(Hh x k h).length<=1048576/\∀ r∈Hh x k h,JZ r:=by
  unfold Hh
  cases hb:bAnd (iEq (A8 x k h).1.1 9) (iLt (A8 x k h).1.2.2.2 (lLen x.2.2.1)) with
  |false=>rw[CQ];exact⟨by simp,by simp⟩
  |true=>rw[Dm];exact(mac hb).2.2.2.2.2
 have M:bSel (bAnd (iEq (A8 x k h).1.1 9) (iLt (A8 x k h).1.2.2.2 (lLen x.2.2.1))) (Fj (Ct x k h,lGet x.2.2.1 (iNat (A8 x k h).1.2.2.2) [])) []=Hh x k h:=rfl
 obtain⟨g1,g2,g3,g4⟩:=iE (B0 x.2.2.2.2.1) (Hh x k h++[B0 (Ct x k h)]) r4 (by have:=mS.1;simp;omega) (by
  intro r hr
  rw[CC,List.mem_singleton] at hr
  rcases hr with hr|rfl
  . exact mS.2 r hr
  . exact u4)
 have hroom1:Av ((x.2.2.2.2.1.length+[(k,(A8 x k h).1)].length)*5):=by unfold Av;simp only[AG,AK];omega
 have hroom2:Av (((Hh x k h).length+[B0 (Ct x k h)].length)*2):=by have:=mS.1;unfold Av;simp only[AG,AK];omega
 obtain⟨th1,th2,th3,th4⟩:=iU (HS x k)
 have okl:∀ y,Ea y:=λ y=>by rw[OL];trivial
 have ola:=jn x.1 x.2.1 (D8 (x.2.2.2.1,x.2.2.2.2.1)) k hs.1
 have bs:bOr (bNot true) (bOr (bNot (decide (0<=k)&&decide (k<=iSub .i64 x.1 1))) (iGe (B1 (x,k)) 0))=false:=by
  rw[EF (by unfold AO;omega),AZ,AZ,AF,AF,CG,Hs (by omega),Hs (by omega),Es (by omega)];rfl
 have bi:bOr (bNot true) (bOr (iLt k 0) (bOr (iGe k x.1) (iGe (B1 (x,k)) 0)))=false:=by
  rw[AZ,AZ,AZ,AF,Aq,CG,CG,Es (by omega),Es (by omega),Es (by omega)];rfl
 have S1:Ll (x,k,h)=(decide (0<=k)&&decide (k<=iSub .i64 x.1 1)):=by unfold Ll;rw[FW]
 refine⟨?_,?_,?_,?_,r4,u4,mS.2,mS.1⟩
 . rw[gG]
   simp only[VZ,<- e3,he,S1,S2,S3,S4,S5,H,M,bs,c2,XP,iH];refine⟨⟨e1,λ _=>trivial,λ _=>⟨okl _,λ _=>trivial,λ _=>q1⟩⟩,(λ h=>by cases h),λ _=>⟨c1,pN _ _ hl,(iD _ _ _ _ hs.1).1,⟨λ _=>th1,λ _=>th2⟩,t1,by rw[s8];exact hroom1,⟨λ hc=>⟨(mac hc).1,(mac hc).2.1,(mac hc).2.2.1⟩,λ _=>trivial⟩,u1,hroom2,r1,by rw[BA];exact g1,trivial,trivial,trivial⟩⟩
 . rw[gE,vI]
   have hrow:=hm.row (BU ((x.1,x.2.1),D8 (x.2.2.2.1,x.2.2.2.2.1),k)).toNat (by omega)
   have okA:QF ((x.1,x.2.1),D8 (x.2.2.2.1,x.2.2.2.2.1),k):=by
    have:=ola.2;rw[fD] at this;refine this.2.2 ?_;simp only;rw[eo.map,AZ,AZ,AF,Aq,CG,Es (by omega),Es (by omega)];rfl
   simp only[he,bi,I1,eg,I2,I3,I4,I5,I6,H,d2,XP,r3];refine⟨⟨e2,λ _=>trivial,λ _=>⟨λ _=>trivial,λ _=>⟨λ _=>trivial,λ _=>q2⟩⟩⟩,(λ h=>by cases h),λ _=>⟨d1,dM _ _ hl,okA,⟨la1,la2⟩,by rw[Ax];omega,⟨k0,?_⟩,?_,⟨λ _=>th3,λ _=>th4⟩,t2,by rw[s8];exact hroom1,⟨λ hc=>⟨(mac hc).1,(mac hc).2.1,(mac hc).2.2.2.1⟩,λ _=>trivial⟩,u2,hroom2,r2,by rw[BA];exact g2,trivial,trivial,trivial⟩⟩
   . rw[A7,Ax];omega
   . rw[A7,Ax,Ax];omega
 . rw[gC]
   simp only[VZ,<- e3,he,S1,S3,S4,S5,H,M,bs,CQ,BA,g3,E x]
 . rw[gJ,vt]
   simp only[he,bi,I4,I5,I6,H,CQ,BA,r3,g4,E x]
end
section
set_option maxRecDepth 20000
theorem ZcQ {c:BL×Int->Bool} {f:BL×Int->BL×Int} (x:CS) (hok:∀ i,i<x.length->La (BR x i) (x.getD i (0,0,0)))
 (hc:∀ (dn:BL) (i:Nat),i<x.length->La dn (x.getD i (0,0,0))->c (dn,(i:Int))=true) (hf:∀ (dn:BL) (i:Nat),i<x.length->f (dn,(i:Int))=(Ev dn (x.getD i (0,0,0)),(i:Int)+1))
 (hn:∀ dn:BL,c (dn,(x.length:Int))=false):Am c f ([],0)=(BR x x.length,(x.length:Int)):=
 (Jv (p:=λ _=>True) x.length (λ i=>(BR x i,(i:Int))) (x0:=([],0)) rfl (λ i hi=>⟨trivial,hc _ i hi (hok i hi),by rw[hf _ i hi,<- Ph x hi];simp⟩) ⟨trivial,hn _⟩).2
theorem yA(x:CS)(h8:x.length<=8)(h0:BR x x.length=[])(hok:∀ i,i<x.length->La (BR x i) (x.getD i (0,0,0))):Gb x=true:=by
 rw[YO,ZcQ x hok (λ dn i hi hk=>by
  obtain⟨k1,k2,k3,k4⟩:=hk;simp only[As,A7,Ax,Bl,MA,Lz,FW,AE,AF,AZ,LU,Aq,BC,CG];rw[Hs (show (i:Int)<(x.length:Int) by omega),k3,Hs k1,Hs k2];have e:decide ((x.getD i (0,0,0)).1=2)=decide (0<=B5 (dn,(x.getD i (0,0,0)).1,(x.getD i (0,0,0)).2.1,(x.getD i (0,0,0)).2.2)):=decide_eq_decide.2 k4
  rw[e];simp) (λ dn i hi=>by
  simp only[A7,Ax,Bl,MA,BB,BC,Ap,BA];rw[Bu (by unfold AO;omega)]
  rfl) (λ dn=>by simp only[As,AE,Aq];rw[Es (by omega)];rfl)]
 rw[h0,As,As,AE,AE,AF,Aq,Ee,BC,Es (show ¬ (x.length:Int)<(x.length:Int) by omega),Hs (show (x.length:Int)<=8 by omega)];rfl
def RunOk(x:CS):Prop:=BR x x.length=[]/\∀ i,i<x.length->La (BR x i) (x.getD i (0,0,0))
theorem my(a b:CS)(h:BR a a.length=[])(i:Nat)(hi:i<=b.length):BR (a++b) (a.length+i)=BR b i:=by
 unfold BR at h ⊢;rw[HD] at h;rw[List.take_append,PB (by omega),List.foldl_append,h,show a.length+i-a.length=i by omega]
theorem RunOk.app{a b:List CN}(ha:RunOk a)(hb:RunOk b):RunOk (a++b):=by
 refine⟨by rw[Cw,my a b ha.1 _ (BP _)];exact hb.1,λ i hi=>?_⟩;rw[Cw] at hi;by_cases h:i<a.length
 . have e:BR (a++b) i=BR a i:=by unfold BR;rw[List.take_append_of_le_length (by omega)]
   rw[e,Ef,Bw h,<- Ef];exact ha.2 i h
 . obtain⟨j,rfl⟩:∃ j,i=a.length+j:=⟨i-a.length,by omega⟩;rw[my a b ha.1 j (by omega),Ef,Dc (by omega),show a.length+j-a.length=j by omega,<- Ef];exact hb.2 j (by omega)
theorem RunOk.nil:RunOk []:=⟨rfl,λ i h=>by simp at h⟩
theorem aa(s:CN):B5 ([],s)=-1:=by
 rcases Wl [] s (by simp) with h|h
 . exact h
 . simp at h;omega
theorem xG(a:Fb)(k c m:Int)(h:(a.2.2.1,a.2.2.2.1)≠(c,m)):B5 ([a],k,c,m)=-1:=by
 rw[M5,Zb _ _ (by simp)]
 have e:CL (λ i=>decide (([a].map Bh).getD i (0,0)=(c,m))) ([a].map Bh).length 0=1:=by
  show CL _ 1 0=1;unfold CL;have:decide (([a].map Bh).getD 0 (0,0)=(c,m))=false:=Es h;rw[this];rfl
 rw[e,Ae (by simp)]
theorem RunOk.tap(c m:Int)(h:Bo (2,c,m,0)=true):RunOk [(0,c,m)]:=by
 have e0:BR [(0,c,m)] 0=[]:=rfl
 have e1:BR [(0,c,m)] 1=[]:=by show Ev [] (0,c,m)=[];unfold Ev;simp
 refine⟨e1,λ i hi=>?_⟩
 have:i=0:=by simp at hi;omega
 subst this;rw[e0];refine⟨by simp,by simp,h,?_⟩;show (0:Int)=2↔0<=B5 ([],(0,c,m));rw[aa];omega
theorem RunOk.hold(c m c2:Int)(h:Bo (2,c,m,0)=true)(h2:Bo (2,c2,8,0)=true)(hm:m≠8):RunOk [(1,c,m),(0,c2,8),(2,c,m)]:=by
 have e0:BR [(1,c,m),(0,c2,8),(2,c,m)] 0=[]:=rfl
 have e1:BR [(1,c,m),(0,c2,8),(2,c,m)] 1=[mA (1,c,m)]:=by show Ev [] (1,c,m)=_;unfold Ev;simp
 have e2:BR [(1,c,m),(0,c2,8),(2,c,m)] 2=[mA (1,c,m)]:=by
  rw[Ph _ (by simp),e1];show Ev [mA (1,c,m)] (0,c2,8)=_;unfold Ev;simp
 have f2:B5 ([mA (1,c,m)],(2,c,m))=0:=by
  have:=jZ [] (2,c,m) (by simp) (by rw[aa];decide);exact this
 have e3:BR [(1,c,m),(0,c2,8),(2,c,m)] 3=[]:=by
  rw[Ph _ (by simp),e2];show Ev [mA (1,c,m)] (2,c,m)=_;unfold Ev;rw[Ae (by simp),Ac rfl,f2];exact ig [] (mA (1,c,m)) (by simp)
 refine⟨e3,λ i hi=>?_⟩
 have hi:i=0\/i=1\/i=2:=by simp at hi;omega
 rcases hi with rfl|rfl|rfl
 . rw[e0];refine⟨by simp,by simp,h,?_⟩;show (1:Int)=2↔0<=B5 ([],(1,c,m));rw[aa];omega
 . rw[e1];refine⟨by simp,by simp,h2,?_⟩;show (0:Int)=2↔0<=B5 ([mA (1,c,m)],(0,c2,8));rw[xG _ _ _ _ (by simp[mA];intro _;exact hm)];omega
 . rw[e2];refine⟨by simp,by simp,h,?_⟩;show (2:Int)=2↔0<=B5 ([mA (1,c,m)],(2,c,m));rw[f2];omega
theorem ZaU(c:Cz)(h:B3 c):On c/\RunOk (Jn c).1/\(Jn c).1.length<=6/\B3 (c.1,(Jn c).2):=by
 rw[uT,tZ];obtain⟨a1,a2,_,a4⟩:=Fu c 3 h;have a4:=a4 (by omega)
 have key:=Pd (c:=Qx) (f:=Qo c) (p:=Yv c)
  (λ st=>B3 (c.1,st.2.2)/\RunOk st.1/\0<=st.2.1/\st.2.1<=2/\(st.1.length:Int)+3*st.2.1<=6) (λ st=>st.2.1.toNat) (λ st hI=>?_) (x0:=([],Ar (c,3))) ⟨a2,RunOk.nil,by simp only;omega,by simp only;omega,by simp only[AK];omega⟩
 . obtain⟨k1,⟨k2,k3,k4,_,k5⟩,_⟩:=key;exact⟨⟨a1,k1⟩,k3,by simp only;omega,k2⟩
 . obtain⟨l,n,q⟩:=st;obtain⟨h1,h2,h3,h4,h5⟩:=hI;simp only at h1 h2 h3 h4 h5;obtain⟨b1,b2,_,b4⟩:=Fu (c.1,q) 56 h1;have b4:=b4 (by omega);obtain⟨p1,p2,p3⟩:=ZbA (c.1,(Ar ((c.1,q),56)).2) [0,0,2,1] (by simp) b2;obtain⟨o1,o2⟩:=WU (c.1,(Dh ((c.1,(Ar ((c.1,q),56)).2),[0,0,2,1])).2) 2 p2;simp only[Qx,Qo,Yv];generalize Ar ((c.1,q),56)=B at b2 b4 p1 p2 p3 o1 o2 ⊢;generalize Dh ((c.1,B.2),[0,0,2,1])=P at p2 p3 o1 o2 ⊢;generalize Cq ((c.1,P.2),2)=O at o2 ⊢;have eB:iAdd .i64 1 B.1=1+B.1:=Bu (by unfold AO;omega)
   have eL:iSub .i64 (iSub .i64 60 (lLen l)) 10=50-(l.length:Int):=by
    have e1:iSub .i64 60 (l.length:Int)=60-(l.length:Int):=EF (by unfold AO;omega);rw[As,e1,EF (by unfold AO;omega)];omega
   have hP:P.1=0\/P.1=2\/P.1=1:=by simpa using p3
   simp only[eB,eL,C0,BA,Ap,Bm];refine⟨⟨λ _=>⟨b1,p1,o1,λ _=>(by unfold Av;simp only[AG,AK];omega),λ _=>(by unfold Av;simp only[AG,AK];omega)⟩,λ _=>trivial⟩,λ hn=>?_⟩;have es:iSub .i64 n 1=n-1:=EF (by unfold AO;omega);rw[es];have act1:Bo (2,1+B.1,P.1,0)=true:=(Dl _ _ _ _).2 (by omega)
   have hl:(l.length:Int)<=3:=by omega
   have act2:Bo (2,50-(l.length:Int),8,0)=true:=(Dl _ _ _ _).2 (by omega);refine⟨⟨?_,?_,by omega,by omega,?_⟩,by omega⟩
   . simp only[BB,ite_self];exact o2
   . rw[BB];split
     . exact h2.app (RunOk.tap _ _ act1)
     . exact h2.app (RunOk.hold _ _ _ act1 act2 (by omega))
   . rw[BB];split<;>simp only[Cw,AG,AK]<;>omega
end
section
set_option maxRecDepth 20000
theorem kt(c:Cz)(e:Cn):CY (c,e)=BV c/\Jk (c,e)=Im c:=by
 rw[tc,gg,sD,fS];exact⟨rfl,rfl⟩
theorem Zbi(c:Cz)(e:Cn)(n:Int):Oo (c,e,n)=Cq (c,n)/\Oi (c,e,n)=Ku (c,n):=by
 rw[sv,fG,tg,fU,rH,fq,rI,e6];simp only[λ c=>(kt c e).1,λ c=>(kt c e).2];exact⟨trivial,trivial⟩
def EngG(k:Int)(x:Cn):Prop:=EngOk x/\FT x/\x.1=k
theorem bd{l:BL}(h:l.length<=1048576):Pe l:=⟨h,λ _ _=>⟨trivial,trivial⟩⟩
theorem EngG.hl{k:Int}{x:Cn}(h:EngG k x):x.2.2.2.2.1.length<=32:=Z4 h.2.1.2.2.1.1 h.1.held
theorem EngG.is{k:Int}{x:Cn}(h:EngG k x):D6 x=true:=(Vw x h.2.1).2 h.1
theorem EngG.press{k:Int}{x:Cn}(g:EngG k x)(key:Int)(h:Bool)(k0:0<=key)(k1:key<k)(hn:B1 (x,key)<0):EngG k (I8 x key h):=by
 obtain⟨g1,g2,g3⟩:=g;have hl:x.2.2.2.2.1.length<=32:=EngG.hl ⟨g1,g2,g3⟩
 have hne:∀ a∈x.2.2.2.2.1,a.1≠key:=by
  rcases Za x key g2.2.2.1.1 with⟨_,h2⟩|⟨i,_,h2,_⟩
  . exact h2
  . omega
 refine⟨Zbv g1 g2 key h k0 (by omega) hne,⟨g2.1,g2.2.1,bd ?_,trivial⟩,g3⟩;show (Ct x key h).length<=_;unfold Ct;simp only[Cw,AG,AK];omega
theorem EngG.rel{k:Int}{x:Cn}(g:EngG k x)(i:Nat):EngG k (x.1,x.2.1,x.2.2.1,x.2.2.2.1,x.2.2.2.2.1.eraseIdx i,x.2.2.2.2.2):=by
 obtain⟨g1,g2,g3⟩:=g;have hl:x.2.2.2.2.1.length<=1048576:=g2.2.2.1.1;exact⟨g1.rel hl i,⟨g2.1,g2.2.1,bd (JG (List.eraseIdx_sublist x.2.2.2.2.1 i).length_le hl),trivial⟩,g3⟩
theorem Zba{k:Int}{x:Cn}(g:EngG k x)(key:Int)(h:Bool)(k0:0<=key)(k1:key<k) :
 Lu (x,key,h)/\((Iv (x,key,h)).2.2=true/\EngG k (Iv (x,key,h)).1\/(Iv (x,key,h)).2.2=false/\QK (x,key)/\EngG k (QR (x,key)).1):=by
 have hs:=g.2.1
 have hk:=g.2.2
 rcases Za x key hs.2.2.1.1 with⟨h1,h2⟩|⟨i,h1,h2,_⟩
 . obtain⟨p1,_,p3,_⟩:=jX x key h hs g.is k0 (by omega) (by omega)
   refine⟨p1,.inl ?_⟩;rw[p3];exact⟨rfl,g.press key h k0 k1 (by omega)⟩
 . obtain⟨p1,_,p3,_⟩:=j6 x key h hs (.inr (.inr (.inr (by omega))))
   obtain⟨r1,_,r3,_⟩:=xo x key hs g.is i h1 h2;refine⟨p1,.inr ?_⟩;rw[p3,r3];exact⟨rfl,r1,g.rel i⟩
theorem Za3(c:Cz)(k:Int)(h:B3 c)(k1:1<=k)(k2:k<=32):OC (c,k)/\EngG k (AN (c,k)).1/\B3 (c.1,(AN (c,k)).2):=by
 rw[vz,wh];obtain⟨a1,a2,_,a4⟩:=Fu c 4 h;have a4:=a4 (by omega)
 have key:=Pd (c:=Jl) (f:=Ji (c,k)) (p:=YG (c,k))
  (λ st=>B3 (c.1,st.2.2)/\(∀ m∈st.1,RunOk m/\m.length<=6)/\0<=st.2.1/\(st.1.length:Int)+st.2.1<=3) (λ st=>st.2.1.toNat) (λ st hI=>?_) (x0:=([],Ar (c,4))) ⟨a2,λ m hm=>by simp at hm,by simp only;omega,by simp only[AK];omega⟩
 . obtain⟨q1,⟨q2,q3,q4,q5⟩,_⟩:=key;generalize Am Jl (Ji (c,k)) ([],Ar (c,4))=st at *;obtain⟨d1,d2,d3,d4⟩:=Zbg (c.1,st.2.2) k q2 k1 k2;simp only at d1 d2 d3 d4 ⊢;generalize Iq ((c.1,st.2.2),k)=M at d2 d3 d4 ⊢;obtain⟨⟨kk,L⟩,cu⟩:=M;simp only at d2 d3 d4 ⊢;subst d4;have hk:Gf (kk,L):=ZcW d3;have hm:MU st.1:=⟨by omega,λ m hm=>⟨by have:=(q3 m hm).2;omega,λ _ _=>trivial⟩⟩;obtain⟨n1,_,_,n4⟩:=vh kk L st.1 hk hm;have hs:FT (kk,L,st.1,0,[],0,false):=⟨hk,hm,bd (by simp),trivial⟩
   have ok:EngOk (kk,L,st.1,0,[],0,false):=by
    refine⟨km d3,by simp only;omega,λ m hm'=>?_,(OY (by simp)).2 ⟨by simp,by simp⟩,by simp,by simp,by simp,by simp,by simp,?_⟩
    . obtain⟨r1,r2⟩:=q3 m hm';rw[<- Zz m (by omega)];exact yA m (by omega) r1.1 r1.2
    . have:=Nat.two_pow_pos L.length;simp only;omega
   have e1:N8 ((kk,L),st.1)=((kk,L,st.1,0,[],0,false),true):=by
    obtain⟨_,_,c3⟩:=Q6 _ hs;have:=(Vw _ hs).2 ok;rw[c3] at this;rw[ed];simp only[this,(Wa _ hs).2];rw[show bNot true=false by rw[AF];rfl,CQ]
   refine⟨⟨a1,q1,d1,n1⟩,?_,d2⟩;rw[e1];exact⟨ok,hs,rfl⟩
 . obtain⟨l,n,q⟩:=st;obtain⟨h1,h2,h3,h4⟩:=hI;simp only at h1 h2 h3 h4;obtain⟨b1,b2,b3,b4⟩:=ZaU (c.1,q) h1;simp only[Jl,Ji,YG,C0,BA,Ap];refine⟨⟨λ _=>⟨b1,by unfold Av;simp only[AG,AK];omega⟩,λ _=>trivial⟩,λ hn=>?_⟩;have es:iSub .i64 n 1=n-1:=EF (by unfold AO;omega);rw[es];refine⟨⟨b4,λ m hm=>?_,by omega,by simp only[Cw,AG,AK];omega⟩,by omega⟩;rw[CC,List.mem_singleton] at hm;rcases hm with hm|rfl
   . exact h2 m hm
   . exact⟨b2,b3⟩
theorem yM(c:Cz)(k:Int)(h:B3 c)(k1:1<=k)(k2:k<=32):Om (c,k)/\EngG k (MI (c,k)).1/\B3 (c.1,(MI (c,k)).2):=by
 rw[tu,uv];obtain⟨n1,n2,n3⟩:=Za3 c k h k1 k2;simp only[Ej];generalize AN (c,k)=N at n2 n3 ⊢;obtain⟨e,cu⟩:=N;simp only at n2 n3 ⊢;obtain⟨b1,b2,_,b4⟩:=Fu (c.1,cu) 8 n3;have b4:=b4 (by omega)
 have key:=Pd (c:=H6) (f:=H8 (c,k)) (p:=Yn (c,k))
  (λ st=>B3 (c.1,st.2.2.2.2.2.2.2.2)/\EngG k (st.2.1,st.2.2.1,st.2.2.2.1,st.2.2.2.2.1,st.2.2.2.2.2.1,st.2.2.2.2.2.2.1,st.2.2.2.2.2.2.2.1)/\0<=st.1/\st.1<=8) (λ st=>st.1.toNat) (λ st hI=>?_)
  (x0:=((Ar ((c.1,cu),8)).1,e.1,e.2.1,e.2.2.1,e.2.2.2.1,e.2.2.2.2.1,e.2.2.2.2.2.1,e.2.2.2.2.2.2,(Ar ((c.1,cu),8)).2)) ⟨b2,n2,by simp only;omega,by simp only;omega⟩
 . obtain⟨q1,⟨q2,q3,_⟩,_⟩:=key;exact⟨⟨n1,b1,q1⟩,q3,q2⟩
 . obtain⟨n,kk,L,mc,fx,hd,on,cp,q⟩:=st;obtain⟨h1,h2,h3,h4⟩:=hI;simp only at h1 h2 h3 h4;obtain⟨p1,p2,_,p4⟩:=Fu (c.1,q) k h1;have p4:=p4 (by omega);obtain⟨o1,o2⟩:=WU (c.1,(Ar ((c.1,q),k)).2) 2 p2;obtain⟨oq1,oq2⟩:=Zbi (c.1,(Ar ((c.1,q),k)).2) (0,[],[],0,[],0,false) 2;obtain⟨s1,s2⟩:=Zba h2 (Ar ((c.1,q),k)).1 (Cq ((c.1,(Ar ((c.1,q),k)).2),2)).1 p4.1 p4.2;simp only[H6,H8,Yn,My,T4,Li,EW,oq1,oq2,C0,Ap];generalize Ar ((c.1,q),k)=B at *;generalize Cq ((c.1,B.2),2)=O at *
   have es:0<n->iSub .i64 n 1=n-1:=λ _=>EF (by unfold AO;omega)
   rcases s2 with⟨t1,t2⟩|⟨t1,t2,t3⟩
   . rw[t1]
     have e0:bNot true=false:=by rw[AF];rfl
     simp only[e0,CQ];refine⟨⟨λ _=>⟨p1,o1,s1,(λ h=>by cases h),λ _=>trivial⟩,λ _=>trivial⟩,λ hn=>?_⟩;rw[es hn];exact⟨⟨o2,t2,by omega,by omega⟩,by omega⟩
   . rw[t1]
     have e0:bNot false=true:=by rw[AF];rfl
     simp only[e0,Dm];refine⟨⟨λ _=>⟨p1,o1,s1,λ _=>t2,λ _=>trivial⟩,λ _=>trivial⟩,λ hn=>?_⟩;rw[es hn];exact⟨⟨o2,t3,by omega,by omega⟩,by omega⟩
theorem vw(x:Bg)(k:Int)(h:x.length<=1048576)(k1:1<=k)(k2:k<=32):Tw (x,k)/\EngG k (A9 (x,k)):=by
 rw[pS,pO];obtain⟨a1,a2⟩:=kf x 7 h;obtain⟨b1,b2,_⟩:=yM (Jo (x,7)) k a2 k1 k2;exact⟨⟨a1,b1⟩,b2⟩
end
section
set_option maxRecDepth 20000
def oN(x:Cn)(key:Int)(h:Bool):List Ds:=NM (B0 x.2.2.2.2.1) (Hh x key h++[B0 (Ct x key h)])
theorem ZcP{k:Int}{x:Cn}(g:EngG k x)(key:Int)(h:Bool)(k0:0<=key)(k1:key<k) :
 Lu (x,key,h)/\OK (x,key,h)/\Lt (x,key) /\
 (((∀ a∈x.2.2.2.2.1,a.1≠key)/\B1 (x,key)<0/\EngG k (I8 x key h)/\Iv (x,key,h)=(I8 x key h,oN x key h,true)/\MK (x,key,h)=(I8 x key h,oN x key h,true)) \/
  (∃ j:Nat,j<x.2.2.2.2.1.length/\B1 (x,key)=(j:Int)/\Iv (x,key,h)=(XR,[],false)/\MK (x,key,h)=(XR,[],false))):=by
 have hs:=g.2.1
 have hk:=g.2.2
 obtain⟨_,h0⟩:=V0 (x,key) hs.2.2.1.1
 rcases Za x key hs.2.2.1.1 with⟨h1,h2⟩|⟨i,h1,h2,_⟩
 . obtain⟨p1,p2,p3,p4,_⟩:=jX x key h hs g.is k0 (by omega) (by omega)
   exact⟨p1,p2,h0,.inl ⟨h2,by omega,g.press key h k0 k1 (by omega),p3,p4⟩⟩
 . obtain⟨p1,p2,p3,p4⟩:=j6 x key h hs (.inr (.inr (.inr (by omega))))
   exact⟨p1,p2,h0,.inr ⟨i,h1,h2,p3,p4⟩⟩
theorem m0{l:BL}{a:Int×Int×Int×Int×Int}(hl:l.length<=1048576):iSub .i64 (lLen (l++[a])) 1=(l.length:Int):=by
 have e:(l++[a]).length=l.length+1:=by simp
 rw[As,e,EF (by unfold AO;omega)];omega
theorem ZaX{l:BL}{a:Int×Int×Int×Int×Int}(hl:l.length<=1048576):lGet (l++[a]) (iNat (iSub .i64 (lLen (l++[a])) 1)) (0,0,0,0,0)=a:=by
 rw[m0 hl,A7,Ax,Bl];simp[List.getD]
theorem Zby{l:BL}{a:Int×Int×Int×Int×Int}(hl:l.length<=1048576) :
 (0<=iSub .i64 (lLen (l++[a])) 1/\iSub .i64 (lLen (l++[a])) 1<((l++[a]).length:Int))/\iNat (iSub .i64 (lLen (l++[a])) 1)<(l++[a]).length:=by
 have e:(l++[a]).length=l.length+1:=by simp
 rw[m0 hl,Ax,Bl,e];omega
theorem Zd6(c:Int):Qf c:=by rw[dQ];trivial
theorem EngG.caps{k:Int}{x:Cn}(g:EngG k x)(b:Bool):EngG k (x.1,x.2.1,x.2.2.1,x.2.2.2.1,x.2.2.2.2.1,x.2.2.2.2.2.1,b):=by
 obtain⟨⟨a1,a2,a3,a4,a5,a6,a7,a8,a9,a10⟩,g2,g3⟩:=g;exact⟨⟨a1,a2,a3,a4,a5,a6,a7,a8,a9,a10⟩,g2,g3⟩
theorem EngG.act{k:Int}{x:Cn}(g:EngG k x)(key:Int)(h:Bool)(k0:0<=key)(k1:key<k):Bo (Gz x key h)=true:=(V3 g.1 g.2.1 key h k0 (by have:=g.2.2;omega)).1
theorem Zaq:∀ v:Fin 16,Eh v.val 2=0->v.val=0\/v.val=2:=by decide +kernel
theorem ZbV(c:Int)(h1:1<=c)(h2:c<=36):Ez c=true:=by
 rw[dN,FW,AZ,Hs h1,Hs h2];rfl
end
section
set_option maxRecDepth 8000
def uN:DCode:=(.seq [0] (.region [oa 0 2 (.mv Ao)]) (.seq [0] (.seq [15,0] (.region [on 0 14 0,oF 1 15 KG [(.t 14)]]) (.cond (.t 15) (.seq [2] (.region [oa 0 2 (.mv AU)]) .ret) .skip)) (.seq [3,0] (.region [on 0 16 0,oF 1 17 J9 [(.t 16),(.c (.int .i64 5))],oa 2 3 (.allocB 0 [Ab,.nils,.nils,Ab,.nils,Ab,CV]),os 3 (.storeB 0 7 (.t 3) (.t 17))]) (.seq [3,0] (.region [⟨0,some 18,.fzb (.t 3) (.fieldA 6 (.t 3)),none,[]⟩,os 1 (.storeB 0 1 (.t 18) AU)]) (.seq [4,3] (.region [on 0 19 0,oF 1 20 Kc [(.t 19),(.c (.int .i64 18)),(.c (.int .i64 5))],om 2 4 20]) (.seq [5,4,3] (.region [oa 10 5 (.allocH [Ab,Ab,Ab,Ab]),oa 0 21 (.fieldA 0 (.t 3)),xA 1 22 (.loadB 0 (some 2) (.t 21)) (rg 1),oa 2 23 (.fieldA 3 (.t 3)),xA 3 24 (.loadB 0 none (.t 23)) [2],oa 4 25 (.fieldA 4 (.t 3)),xA 5 26 (.loadB 0 none (.t 25)) [4],om 7 28 4,xF 6 27 Ic [(.t 24),(.t 26)] [2,3,4,5],xF 8 29 Km [(.t 22),(.t 27),(.t 28)] (rg 8),xF 9 30 Iu [(.t 29)] (rg 9),xS 11 (.storeH 4 (.t 5) (.t 30)) (rg 11)]) (.seq [8,6,5,4,3] (.region [oa 0 32 (.loadB 0 (some 7) (.t 3)),om 1 33 4,oF 2 34 Kz [(.t 32),(.t 33),Ao],om 3 31 34,oa 4 35 (.extract (.t 31) 0),oa 5 36 (.extract (.t 31) 1),oa 6 37 (.extract (.t 31) 2),oa 7 6 (.allocB 1 [Ab,.nils,.nils,Ab,.nils,Ab,CV]),os 8 (.storeB 1 7 (.t 6) (.t 35)),on 9 7 36,om 10 8 37]) (.seq [8,6,5,4,3] (.seq [11,8,6,5,4,3] (.region [oa 0 39 (.loadB 0 (some 7) (.t 3)),om 1 40 4,oF 2 41 It [(.t 39),(.t 40),Ao],om 3 38 41,oa 4 42 (.extract (.t 38) 0),oa 5 43 (.extract (.t 38) 1),oa 6 44 (.extract (.t 38) 2),oa 7 9 (.allocB 2 [Ab,.nils,.nils,Ab,.nils,Ab,CV]),os 8 (.storeB 2 7 (.t 9) (.t 42)),on 9 10 43,om 10 11 44]) (.seq [47,8,6,5,4,3] (.region [om 0 45 8,om 1 46 11,oa 2 47 (.eqB true (.t 45) (.t 46))]) (.cond (.t 47) (.seq [2] (.region [oa 0 2 (.mv Ao)]) .ret) .skip))) (.seq [6,5,3] (.seq [49,6,5,4,3] (.region [om 0 48 8,oa 1 49 (.un .not (.t 48))]) (.cond (.t 49) (.seq [2] (.region [oa 0 50 (.loadB 0 (some 7) (.t 3)),om 1 51 4,oF 2 52 GN [(.t 50),(.t 51)],oa 3 53 (.bin .geq (.t 52) AD),om 4 2 53]) .ret) .skip)) (.seq [12,6,5,3] (.region [oa 0 54 (.fieldA 4 (.t 6)),oa 1 55 (.loadB 1 none (.t 54)),oa 2 56 (.fieldA 4 (.t 6)),oa 3 57 (.loadB 1 none (.t 56)),oa 4 58 (.len (.t 57)),oa 5 59 (.bin .sub (.t 58) Au),oa 6 60 (.indexA 5 (.t 55) (.t 59)),oa 7 61 (.fieldA 1 (.t 60)),ob 8 62 (.loadH (some 4) (.t 61)),oa 9 12 (.allocB 3 [Ab,Ab,Ab,Ab]),os 10 (.storeB 3 4 (.t 12) (.t 62))]) (.seq [13,12,6,5] (.region [oa 0 63 (.fieldA 2 (.t 5)),oa 1 64 (.loadH none (.t 63)),oa 2 65 (.fieldA 5 (.t 3)),oa 3 66 (.loadB 0 none (.t 65)),oa 4 67 (.bin .or (.t 64) (.t 66)),om 5 13 67]) (.seq [13,12,6,5] (.block 0 (.seq [68,13,12,6,5] (.region [oa 0 69 (.fieldA 0 (.t 5)),oa 1 70 (.loadH none (.t 69)),oa 2 71 (.bin .eql (.t 70) (.c (.int .i64 10))),om 3 68 71]) (.cond (.t 68) (.seq [2] (.region [oa 0 72 (.fieldA 6 (.t 6)),oa 1 73 (.loadB 1 none (.t 72)),oa 2 74 (.un .not (.t 73)),om 3 2 74]) .ret) (.seq [75,13,12,6,5] (.region [oa 0 76 (.fieldA 0 (.t 5)),oa 1 77 (.loadH none (.t 76)),oa 2 78 (.bin .neq (.t 77) (.c (.int .i64 2))),om 3 79 78,og 4 80 (.fieldA 1 (.t 5)) 79 false,og 5 81 (.loadH none (.t 80)) 79 false,og 6 82 (.bin .eql (.t 81) AD) 79 false,oa 7 83 (.pick (.t 79) AU (.t 82)),om 8 75 83]) (.cond (.t 75) (.seq [2] (.region [oa 0 84 (.fieldA 6 (.t 6)),ob 1 85 (.loadB 1 none (.t 84)),om 2 2 85]) .ret) (.seq [86,13,12,6,5] (.region [oa 0 87 (.fieldA 1 (.t 5)),oa 1 88 (.loadH none (.t 87)),oa 2 89 (.bin .leq (.t 88) (.c (.int .i64 26))),om 3 90 89,og 4 91 (.mv (.t 13)) 90 true,og 5 92 (.bin .eql (.t 91) AD) 90 true,og 6 93 (.mv (.t 92)) 90 true,og 7 94 (.mv (.t 13)) 93 false,og 8 95 (.bin .eql (.t 94) (.c (.int .i64 2))) 93 false,og 9 96 (.pick (.t 93) AU (.t 95)) 90 true,oa 10 97 (.pick (.t 90) (.t 96) Ao),om 11 86 97]) (.cond (.t 86) (.seq [2] (.region [oa 0 98 (.fieldA 6 (.t 6)),oa 1 99 (.loadB 1 none (.t 98)),om 2 100 99,og 3 101 (.fieldA 2 (.t 12)) 100 true,og 4 102 (.loadB 3 none (.t 101)) 100 true,og 5 103 (.bin .eql (.t 102) (.c (.int .i64 2))) 100 true,oa 6 104 (.pick (.t 100) (.t 103) Ao),om 7 2 104]) .ret) .skip))))))) (.seq [2] (.region [oa 0 105 (.fieldA 2 (.t 12)),xA 1 106 (.loadB 3 none (.t 105)) (rg 1),om 2 107 13,xA 3 108 (.bin .eql (.t 106) (.t 107)) (rg 3),xA 4 109 (.mv (.t 108)) (rg 4),⟨5,some 110,.a false (.fieldA 6 (.t 6)) none,(some (109,true)),[0,1,2,3,4]⟩,⟨6,some 111,.a false (.loadB 1 none (.t 110)) none,(some (109,true)),[0,1,2,3,4,5]⟩,⟨7,some 112,.a false (.fieldA 1 (.t 5)) none,(some (109,true)),[0,1,2,3,4]⟩,⟨8,some 113,.a false (.loadH none (.t 112)) none,(some (109,true)),[0,1,2,3,4,7]⟩,⟨9,some 114,.call false FK.S FK.P FK.D [(.t 113)],(some (109,true)),[0,1,2,3,4,7,8]⟩,⟨10,some 115,.a false (.eqB false (.t 111) (.t 114)) none,(some (109,true)),[0,1,2,3,4,5,6,7,8,9]⟩,xA 11 116 (.pick (.t 109) (.t 115) Ao) (rg 11),xA 12 2 (.mv (.t 116)) (rg 12)]) .ret)))))))))))))
def Hn:Fn:=⟨⟨1,117,4,true,[.tmp 2],uN⟩,[.one .frz (.sl (.one (.int .u8)))],.one (.one .own (.bool))⟩
theorem tM:Hn.A:=AV ⟨xj,pG,pL,eM,re,gq,wC,gx,fQ,dP,trivial⟩
def Vh:Bg->Bool:=Hn.V
def UN:Bg->Prop:=Hn.O
end
section
set_option maxRecDepth 100000
def Yz(x:Bg):=D8 ((A9 (x,5)).2.2.2.1,(A9 (x,5)).2.2.2.2.1)
def Di(x:Bg):=MK (((A9 (x,5)).1,(A9 (x,5)).2.1,(A9 (x,5)).2.2.1,(A9 (x,5)).2.2.2.1,(A9 (x,5)).2.2.2.2.1,(A9 (x,5)).2.2.2.2.2.1,true),(GF (x,18,5)),false)
def TY(x:Bg):=Iv (((A9 (x,5)).1,(A9 (x,5)).2.1,(A9 (x,5)).2.2.1,(A9 (x,5)).2.2.2.1,(A9 (x,5)).2.2.2.2.1,(A9 (x,5)).2.2.2.2.2.1,true),(GF (x,18,5)),false)
def Da(x:Bg):=Hm (((A9 (x,5)).1,(A9 (x,5)).2.1),(Yz x),(GF (x,18,5)))
theorem uI (x):Vh x=(bOr (OW x) (bAnd (bNot (bNot (bIff (Di x).2.2 (TY x).2.2))) (bSel (bNot (Di x).2.2) (iGe (B1 (((A9 (x,5)).1,(A9 (x,5)).2.1,(A9 (x,5)).2.2.1,(A9 (x,5)).2.2.2.1,(A9 (x,5)).2.2.2.2.1,(A9 (x,5)).2.2.2.2.2.1,true),(GF (x,18,5)))) 0) (bSel (iEq (CZ (Da x)).1 10) (bNot (Di x).1.2.2.2.2.2.2) (bSel (bOr (iNe (CZ (Da x)).1 2) (iEq (CZ (Da x)).2.1 0)) (Di x).1.2.2.2.2.2.2 (bSel (bAnd (iLe (CZ (Da x)).2.1 26) (bOr (iEq (iOr .i64 (CZ (Da x)).2.2.1 (A9 (x,5)).2.2.2.2.2.1) 0) (iEq (iOr .i64 (CZ (Da x)).2.2.1 (A9 (x,5)).2.2.2.2.2.1) 2))) (bAnd (Di x).1.2.2.2.2.2.2 (iEq (lGet (Di x).1.2.2.2.2.1 (iNat (iSub .i64 (lLen (Di x).1.2.2.2.2.1) 1)) (0,0,0,0,0)).2.2.2.1 2)) (bAnd (iEq (lGet (Di x).1.2.2.2.2.1 (iNat (iSub .i64 (lLen (Di x).1.2.2.2.2.1) 1)) (0,0,0,0,0)).2.2.2.1 (iOr .i64 (CZ (Da x)).2.2.1 (A9 (x,5)).2.2.2.2.2.1)) (bIff (Di x).1.2.2.2.2.2.2 (Jf (CZ (Da x)).2.1))))))))):=(Hn.v x).trans (by kernel_rfl)
theorem uW (x):UN x=((Vz x)/\(((OW x)=true->True)/\((OW x)=false->((Tw (x,5))/\((TA (x,18,5))/\((Qp ((A9 (x,5)).2.2.2.1,(A9 (x,5)).2.2.2.2.1))/\((TO (((A9 (x,5)).1,(A9 (x,5)).2.1),(Yz x),(GF (x,18,5))))/\((Q2 (Da x))/\((OK (((A9 (x,5)).1,(A9 (x,5)).2.1,(A9 (x,5)).2.2.1,(A9 (x,5)).2.2.2.1,(A9 (x,5)).2.2.2.2.1,(A9 (x,5)).2.2.2.2.2.1,true),(GF (x,18,5)),false))/\((Lu (((A9 (x,5)).1,(A9 (x,5)).2.1,(A9 (x,5)).2.2.1,(A9 (x,5)).2.2.2.1,(A9 (x,5)).2.2.2.2.1,(A9 (x,5)).2.2.2.2.2.1,true),(GF (x,18,5)),false))/\(((bNot (bIff (Di x).2.2 (TY x).2.2))=true->True)/\((bNot (bIff (Di x).2.2 (TY x).2.2))=false->(((bNot (Di x).2.2)=true->(Lt (((A9 (x,5)).1,(A9 (x,5)).2.1,(A9 (x,5)).2.2.1,(A9 (x,5)).2.2.2.1,(A9 (x,5)).2.2.2.2.1,(A9 (x,5)).2.2.2.2.2.1,true),(GF (x,18,5)))))/\((bNot (Di x).2.2)=false->((((0:Int)<=(iSub .i64 (lLen (Di x).1.2.2.2.2.1) 1))/\((iSub .i64 (lLen (Di x).1.2.2.2.2.1) 1)<(((List.length (Di x).1.2.2.2.2.1):Int))))/\(((iNat (iSub .i64 (lLen (Di x).1.2.2.2.2.1) 1))<(List.length (Di x).1.2.2.2.2.1))/\(((iEq (CZ (Da x)).1 10)=true->True)/\((iEq (CZ (Da x)).1 10)=false->(((bOr (iNe (CZ (Da x)).1 2) (iEq (CZ (Da x)).2.1 0))=true->True)/\((bOr (iNe (CZ (Da x)).1 2) (iEq (CZ (Da x)).2.1 0))=false->(((bAnd (iLe (CZ (Da x)).2.1 26) (bOr (iEq (iOr .i64 (CZ (Da x)).2.2.1 (A9 (x,5)).2.2.2.2.2.1) 0) (iEq (iOr .i64 (CZ (Da x)).2.2.1 (A9 (x,5)).2.2.2.2.2.1) 2)))=true->True)/\((bAnd (iLe (CZ (Da x)).2.1 26) (bOr (iEq (iOr .i64 (CZ (Da x)).2.2.1 (A9 (x,5)).2.2.2.2.2.1) 0) (iEq (iOr .i64 (CZ (Da x)).2.2.1 (A9 (x,5)).2.2.2.2.2.1) 2)))=false->(((iEq (lGet (Di x).1.2.2.2.2.1 (iNat (iSub .i64 (lLen (Di x).1.2.2.2.2.1) 1)) (0,0,0,0,0)).2.2.2.1 (iOr .i64 (CZ (Da x)).2.2.1 (A9 (x,5)).2.2.2.2.2.1))=true->(Qf (CZ (Da x)).2.1))/\((iEq (lGet (Di x).1.2.2.2.2.1 (iNat (iSub .i64 (lLen (Di x).1.2.2.2.2.1) 1)) (0,0,0,0,0)).2.2.2.1 (iOr .i64 (CZ (Da x)).2.2.1 (A9 (x,5)).2.2.2.2.2.1))=false->True)))))))))))))))))))))))):=(Hn.o x).trans (by kernel_rfl)
attribute [irreducible] Vh UN
end
section
set_option maxRecDepth 20000
theorem ZaR(kk:Int)(L:List (List ET))(mc:C9)(fx:Int)(hd:BL)(on:Int)(a:ET)(ha:Bo a=true)(o0:0<=on)(o1:on<=15) :
 bSel (iEq a.1 10) (bNot (CK (Ez a.2.1) (kk,L,mc,fx,hd,on,true) a).2.2.2.2.2.2.2)
  (bSel (bOr (iNe a.1 2) (iEq a.2.1 0)) (CK (Ez a.2.1) (kk,L,mc,fx,hd,on,true) a).2.2.2.2.2.2.2
   (bSel (bAnd (iLe a.2.1 26) (bOr (iEq (iOr .i64 a.2.2.1 on) 0) (iEq (iOr .i64 a.2.2.1 on) 2)))
    (bAnd (CK (Ez a.2.1) (kk,L,mc,fx,hd,on,true) a).2.2.2.2.2.2.2 (iEq (CK (Ez a.2.1) (kk,L,mc,fx,hd,on,true) a).1.2.2.1 2))
    (bAnd (iEq (CK (Ez a.2.1) (kk,L,mc,fx,hd,on,true) a).1.2.2.1 (iOr .i64 a.2.2.1 on)) (bIff (CK (Ez a.2.1) (kk,L,mc,fx,hd,on,true) a).2.2.2.2.2.2.2 (Jf a.2.1)))))=true:=by
 obtain⟨k,c,m,p⟩:=a
 have h:=(Dl k c m p).1 ha
 simp only[BB,AZ,AE,AF,BC,C8,Ee,LU,iA]
 by_cases k10:k=10
 . subst k10
   simp[CK]
 . by_cases k2:k=2
   . subst k2
     have h2:0<=c/\c<=56/\0<=m/\m<=15:=by omega
     by_cases hc:0<c
     . have hc0:¬ c=0:=by omega
       obtain⟨M,rfl⟩:=Int.eq_ofNat_of_zero_le h2.2.2.1;obtain⟨O,rfl⟩:=Int.eq_ofNat_of_zero_le o0;have hor:iOr .i64 (M:Int) (O:Int)=((M ||| O:Nat):Int):=Si (by omega) (by omega);have hlt:=Nat.or_lt_two_pow (x:=M) (y:=O) (n:=4) (by omega) (by omega);have m2:=Zaq ⟨M ||| O,hlt⟩;simp only at m2
       have z2:∀ n:Nat,((n:Int)=2)=(n=2):=λ n=>by apply propext;omega
       have z0:∀ n:Nat,((n:Int)=0)=(n=0):=λ n=>by apply propext;omega
       simp only[hor,CK,hc,hc0,AM,Bl,Pp,z2,z0,decide_true,decide_false,Nl,Bool.false_or,Gs,Bool.or_false];rw[Ae (by decide),Ae (by simp)];by_cases h26:c<=26
       . rw[ZbV c (by omega) (by omega)];by_cases hz:Eh (M ||| O) 2=0
         . rcases m2 hz with e|e<;>simp[h26,e,show Eh 0 2=0 by decide,show Eh 2 2=0 by decide]
         . have n0:¬ M ||| O=0:=λ e=>hz (by rw[e];decide)
           have n2:¬ M ||| O=2:=λ e=>hz (by rw[e];decide)
           simp[h26,hz,n0,n2]
       . simp[h26]
     . have hc0:c=0:=by omega
       subst hc0;simp[CK]
   . have e:∀ w,(CK w (kk,L,mc,fx,hd,on,true) (k,c,m,p)).2.2.2.2.2.2.2=true:=by
      intro w;unfold CK;simp only[Ae k2,Ae k10]
      repeat' split
      all_goals rfl
     simp[e,k10,k2]
theorem wY(x:Bg)(hw:TuX.wf Hn.h x):UN x/\Vh x=true:=by
 rw[uW,uI];obtain⟨b1,b2⟩:=ZcI x;by_cases hl:1048576<x.length
 . rw[b1,Hs hl];exact⟨⟨b2,λ _=>trivial,(λ h=>by cases h)⟩,by rw[AZ];rfl⟩
 rw[b1,Es hl];obtain⟨m1,g⟩:=vw x 5 (by omega) (by omega) (by omega);obtain⟨n1,n2,n3⟩:=vU x 18 5 (by omega) (by omega);simp only[Yz,Di,TY,Da];generalize A9 (x,5)=e at *;generalize GF (x,18,5)=k at *;have g':=g.caps true;have o0:=g.1.on0;have o1:=g.1.on1;obtain⟨kk,L,mc,fx,hd,on,cp⟩:=e;simp only at g' o0 o1 ⊢;have ea:Hm ((kk,L),D8 (fx,hd),k)=HS (kk,L,mc,fx,hd,on,true) k:=rfl
 have eP:Gz (kk,L,mc,fx,hd,on,true) k false=Dx (HS (kk,L,mc,fx,hd,on,true) k):=by unfold Gz;rw[CQ]
 simp only[ea,kT,<- eP];have hl':hd.length<=1048576:=g'.2.1.2.2.1.1;have okL:=dM fx hd hl';have okA:=(iD kk L (D8 (fx,hd)) k g'.2.1.1).2;have okT:=(iU (HS (kk,L,mc,fx,hd,on,true) k)).2.2.2;obtain⟨p1,p2,p3,p4⟩:=ZcP g' k false n2 n3;have ha:=g'.act k false n2 n3;rcases p4 with⟨_,_,_,q3,q4⟩|⟨j,_,q1,q2,q3⟩
 . have law:=ZaR kk L mc fx hd on (Gz (kk,L,mc,fx,hd,on,true) k false) ha o0 o1;have eS:CK (Ez (Gz (kk,L,mc,fx,hd,on,true) k false).2.1) (kk,L,mc,fx,hd,on,true) (Gz (kk,L,mc,fx,hd,on,true) k false)=A8 (kk,L,mc,fx,hd,on,true) k false:=rfl;rw[eS] at law;have eH:(I8 (kk,L,mc,fx,hd,on,true) k false).2.2.2.2.1=hd++[(k,(A8 (kk,L,mc,fx,hd,on,true) k false).1)]:=rfl;have eC:(I8 (kk,L,mc,fx,hd,on,true) k false).2.2.2.2.2.2=(A8 (kk,L,mc,fx,hd,on,true) k false).2.2.2.2.2.2.2:=rfl;simp only[q3,q4,eH,eC,ZaX hl'];obtain⟨l1,l2⟩:=Zby (a:=(k,(A8 (kk,L,mc,fx,hd,on,true) k false).1)) hl'
   have bi:bNot (bIff true true)=false:=by rw[AF,LU];rfl
   have bt:bNot true=false:=by rw[AF];rfl
   have bf:bNot false=true:=by rw[AF];rfl
   simp only[bi,bt,bf,CQ,law];refine⟨⟨b2,(λ h=>by cases h),λ _=>⟨m1,n1,okL,okA,okT,p2,p1,(λ h=>by cases h),λ _=>⟨(λ h=>by cases h),λ _=>⟨l1,l2,λ _=>trivial,λ _=>⟨λ _=>trivial,λ _=>⟨λ _=>trivial,λ _=>⟨λ _=>Zd6 _,λ _=>trivial⟩⟩⟩⟩⟩⟩⟩,by rw[AZ,AE];rfl⟩
 . simp only[q2,q3,q1]
   have bi:bNot (bIff false false)=false:=by rw[AF,LU];rfl
   have bf:bNot false=true:=by rw[AF];rfl
   have bg:iGe (j:Int) 0=true:=by rw[CG,Hs (by omega)]
   simp only[bi,bf,bg,Dm];refine⟨⟨b2,(λ h=>by cases h),λ _=>⟨m1,n1,okL,okA,okT,p2,p1,(λ h=>by cases h),λ _=>⟨λ _=>p3,(λ h=>by cases h)⟩⟩⟩,by rw[AZ,AE];rfl⟩
end
end
end Go.Ag
