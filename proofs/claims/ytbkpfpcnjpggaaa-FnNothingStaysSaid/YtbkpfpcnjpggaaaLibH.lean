/- Part 8 of what FnNothingStays needs. No conditions. -/
import Derived.Test.YtbkpfpcnjpggaaaLibG
namespace Go.Ag
set_option linter.unusedSimpArgs false
set_option linter.unusedVariables false
noncomputable section
section
set_option maxRecDepth 20000
def Xt(n:Nat)(a:Fz):Prop:=Br a=true/\a.1≠1/\a.1≠6/\a.1≠7/\(a.1≠9->a.2.2.2<n)
theorem gA(a:Fz):TE a=JZ a:=by
 rw[TE,XY,Lp]
theorem y4(a:Fz):Y9 a=DJ a:=by rw[Y9,e8,gA]
theorem yj(a:Fz):YY a=DH a:=by rw[YY,eS,gA]
theorem vT(a:Fz):Uo a/\UC a/\YH a/\YN a:=by
 rw[sJ,tu,YH,YN,XS];exact⟨Zm _,Zm _,P2 _,P2 _⟩
theorem uP{n:Nat}{a:Fz}(h1:Br a=true)(h2:a.1≠1)(h3:a.1≠9->a.2.2.2<n)(hn:1<=n):Xt n (DH a)/\Xt n (DJ a):=by
 obtain⟨k,c,m,p⟩:=a;have h:=(DA k c m p).1 h1;rw[eS,e8,XY,Lp,h1];simp only[AG,Bw,Az,AW,Bt,LQ] at h2 h3 ⊢;by_cases k6:k=6
 . subst k6
   have h6:1<=c/\c<=56/\1<=m/\m<=15:=by omega
   have i1:Br (2,0,m,0)=true:=(DA _ _ _ _).2 (.inr (.inl ⟨rfl,rfl,by omega,by omega,by omega,by omega,by omega⟩));have i2:Br (2,c,0,0)=true:=(DA _ _ _ _).2 (.inr (.inl ⟨rfl,rfl,by omega,by omega,by omega,by omega,by omega⟩));simp only[decide_true,Bool.true_or,G0,AK,AS,AO];exact⟨⟨i1,by simp,by simp,by simp,λ _=>by simp only;omega⟩,⟨i2,by simp,by simp,by simp,λ _=>by simp only;omega⟩⟩
 . by_cases k7:k=7
   . subst k7
     have h7:1<=c/\c<=56/\1<=p/\p<=3:=by omega
     have i1:Br (3,0,0,p)=true:=(DA _ _ _ _).2 (.inr (.inr (.inl ⟨.inl rfl,rfl,rfl,by omega,by omega⟩)));have i2:Br (2,c,0,0)=true:=(DA _ _ _ _).2 (.inr (.inl ⟨rfl,rfl,by omega,by omega,by omega,by omega,by omega⟩));have:=h3 (by omega);simp only[k6,decide_true,decide_false,Bool.or_true,G0,AK,AS,AO];exact⟨⟨i1,by simp,by simp,by simp,λ _=>this⟩,⟨i2,by simp,by simp,by simp,λ _=>by simp only;omega⟩⟩
   . simp only[k7,k6,decide_false,Bool.or_self,Bool.not_false,AO];exact⟨⟨h1,h2,k6,k7,h3⟩,⟨h1,h2,k6,k7,h3⟩⟩
theorem ZbA{a:Fz}(h:Br a=true):0<=a.2.2.2/\a.2.2.2<=3:=by
 obtain⟨k,c,m,n⟩:=a;have:=(DA k c m n).1 h;simp only;omega
theorem lZ{k:Int}{L:List (List Fz)}(hm:MapOk k L)(on key:Int)(k0:0<=key)(k1:key<k) :
 Br (I7 ((k,L),on,key))=true/\(I7 ((k,L),on,key)).1≠1/\((I7 ((k,L),on,key)).1≠9->(I7 ((k,L),on,key)).2.2.2<L.length) /\
 I7 ((k,L),on,key)=(L.getD (BM ((k,L),on,key)).toNat []).getD key.toNat (0,0,0,0):=by
 obtain⟨a1,a2,a3,_⟩:=fE hm on key k0 k1
 have e:I7 ((k,L),on,key)=(L.getD (BM ((k,L),on,key)).toNat []).getD key.toNat (0,0,0,0):=by
  rw[I7];simp only;rw[Ao,Ee (by omega),CS,A3,A3,Aw,Aw]
 rw[e]
 have hr:=hm.row (BM ((k,L),on,key)).toNat (by omega)
 obtain⟨b1,b2,b3⟩:=hm.act (BM ((k,L),on,key)).toNat key.toNat (by omega) (by omega)
 refine⟨b1,?_,b3,rfl⟩
 by_cases h:0<BM ((k,L),on,key)
 . exact(a3 h).2
 . exact b2 (by omega)
def KX(x:BP)(k:Int):Fz:=I7 ((x.1,x.2.1),El (x.2.2.2.1,x.2.2.2.2.1),k)
def KS(x:BP)(k:Int)(h:Bool):Fz:=bSel h (DH (KX x k)) (DJ (KX x k))
def Bd(x:BP)(k:Int)(h:Bool):Fz×BP:=Ey (IX (KS x k h).2.1) x (KS x k h)
def CA(x:BP)(k:Int)(h:Bool):BR:=x.2.2.2.2.1++[(k,(Bd x k h).1)]
def HL(x:BP)(k:Int)(h:Bool):List Du:=bSel (bAnd (iEq (Bd x k h).1.1 9) (iLt (Bd x k h).1.2.2.2 (lLen x.2.2.1))) (Fe (CA x k h,lGet x.2.2.1 (iNat (Bd x k h).1.2.2.2) [])) []
def PQ(x:BP)(k:Int)(h:Bool):BP:=(x.1,x.2.1,x.2.2.1,(Bd x k h).2.2.2.2.1,CA x k h,(Bd x k h).2.2.2.2.2.2)
theorem VK{x:BP}(he:EngOk x)(hs:FQ x)(k:Int)(h:Bool)(k0:0<=k)(k1:k<x.1):Xt x.2.1.length (KS x k h):=by
 have hm:=Ga hs.1 he.map;obtain⟨a1,a2,a3,_⟩:=lZ hm (El (x.2.2.2.1,x.2.2.2.2.1)) k k0 k1;obtain⟨b1,b2⟩:=uP a1 a2 a3 hm.l1;unfold KS KX;cases h
 . rw[CS];exact b2
 . rw[De];exact b1
theorem vH(w:Bool)(c:Int){m on:Nat}(cp:Bool)(h1:m<=15)(h2:on<=15):Rw w c m on cp<=15:=by
 unfold Rw;split
 . omega
 . have:=Nat.or_lt_two_pow (x:=m) (y:=on) (n:=4) (by omega) (by omega);omega
theorem yZ(w:Bool){x:BP}(n:Nat)(hn:n<=4){a:Fz}(ha:Xt n a)(on0:0<=x.2.2.2.2.2.1)(on1:x.2.2.2.2.2.1<=15)(f0:0<=x.2.2.2.1)(f2:x.2.2.2.1 % 2=0)(f1:x.2.2.2.1<((2^n:Nat):Int)) :
 (Br (Ey w x a).1=true/\(Ey w x a).1.1=a.1/\(Ey w x a).1.2.1=a.2.1/\(Ey w x a).1.2.2.2=a.2.2.2) /\
 ((Ey w x a).2.1=x.1/\(Ey w x a).2.2.1=x.2.1/\(Ey w x a).2.2.2.1=x.2.2.1/\(Ey w x a).2.2.2.2.2.1=x.2.2.2.2.1) /\
 (0<=(Ey w x a).2.2.2.2.2.2.1/\(Ey w x a).2.2.2.2.2.2.1<=15)/\0<=(Ey w x a).2.2.2.2.1/\(Ey w x a).2.2.2.2.1 % 2=0/\(Ey w x a).2.2.2.2.1<((2^n:Nat):Int):=by
 obtain⟨k,L,mc,f,hd,on,cp⟩:=x
 obtain⟨kd,c,m,p⟩:=a
 obtain⟨h1,h2,h3,h4,h5⟩:=ha
 have h:=(DA kd c m p).1 h1
 simp only at on0 on1 f0 f1 f2 h2 h3 h4 h5
 obtain⟨F,rfl⟩:=Int.eq_ofNat_of_zero_le f0
 obtain⟨O,rfl⟩:=Int.eq_ofNat_of_zero_le on0
 obtain⟨M,rfl⟩:=Int.eq_ofNat_of_zero_le (show 0<=m by omega)
 obtain⟨P,rfl⟩:=Int.eq_ofNat_of_zero_le (show 0<=p by omega)
 have hF:F<2^n:=by omega
 have h2n:2^n<=2^4:=Nat.pow_le_pow_right (by omega) hn
 have h24:(2:Nat)^4=16:=by decide
 unfold Ey
 simp only[Bn]
 by_cases k2:kd=2
 . subst k2
   by_cases hc:0<c
   . have:=vH w c cp (m:=M) (on:=O) (by omega) (by omega);simp only[AO,Ac hc]
     refine⟨⟨(DA _ _ _ _).2 (.inr (.inl ⟨rfl,by omega,by omega,by omega,by omega,by omega,by omega⟩)),?_,?_,?_⟩,⟨?_,?_,?_,?_⟩,⟨?_,?_⟩,?_,?_,?_⟩<;>first|trivial|omega
   . simp only[AO,Af hc]
     refine⟨⟨h1,?_,?_,?_⟩,⟨?_,?_,?_,?_⟩,⟨?_,?_⟩,?_,?_,?_⟩<;>first|trivial|omega
 . rw[Af k2]
   by_cases k4:kd=4
   . have hp:=h5 (by omega);obtain⟨t1,t2⟩:=Zae ⟨F,by omega⟩ ⟨P,by omega⟩ ⟨n,by omega⟩ (by simp only;omega) (by simp only;omega) (by simp only;omega) (by simp only;omega);simp only[Ac k4];simp only at t1 t2
     refine⟨⟨h1,?_,?_,?_⟩,⟨?_,?_,?_,?_⟩,⟨?_,?_⟩,?_,?_,?_⟩<;>first|trivial|omega
   . rw[Af k4];by_cases k5:kd=5
     . have hp:=h5 (by omega);obtain⟨t1,t2⟩:=Zbl ⟨P,by omega⟩ ⟨n,by omega⟩ (by simp only;omega);simp only[Ac k5];simp only at t1 t2
       refine⟨⟨h1,?_,?_,?_⟩,⟨?_,?_,?_,?_⟩,⟨?_,?_⟩,?_,?_,?_⟩<;>first|trivial|omega
     . rw[Af k5];by_cases k8:kd=8
       . have t:=jY O M;have t2:=Nat.or_lt_two_pow (x:=O) (y:=M) (n:=4) (by omega) (by omega);simp only[Ac k8]
         refine⟨⟨h1,?_,?_,?_⟩,⟨?_,?_,?_,?_⟩,⟨?_,?_⟩,?_,?_,?_⟩<;>first|trivial|omega|(split<;>omega)
       . rw[Af k8];split
         . exact⟨⟨h1,rfl,rfl,rfl⟩,⟨rfl,rfl,rfl,rfl⟩,⟨by simp only;omega,by simp only;omega⟩,by simp only;omega,by simp only;omega,by simp only;omega⟩
         . exact⟨⟨h1,rfl,rfl,rfl⟩,⟨rfl,rfl,rfl,rfl⟩,⟨by simp only;omega,by simp only;omega⟩,by simp only;omega,by simp only;omega,by simp only;omega⟩
theorem Xv(h:Bool)(a b:Fz):(bSel h a.1 b.1,bSel h a.2.1 b.2.1,bSel h a.2.2.1 b.2.2.1,bSel h a.2.2.2 b.2.2.2)=bSel h a b:=by
 cases h
 . simp only[CS]
 . simp only[De]
theorem ig{x:BP}(he:EngOk x)(hs:FQ x)(k:Int)(h:Bool)(k0:0<=k)(k1:k<x.1) :
 (Br (Bd x k h).1=true/\(Bd x k h).1.1=(KS x k h).1/\(Bd x k h).1.2.1=(KS x k h).2.1/\(Bd x k h).1.2.2.2=(KS x k h).2.2.2) /\
 ((Bd x k h).2.1=x.1/\(Bd x k h).2.2.1=x.2.1/\(Bd x k h).2.2.2.1=x.2.2.1/\(Bd x k h).2.2.2.2.2.1=x.2.2.2.2.1) /\
 (0<=(Bd x k h).2.2.2.2.2.2.1/\(Bd x k h).2.2.2.2.2.2.1<=15)/\0<=(Bd x k h).2.2.2.2.1/\(Bd x k h).2.2.2.2.1 % 2=0/\(Bd x k h).2.2.2.2.1<((2^x.2.1.length:Nat):Int):=
 yZ _ x.2.1.length (Ga hs.1 he.map).l2 (VK he hs k h k0 k1) he.on0 he.on1 he.f0 he.f2 he.f1
theorem Zaw{x:BP}(he:EngOk x)(hs:FQ x)(k:Int)(h:Bool)(k0:0<=k)(k1:k<x.1)(hn:∀ a∈x.2.2.2.2.1,a.1≠k):EngOk (PQ x k h):=by
 have hl:x.2.2.2.2.1.length<=1048576:=hs.2.2.1.1;have h32:=ZX hl he.held;have hm:=Ga hs.1 he.map;have ha:=VK he hs k h k0 k1;obtain⟨⟨s1,s2,s3,s4⟩,_,⟨s5,s6⟩,s7,s8,s9⟩:=ig he hs k h k0 k1;obtain⟨b1,b2⟩:=(OI hl).1 he.held;have hk2:=hm.k2;refine⟨he.map,he.mac,he.macs,?_,?_,s5,s6,s7,s8,s9⟩
 . refine(OI (by show (CA x k h).length<=_;unfold CA;simp;omega)).2 ⟨?_,?_⟩
   . intro a hmem;change a∈CA x k h at hmem;unfold CA at hmem;rw[CF,List.mem_singleton] at hmem;rcases hmem with hmem|rfl
     . exact b1 a hmem
     . exact⟨k0,by simp only;omega,s1,by simp only;rw[s2];exact ha.2.1,by simp only;rw[s2];exact ha.2.2.1,by simp only;rw[s2];exact ha.2.2.2.1⟩
   . show (CA x k h).Pairwise _;unfold CA;refine List.pairwise_append.2 ⟨b2,List.pairwise_singleton _ _,λ a ha b hb=>?_⟩;rw[List.mem_singleton] at hb;subst hb;exact hn a ha
 . intro a hmem;change a∈CA x k h at hmem;unfold CA at hmem;rw[CF,List.mem_singleton] at hmem;rcases hmem with hmem|rfl
   . exact he.hk a hmem
   . refine⟨k1,λ h9=>?_⟩;simp only at h9 ⊢;rw[s4];exact ha.2.2.2.2 (by rw[<- s2];exact h9)
theorem wS(x:BP)(k:Int)(h:Bool)(hs:FQ x)(hb:Ea x=false\/k<0\/x.1<=k\/0<=Cj (x,k)) :
 Oo (x,k,h)/\UQ (x,k,h)/\Ln (x,k,h)=(mN,[],false)/\U9 (x,k,h)=(mN,[],false):=by
 have hl:x.2.2.2.2.1.length<=1048576:=hs.2.2.1.1
 obtain⟨e1,e2,e3⟩:=QU x hs
 obtain⟨k1,k2⟩:=ZU (x,k) hl
 have okl:∀ y,Ec y:=λ y=>by rw[Oy];trivial
 rw[fv,UQ,fD,U9]
 unfold Lc
 simp only[VG,<- e3,Gj]
 cases he:Ea x with
 | false=>
   have c2:bNot false=true:=by rw[AG];rfl
   have c3:∀ b,bOr true b=true:=λ b=>by rw[AW];rfl
   simp only[c2,c3,De];exact⟨⟨⟨e1,λ _=>trivial,(λ h=>by cases h)⟩,λ _=>trivial,(λ h=>by cases h)⟩,⟨⟨e2,λ _=>trivial,(λ h=>by cases h)⟩,λ _=>trivial,(λ h=>by cases h)⟩,rfl,rfl⟩
 | true=>
   have hm:=Ga hs.1 ((U0 x hs).1 he).map;have hk1:=hm.k1;have hk2:=hm.k2
   have hb:k<0\/x.1<=k\/0<=Cj (x,k):=by rcases hb with hb|hb;rw[he] at hb;cases hb;exact hb
   have c1:bOr (bNot true) (bOr (bNot (decide (0<=k)&&decide (k<=iSub .i64 x.1 1))) (iGe (Cj (x,k)) 0))=true:=by
    simp only[AW,AG,CL,G0,Bool.false_or,Cm,BA,FX,Bl,Ap];rw[EF (by unfold AL;omega)];omega
   have c2:bOr (bNot true) (bOr (iLt k 0) (bOr (iGe k x.1) (iGe (Cj (x,k)) 0)))=true:=by
    simp only[AW,AG,CL,Ao,G0,Bool.false_or,Cm,Ap];omega
   simp only[c1,c2,De];exact⟨⟨⟨e1,λ _=>trivial,λ _=>⟨okl _,λ _=>trivial,λ _=>k1⟩⟩,λ _=>trivial,λ h=>by cases h⟩,⟨⟨e2,λ _=>trivial,λ _=>⟨λ _=>trivial,λ _=>⟨λ _=>trivial,λ _=>k2⟩⟩⟩,λ _=>trivial,λ h=>by cases h⟩,rfl,rfl⟩
theorem xK(x:BP)(k:Int)(h:Bool)(hs:FQ x)(he:Ea x=true)(k0:0<=k)(k1:k<x.1)(hn:Cj (x,k)<0) :
 Oo (x,k,h)/\UQ (x,k,h)/\Ln (x,k,h)=(PQ x k h,Mh (Bb x.2.2.2.2.1) (HL x k h++[Bb (CA x k h)]),true) /\
 U9 (x,k,h)=(PQ x k h,Mh (Bb x.2.2.2.2.1) (HL x k h++[Bb (CA x k h)]),true)/\JE (Bb x.2.2.2.2.1)/\JE (Bb (CA x k h))/\(∀ r∈HL x k h,JE r)/\(HL x k h).length<=1048576:=by
 have hl:x.2.2.2.2.1.length<=1048576:=hs.2.2.1.1
 have eo:=(U0 x hs).1 he
 have hm:=Ga hs.1 eo.map
 have hk1:=hm.k1
 have hk2:=hm.k2
 have hl4:=hm.l2
 have h32:=ZX hl eo.held
 obtain⟨e1,e2,e3⟩:=QU x hs
 obtain⟨q1,q2⟩:=ZU (x,k) hl
 obtain⟨c1,c2⟩:=VC x hs
 obtain⟨d1,d2⟩:=eZ x hs
 have ag:=VK eo hs k h k0 k1
 obtain⟨⟨s1,s2,s3,s4⟩,⟨s5,s6,s7,s8⟩,_⟩:=ig eo hs k h k0 k1
 have hf15:x.2.2.2.1<=15:=by
  have h2:2^x.2.1.length<=2^4:=Nat.pow_le_pow_right (by omega) hl4;have:=eo.f1;omega
 obtain⟨t1,t2,t3,t4⟩:=w9 x (KS x k h) ag.1 eo.f0 hf15 eo.on0 eo.on1
 obtain⟨_,_,_,ea⟩:=lZ hm (El (x.2.2.2.1,x.2.2.2.2.1)) k k0 k1
 obtain⟨la1,la2,_,_⟩:=fE hm (El (x.2.2.2.1,x.2.2.2.2.1)) k k0 k1
 have hv:N5 ((x.1,x.2.1),El (x.2.2.2.1,x.2.2.2.2.1),k)=BM ((x.1,x.2.1),El (x.2.2.2.1,x.2.2.2.2.1),k):=by
  rw[BM.eq_1 ((x.1,x.2.1),El (x.2.2.2.1,x.2.2.2.2.1),k)];simp only;rw[eo.map,AW,AW,AG,Ao,CL,Ee (by omega),Ee (by omega)];simp only[G0,Bool.or_self,CS]
 have S2:Ci (x,k,h)=KX x k:=by
  unfold Ci KX;simp only[gn,vA _ _ _ _ hs.1]
 have S3:BJ (x,k,h)=Bd x k h:=by
  unfold BJ;simp only[S2,c2,Xv];exact t3
 have I1:I8 (x,k,h)=BM ((x.1,x.2.1),El (x.2.2.2.1,x.2.2.2.2.1),k):=hv
 have eg:lGet (lGet x.2.1 (iNat (BM ((x.1,x.2.1),El (x.2.2.2.1,x.2.2.2.2.1),k))) []) (iNat k) (0,0,0,0)=KX x k:=by
  rw[A3,A3,Aw,Aw];exact ea.symm
 have I2:EA (x,k,h)=DJ (KX x k):=by
  unfold EA;simp only[I1,eg,y4]
 have I3:ED (x,k,h)=DH (KX x k):=by
  unfold ED;simp only[I1,eg,yj]
 have I4:BI (x,k,h)=Bd x k h:=by
  unfold BI;simp only[I2,I3,d2,Xv];exact t4
 have H:lApp (Bd x k h).2.2.2.2.2.1 [(k,(Bd x k h).1)]=CA x k h:=by rw[BB,s8];rfl
 have E:∀ z:BP,((Bd x k h).2.1,(Bd x k h).2.2.1,(Bd x k h).2.2.2.1,(Bd x k h).2.2.2.2.1,CA x k h,(Bd x k h).2.2.2.2.2.2)=PQ x k h:=λ _=>by
  unfold PQ;rw[s5,s6,s7]
 have hP:(CA x k h).length<=1048576:=by unfold CA;simp;omega
 obtain⟨r1,r2,r3,r4⟩:=Je x.2.2.2.2.1 hl
 obtain⟨u1,u2,u3,u4⟩:=Je (CA x k h) hP
 rw[r3] at r4
 rw[u3] at u4
 have S4:QA (x,k,h)=Bb (CA x k h):=by unfold QA;simp only[S3,H]
 have S5:Qs (x,k,h)=Fe (CA x k h,lGet x.2.2.1 (iNat (Bd x k h).1.2.2.2) []):=by unfold Qs;simp only[S3,H]
 have I5:Qw (x,k,h)=Bb (CA x k h):=by unfold Qw;simp only[I4,H,u3]
 have mac:bAnd (iEq (Bd x k h).1.1 9) (iLt (Bd x k h).1.2.2.2 (lLen x.2.2.1))=true->((0:Int)<=(Bd x k h).1.2.2.2/\(Bd x k h).1.2.2.2<(x.2.2.1.length:Int))/\iNat (Bd x k h).1.2.2.2<x.2.2.1.length /\
  NC (CA x k h,lGet x.2.2.1 (iNat (Bd x k h).1.2.2.2) [])/\P0 (CA x k h,lGet x.2.2.1 (iNat (Bd x k h).1.2.2.2) [])/\P1 (CA x k h,lGet x.2.2.1 (iNat (Bd x k h).1.2.2.2) [])=Fe (CA x k h,lGet x.2.2.1 (iNat (Bd x k h).1.2.2.2) []) /\
  (Fe (CA x k h,lGet x.2.2.1 (iNat (Bd x k h).1.2.2.2) [])).length<=1048576/\∀ r∈Fe (CA x k h,lGet x.2.2.1 (iNat (Bd x k h).1.2.2.2) []),JE r:=by
  intro hc
  rw[Az,Bt,Ao,An,Ah,Ap,Ap] at hc
  obtain⟨g1,g2⟩:=hc
  have h0:0<=(Bd x k h).1.2.2.2:=(ZbA s1).1
  have hi:iNat (Bd x k h).1.2.2.2<x.2.2.1.length:=by rw[Aw];omega
  have hlen:=(hs.2.1.2 _ (DP x.2.2.1 (iNat (Bd x k h).1.2.2.2) [] hi)).1
  rw[<- A3] at hlen
  obtain⟨m1,m2,m3,m4,m5⟩:=oU (CA x k h) (lGet x.2.2.1 (iNat (Bd x k h).1.2.2.2) []) hP hlen
  exact⟨⟨h0,g2⟩,hi,m1,m2,m3,m4,m5⟩
 have I6:bSel (bAnd (iEq (Bd x k h).1.1 9) (iLt (Bd x k h).1.2.2.2 (lLen x.2.2.1))) (Qq (x,k,h)) []=HL x k h:=by
  unfold HL
  cases hb:bAnd (iEq (Bd x k h).1.1 9) (iLt (Bd x k h).1.2.2.2 (lLen x.2.2.1)) with
  |false=>rw[CS,CS]
  | true=>
    rw[De,De];unfold Qq;simp only[I4,H];exact(mac hb).2.2.2.2.1
 have mS:(HL x k h).length<=1048576/\∀ r∈HL x k h,JE r:=by
  unfold HL
  cases hb:bAnd (iEq (Bd x k h).1.1 9) (iLt (Bd x k h).1.2.2.2 (lLen x.2.2.1)) with
  |false=>rw[CS];exact⟨by simp,by simp⟩
  |true=>rw[De];exact(mac hb).2.2.2.2.2
 have M:bSel (bAnd (iEq (Bd x k h).1.1 9) (iLt (Bd x k h).1.2.2.2 (lLen x.2.2.1))) (Fe (CA x k h,lGet x.2.2.1 (iNat (Bd x k h).1.2.2.2) [])) []=HL x k h:=rfl
 obtain⟨g1,g2,g3,g4⟩:=fT (Bb x.2.2.2.2.1) (HL x k h++[Bb (CA x k h)]) r4 (by have:=mS.1;simp;omega) (by
  intro r hr
  rw[CF,List.mem_singleton] at hr
  rcases hr with hr|rfl
  . exact mS.2 r hr
  . exact u4)
 have hroom1:As ((x.2.2.2.2.1.length+[(k,(Bd x k h).1)].length)*5):=by unfold As;simp only[AH,AJ];omega
 have hroom2:As (((HL x k h).length+[Bb (CA x k h)].length)*2):=by have:=mS.1;unfold As;simp only[AH,AJ];omega
 obtain⟨th1,th2,th3,th4⟩:=vT (KX x k)
 have okl:∀ y,Ec y:=λ y=>by rw[Oy];trivial
 have ola:=gU x.1 x.2.1 (El (x.2.2.2.1,x.2.2.2.2.1)) k hs.1
 have bs:bOr (bNot true) (bOr (bNot (decide (0<=k)&&decide (k<=iSub .i64 x.1 1))) (iGe (Cj (x,k)) 0))=false:=by
  rw[EF (by unfold AL;omega),AW,AW,AG,AG,CL,Ii (by omega),Ii (by omega),Ee (by omega)];rfl
 have bi:bOr (bNot true) (bOr (iLt k 0) (bOr (iGe k x.1) (iGe (Cj (x,k)) 0)))=false:=by
  rw[AW,AW,AW,AG,Ao,CL,CL,Ee (by omega),Ee (by omega),Ee (by omega)];rfl
 have S1:Lc (x,k,h)=(decide (0<=k)&&decide (k<=iSub .i64 x.1 1)):=by unfold Lc;rw[Gj]
 refine⟨?_,?_,?_,?_,r4,u4,mS.2,mS.1⟩
 . rw[fv]
   simp only[VG,<- e3,he,S1,S2,S3,S4,S5,H,M,bs,c2,Xv,gn];refine⟨⟨e1,λ _=>trivial,λ _=>⟨okl _,λ _=>trivial,λ _=>q1⟩⟩,(λ h=>by cases h),λ _=>⟨c1,ny _ _ hl,(vm _ _ _ _ hs.1).1,⟨λ _=>th1,λ _=>th2⟩,t1,by rw[s8];exact hroom1,⟨λ hc=>⟨(mac hc).1,(mac hc).2.1,(mac hc).2.2.1⟩,λ _=>trivial⟩,u1,hroom2,r1,by rw[BB];exact g1,trivial,trivial,trivial⟩⟩
 . rw[UQ,fq]
   have hrow:=hm.row (BM ((x.1,x.2.1),El (x.2.2.2.1,x.2.2.2.2.1),k)).toNat (by omega)
   have okA:T9 ((x.1,x.2.1),El (x.2.2.2.1,x.2.2.2.2.1),k):=by
    have:=ola.2;rw[T6.eq_1] at this;refine this.2.2 ?_;simp only;rw[eo.map,AW,AW,AG,Ao,CL,Ee (by omega),Ee (by omega)];rfl
   simp only[he,bi,I1,eg,I2,I3,I4,I5,I6,H,d2,Xv,r3];refine⟨⟨e2,λ _=>trivial,λ _=>⟨λ _=>trivial,λ _=>⟨λ _=>trivial,λ _=>q2⟩⟩⟩,(λ h=>by cases h),λ _=>⟨d1,dz _ _ hl,okA,⟨la1,la2⟩,by rw[Aw];omega,⟨k0,?_⟩,?_,⟨λ _=>th3,λ _=>th4⟩,t2,by rw[s8];exact hroom1,⟨λ hc=>⟨(mac hc).1,(mac hc).2.1,(mac hc).2.2.2.1⟩,λ _=>trivial⟩,u2,hroom2,r2,by rw[BB];exact g2,trivial,trivial,trivial⟩⟩
   . rw[A3,Aw];omega
   . rw[A3,Aw,Aw];omega
 . rw[fD]
   simp only[VG,<- e3,he,S1,S3,S4,S5,H,M,bs,CS,BB,g3,E x]
 . rw[U9,Y3]
   simp only[he,bi,I4,I5,I6,H,CS,BB,r3,g4,E x]
end
section
set_option maxRecDepth 20000
theorem Zba {c:BR×Int->Bool} {f:BR×Int->BR×Int} (x:CU) (hok:∀ i,i<x.length->KZ (BQ x i) (x.getD i (0,0,0)))
 (hc:∀ (dn:BR) (i:Nat),i<x.length->KZ dn (x.getD i (0,0,0))->c (dn,(i:Int))=true) (hf:∀ (dn:BR) (i:Nat),i<x.length->f (dn,(i:Int))=(Ev dn (x.getD i (0,0,0)),(i:Int)+1))
 (hn:∀ dn:BR,c (dn,(x.length:Int))=false):Al c f ([],0)=(BQ x x.length,(x.length:Int)):=
 (Ho (p:=λ _=>True) x.length (λ i=>(BQ x i,(i:Int))) (x0:=([],0)) rfl (λ i hi=>⟨trivial,hc _ i hi (hok i hi),by rw[hf _ i hi,<- O4 x hi];simp⟩) ⟨trivial,hn _⟩).2
theorem vX(x:CU)(h8:x.length<=8)(h0:BQ x x.length=[])(hok:∀ i,i<x.length->KZ (BQ x i) (x.getD i (0,0,0))):F5 x=true:=by
 rw[Yt,Zba x hok (λ dn i hi hk=>by
  obtain⟨k1,k2,k3,k4⟩:=hk;simp only[An,A3,Aw,Bn,Mp,Lp,Gj,Az,AG,AW,RB,Ao,Bt,CL];rw[Ii (show (i:Int)<(x.length:Int) by omega),k3,Ii k1,Ii k2];have e:decide ((x.getD i (0,0,0)).1=2)=decide (0<=B5 (dn,(x.getD i (0,0,0)).1,(x.getD i (0,0,0)).2.1,(x.getD i (0,0,0)).2.2)):=decide_eq_decide.2 k4
  rw[e];simp) (λ dn i hi=>by
  simp only[A3,Aw,Bn,Mp,Bw,Bt,Ap,BB];rw[Bs (by unfold AL;omega)]
  rfl) (λ dn=>by simp only[An,Az,Ao];rw[Ee (by omega)];rfl)]
 rw[h0,An,An,Az,Az,AG,Ao,DQ,Bt,Ee (show ¬ (x.length:Int)<(x.length:Int) by omega),Ii (show (x.length:Int)<=8 by omega)];rfl
def RunOk(x:CU):Prop:=BQ x x.length=[]/\∀ i,i<x.length->KZ (BQ x i) (x.getD i (0,0,0))
theorem j6(a b:CU)(h:BQ a a.length=[])(i:Nat)(hi:i<=b.length):BQ (a++b) (a.length+i)=BQ b i:=by
 unfold BQ at h ⊢;rw[Hw] at h;rw[List.take_append,Pu (by omega),List.foldl_append,h,show a.length+i-a.length=i by omega]
theorem RunOk.app{a b:List CR}(ha:RunOk a)(hb:RunOk b):RunOk (a++b):=by
 refine⟨by rw[Cz,j6 a b ha.1 _ (BN _)];exact hb.1,λ i hi=>?_⟩;rw[Cz] at hi;by_cases h:i<a.length
 . have e:BQ (a++b) i=BQ a i:=by unfold BQ;rw[List.take_append_of_le_length (by omega)]
   rw[e,D3,Bz h,<- D3];exact ha.2 i h
 . obtain⟨j,rfl⟩:∃ j,i=a.length+j:=⟨i-a.length,by omega⟩;rw[j6 a b ha.1 j (by omega),D3,Dd (by omega),show a.length+j-a.length=j by omega,<- D3];exact hb.2 j (by omega)
theorem RunOk.nil:RunOk []:=⟨rfl,λ i h=>by simp at h⟩
theorem ZW(s:CR):B5 ([],s)=-1:=by
 rcases V7 [] s (by simp) with h|h
 . exact h
 . simp at h;omega
theorem uY(a:E0)(k c m:Int)(h:(a.2.2.1,a.2.2.2.1)≠(c,m)):B5 ([a],k,c,m)=-1:=by
 rw[MR,Y4 _ _ (by simp)]
 have e:CP (λ i=>decide (([a].map Bh).getD i (0,0)=(c,m))) ([a].map Bh).length 0=1:=by
  show CP _ 1 0=1;unfold CP;have:decide (([a].map Bh).getD 0 (0,0)=(c,m))=false:=Ee h;rw[this];rfl
 rw[e,Af (by simp)]
theorem RunOk.tap(c m:Int)(h:Br (2,c,m,0)=true):RunOk [(0,c,m)]:=by
 have e0:BQ [(0,c,m)] 0=[]:=rfl
 have e1:BQ [(0,c,m)] 1=[]:=by show Ev [] (0,c,m)=[];unfold Ev;simp
 refine⟨e1,λ i hi=>?_⟩
 have:i=0:=by simp at hi;omega
 subst this;rw[e0];refine⟨by simp,by simp,h,?_⟩;show (0:Int)=2↔0<=B5 ([],(0,c,m));rw[ZW];omega
theorem RunOk.hold(c m c2:Int)(h:Br (2,c,m,0)=true)(h2:Br (2,c2,8,0)=true)(hm:m≠8):RunOk [(1,c,m),(0,c2,8),(2,c,m)]:=by
 have e0:BQ [(1,c,m),(0,c2,8),(2,c,m)] 0=[]:=rfl
 have e1:BQ [(1,c,m),(0,c2,8),(2,c,m)] 1=[mA (1,c,m)]:=by show Ev [] (1,c,m)=_;unfold Ev;simp
 have e2:BQ [(1,c,m),(0,c2,8),(2,c,m)] 2=[mA (1,c,m)]:=by
  rw[O4 _ (by simp),e1];show Ev [mA (1,c,m)] (0,c2,8)=_;unfold Ev;simp
 have f2:B5 ([mA (1,c,m)],(2,c,m))=0:=by
  have:=iJ [] (2,c,m) (by simp) (by rw[ZW];decide);exact this
 have e3:BQ [(1,c,m),(0,c2,8),(2,c,m)] 3=[]:=by
  rw[O4 _ (by simp),e2];show Ev [mA (1,c,m)] (2,c,m)=_;unfold Ev;rw[Af (by simp),Ac rfl,f2];exact fL [] (mA (1,c,m)) (by simp)
 refine⟨e3,λ i hi=>?_⟩
 have hi:i=0\/i=1\/i=2:=by simp at hi;omega
 rcases hi with rfl|rfl|rfl
 . rw[e0];refine⟨by simp,by simp,h,?_⟩;show (1:Int)=2↔0<=B5 ([],(1,c,m));rw[ZW];omega
 . rw[e1];refine⟨by simp,by simp,h2,?_⟩;show (0:Int)=2↔0<=B5 ([mA (1,c,m)],(0,c2,8));rw[uY _ _ _ _ (by simp[mA];intro _;exact hm)];omega
 . rw[e2];refine⟨by simp,by simp,h,?_⟩;show (2:Int)=2↔0<=B5 ([mA (1,c,m)],(2,c,m));rw[f2];omega
theorem yw(c:CB)(h:B1 c):N8 c/\RunOk (Jc c).1/\(Jc c).1.length<=6/\B1 (c.1,(Jc c).2):=by
 rw[sY,sH];obtain⟨a1,a2,_,a4⟩:=Fo c 3 h;have a4:=a4 (by omega)
 have key:=O6 (c:=Qn) (f:=Qb c) (p:=X6 c)
  (λ st=>B1 (c.1,st.2.2)/\RunOk st.1/\0<=st.2.1/\st.2.1<=2/\(st.1.length:Int)+3*st.2.1<=6) (λ st=>st.2.1.toNat) (λ st hI=>?_) (x0:=([],Aq (c,3))) ⟨a2,RunOk.nil,by simp only;omega,by simp only;omega,by simp only[AJ];omega⟩
 . obtain⟨k1,⟨k2,k3,k4,_,k5⟩,_⟩:=key;exact⟨⟨a1,k1⟩,k3,by simp only;omega,k2⟩
 . obtain⟨l,n,q⟩:=st;obtain⟨h1,h2,h3,h4,h5⟩:=hI;simp only at h1 h2 h3 h4 h5;obtain⟨b1,b2,_,b4⟩:=Fo (c.1,q) 56 h1;have b4:=b4 (by omega);obtain⟨p1,p2,p3⟩:=zL (c.1,(Aq ((c.1,q),56)).2) [0,0,2,1] (by simp) b2;obtain⟨o1,o2⟩:=Wn (c.1,(Dj ((c.1,(Aq ((c.1,q),56)).2),[0,0,2,1])).2) 2 p2;simp only[Qn,Qb,X6];generalize Aq ((c.1,q),56)=B at b2 b4 p1 p2 p3 o1 o2 ⊢;generalize Dj ((c.1,B.2),[0,0,2,1])=P at p2 p3 o1 o2 ⊢;generalize Ct ((c.1,P.2),2)=O at o2 ⊢;have eB:iAdd .i64 1 B.1=1+B.1:=Bs (by unfold AL;omega)
   have eL:iSub .i64 (iSub .i64 60 (lLen l)) 10=50-(l.length:Int):=by
    have e1:iSub .i64 60 (l.length:Int)=60-(l.length:Int):=EF (by unfold AL;omega);rw[An,e1,EF (by unfold AL;omega)];omega
   have hP:P.1=0\/P.1=2\/P.1=1:=by simpa using p3
   simp only[eB,eL,CG,BB,Ap,Bl];refine⟨⟨λ _=>⟨b1,p1,o1,λ _=>(by unfold As;simp only[AH,AJ];omega),λ _=>(by unfold As;simp only[AH,AJ];omega)⟩,λ _=>trivial⟩,λ hn=>?_⟩;have es:iSub .i64 n 1=n-1:=EF (by unfold AL;omega);rw[es];have act1:Br (2,1+B.1,P.1,0)=true:=(DA _ _ _ _).2 (by omega)
   have hl:(l.length:Int)<=3:=by omega
   have act2:Br (2,50-(l.length:Int),8,0)=true:=(DA _ _ _ _).2 (by omega);refine⟨⟨?_,?_,by omega,by omega,?_⟩,by omega⟩
   . simp only[Bw,ite_self];exact o2
   . rw[Bw];split
     . exact h2.app (RunOk.tap _ _ act1)
     . exact h2.app (RunOk.hold _ _ _ act1 act2 (by omega))
   . rw[Bw];split<;>simp only[Cz,AH,AJ]<;>omega
end
section
set_option maxRecDepth 20000
theorem jl(c:CB)(e:BP):C0 (c,e)=BW c/\I9 (c,e)=H5 c:=by
 rw[qw,eW,qp,eT];exact⟨rfl,rfl⟩
theorem yB(c:CB)(e:BP)(n:Int):Oe (c,e,n)=Ct (c,n)/\NZ (c,e,n)=Ke (c,n):=by
 rw[qI,eJ,qk,eF,pz,ed,pR,dX];simp only[λ c=>(jl c e).1,λ c=>(jl c e).2];exact⟨trivial,trivial⟩
def EngG(k:Int)(x:BP):Prop:=EngOk x/\FQ x/\x.1=k
theorem bh{l:BR}(h:l.length<=1048576):O2 l:=⟨h,λ _ _=>⟨trivial,trivial⟩⟩
theorem EngG.hl{k:Int}{x:BP}(h:EngG k x):x.2.2.2.2.1.length<=32:=ZX h.2.1.2.2.1.1 h.1.held
theorem EngG.is{k:Int}{x:BP}(h:EngG k x):Ea x=true:=(U0 x h.2.1).2 h.1
theorem EngG.press{k:Int}{x:BP}(g:EngG k x)(key:Int)(h:Bool)(k0:0<=key)(k1:key<k)(hn:Cj (x,key)<0):EngG k (PQ x key h):=by
 obtain⟨g1,g2,g3⟩:=g;have hl:x.2.2.2.2.1.length<=32:=EngG.hl ⟨g1,g2,g3⟩
 have hne:∀ a∈x.2.2.2.2.1,a.1≠key:=by
  rcases Y7 x key g2.2.2.1.1 with⟨_,h2⟩|⟨i,_,h2,_⟩
  . exact h2
  . omega
 refine⟨Zaw g1 g2 key h k0 (by omega) hne,⟨g2.1,g2.2.1,bh ?_,trivial⟩,g3⟩;show (CA x key h).length<=_;unfold CA;simp only[Cz,AH,AJ];omega
theorem EngG.rel{k:Int}{x:BP}(g:EngG k x)(i:Nat):EngG k (x.1,x.2.1,x.2.2.1,x.2.2.2.1,x.2.2.2.2.1.eraseIdx i,x.2.2.2.2.2):=by
 obtain⟨g1,g2,g3⟩:=g;have hl:x.2.2.2.2.1.length<=1048576:=g2.2.2.1.1;exact⟨g1.rel hl i,⟨g2.1,g2.2.1,bh (Jq (List.eraseIdx_sublist x.2.2.2.2.1 i).length_le hl),trivial⟩,g3⟩
theorem yC{k:Int}{x:BP}(g:EngG k x)(key:Int)(h:Bool)(k0:0<=key)(k1:key<k) :
 Oo (x,key,h)/\((Ln (x,key,h)).2.2=true/\EngG k (Ln (x,key,h)).1\/(Ln (x,key,h)).2.2=false/\Qx (x,key)/\EngG k (QE (x,key)).1):=by
 have hs:=g.2.1
 have hk:=g.2.2
 rcases Y7 x key hs.2.2.1.1 with⟨h1,h2⟩|⟨i,h1,h2,_⟩
 . obtain⟨p1,_,p3,_⟩:=xK x key h hs g.is k0 (by omega) (by omega)
   refine⟨p1,.inl ?_⟩;rw[p3];exact⟨rfl,g.press key h k0 k1 (by omega)⟩
 . obtain⟨p1,_,p3,_⟩:=wS x key h hs (.inr (.inr (.inr (by omega))))
   obtain⟨r1,_,r3,_⟩:=gm x key hs g.is i h1 h2;refine⟨p1,.inr ?_⟩;rw[p3,r3];exact⟨rfl,r1,g.rel i⟩
theorem y8(c:CB)(k:Int)(h:B1 c)(k1:1<=k)(k2:k<=32):Om (c,k)/\EngG k (AM (c,k)).1/\B1 (c.1,(AM (c,k)).2):=by
 rw[tN,tC];obtain⟨a1,a2,_,a4⟩:=Fo c 4 h;have a4:=a4 (by omega)
 have key:=O6 (c:=I0) (f:=IZ (c,k)) (p:=Yx (c,k))
  (λ st=>B1 (c.1,st.2.2)/\(∀ m∈st.1,RunOk m/\m.length<=6)/\0<=st.2.1/\(st.1.length:Int)+st.2.1<=3) (λ st=>st.2.1.toNat) (λ st hI=>?_) (x0:=([],Aq (c,4))) ⟨a2,λ m hm=>by simp at hm,by simp only;omega,by simp only[AJ];omega⟩
 . obtain⟨q1,⟨q2,q3,q4,q5⟩,_⟩:=key;generalize Al I0 (IZ (c,k)) ([],Aq (c,4))=st at *;obtain⟨d1,d2,d3,d4⟩:=zj (c.1,st.2.2) k q2 k1 k2;simp only at d1 d2 d3 d4 ⊢;generalize H7 ((c.1,st.2.2),k)=M at d2 d3 d4 ⊢;obtain⟨⟨kk,L⟩,cu⟩:=M;simp only at d2 d3 d4 ⊢;subst d4;have hk:Gd (kk,L):=ZaZ d3;have hm:ME st.1:=⟨by omega,λ m hm=>⟨by have:=(q3 m hm).2;omega,λ _ _=>trivial⟩⟩;obtain⟨n1,_,_,n4⟩:=uj kk L st.1 hk hm;have hs:FQ (kk,L,st.1,0,[],0,false):=⟨hk,hm,bh (by simp),trivial⟩
   have ok:EngOk (kk,L,st.1,0,[],0,false):=by
    refine⟨jK d3,by simp only;omega,λ m hm'=>?_,(OI (by simp)).2 ⟨by simp,by simp⟩,by simp,by simp,by simp,by simp,by simp,?_⟩
    . obtain⟨r1,r2⟩:=q3 m hm';rw[<- Zk m (by omega)];exact vX m (by omega) r1.1 r1.2
    . have:=Nat.two_pow_pos L.length;simp only;omega
   have e1:NX ((kk,L),st.1)=((kk,L,st.1,0,[],0,false),true):=by
    obtain⟨_,_,c3⟩:=QU _ hs;have:=(U0 _ hs).2 ok;rw[c3] at this;rw[dD];simp only[this,(VC _ hs).2];rw[show bNot true=false by rw[AG];rfl,CS]
   refine⟨⟨a1,q1,d1,n1⟩,?_,d2⟩;rw[e1];exact⟨ok,hs,rfl⟩
 . obtain⟨l,n,q⟩:=st;obtain⟨h1,h2,h3,h4⟩:=hI;simp only at h1 h2 h3 h4;obtain⟨b1,b2,b3,b4⟩:=yw (c.1,q) h1;simp only[I0,IZ,Yx,CG,BB,Ap];refine⟨⟨λ _=>⟨b1,by unfold As;simp only[AH,AJ];omega⟩,λ _=>trivial⟩,λ hn=>?_⟩;have es:iSub .i64 n 1=n-1:=EF (by unfold AL;omega);rw[es];refine⟨⟨b4,λ m hm=>?_,by omega,by simp only[Cz,AH,AJ];omega⟩,by omega⟩;rw[CF,List.mem_singleton] at hm;rcases hm with hm|rfl
   . exact h2 m hm
   . exact⟨b2,b3⟩
theorem wW(c:CB)(k:Int)(h:B1 c)(k1:1<=k)(k2:k<=32):N6 (c,k)/\EngG k (My (c,k)).1/\B1 (c.1,(My (c,k)).2):=by
 rw[sr,sk];obtain⟨n1,n2,n3⟩:=y8 c k h k1 k2;simp only[Ei];generalize AM (c,k)=N at n2 n3 ⊢;obtain⟨e,cu⟩:=N;simp only at n2 n3 ⊢;obtain⟨b1,b2,_,b4⟩:=Fo (c.1,cu) 8 n3;have b4:=b4 (by omega)
 have key:=O6 (c:=HR) (f:=HU (c,k)) (p:=X8 (c,k))
  (λ st=>B1 (c.1,st.2.2.2.2.2.2.2.2)/\EngG k (st.2.1,st.2.2.1,st.2.2.2.1,st.2.2.2.2.1,st.2.2.2.2.2.1,st.2.2.2.2.2.2.1,st.2.2.2.2.2.2.2.1)/\0<=st.1/\st.1<=8) (λ st=>st.1.toNat) (λ st hI=>?_)
  (x0:=((Aq ((c.1,cu),8)).1,e.1,e.2.1,e.2.2.1,e.2.2.2.1,e.2.2.2.2.1,e.2.2.2.2.2.1,e.2.2.2.2.2.2,(Aq ((c.1,cu),8)).2)) ⟨b2,n2,by simp only;omega,by simp only;omega⟩
 . obtain⟨q1,⟨q2,q3,_⟩,_⟩:=key;exact⟨⟨n1,b1,q1⟩,q3,q2⟩
 . obtain⟨n,kk,L,mc,fx,hd,on,cp,q⟩:=st;obtain⟨h1,h2,h3,h4⟩:=hI;simp only at h1 h2 h3 h4;obtain⟨p1,p2,_,p4⟩:=Fo (c.1,q) k h1;have p4:=p4 (by omega);obtain⟨o1,o2⟩:=Wn (c.1,(Aq ((c.1,q),k)).2) 2 p2;obtain⟨oq1,oq2⟩:=yB (c.1,(Aq ((c.1,q),k)).2) (0,[],[],0,[],0,false) 2;obtain⟨s1,s2⟩:=yC h2 (Aq ((c.1,q),k)).1 (Ct ((c.1,(Aq ((c.1,q),k)).2),2)).1 p4.1 p4.2;simp only[HR,HU,X8,Mr,TG,K9,EN,oq1,oq2,CG,Ap];generalize Aq ((c.1,q),k)=B at *;generalize Ct ((c.1,B.2),2)=O at *
   have es:0<n->iSub .i64 n 1=n-1:=λ _=>EF (by unfold AL;omega)
   rcases s2 with⟨t1,t2⟩|⟨t1,t2,t3⟩
   . rw[t1]
     have e0:bNot true=false:=by rw[AG];rfl
     simp only[e0,CS];refine⟨⟨λ _=>⟨p1,o1,s1,(λ h=>by cases h),λ _=>trivial⟩,λ _=>trivial⟩,λ hn=>?_⟩;rw[es hn];exact⟨⟨o2,t2,by omega,by omega⟩,by omega⟩
   . rw[t1]
     have e0:bNot false=true:=by rw[AG];rfl
     simp only[e0,De];refine⟨⟨λ _=>⟨p1,o1,s1,λ _=>t2,λ _=>trivial⟩,λ _=>trivial⟩,λ hn=>?_⟩;rw[es hn];exact⟨⟨o2,t3,by omega,by omega⟩,by omega⟩
theorem tV(x:A5)(k:Int)(h:x.length<=1048576)(k1:1<=k)(k2:k<=32):Ti (x,k)/\EngG k (Cp (x,k)):=by
 rw[n5,od];obtain⟨a1,a2⟩:=ir x 7 h;obtain⟨b1,b2,_⟩:=wW (Jb (x,7)) k a2 k1 k2;exact⟨⟨a1,b1⟩,b2⟩
end
section
set_option maxRecDepth 20000
theorem EngG.fix{k:Int}{x:BP}(g:EngG k x):0<=x.2.2.2.1/\x.2.2.2.1<=15:=by
 have h2:2^x.2.1.length<=2^4:=Nat.pow_le_pow_right (by omega) (Ga g.2.1.1 g.1.map).l2;have:=g.1.f1;have:=g.1.f0;omega
theorem EngG.caps{k:Int}{x:BP}(g:EngG k x)(b:Bool):EngG k (x.1,x.2.1,x.2.2.1,x.2.2.2.1,x.2.2.2.2.1,x.2.2.2.2.2.1,b):=by
 obtain⟨⟨a1,a2,a3,a4,a5,a6,a7,a8,a9,a10⟩,g2,g3⟩:=g;exact⟨⟨a1,a2,a3,a4,a5,a6,a7,a8,a9,a10⟩,g2,g3⟩
theorem EngG.act{k:Int}{x:BP}(g:EngG k x)(key:Int)(h:Bool)(k0:0<=key)(k1:key<k):Br (KS x key h)=true:=(VK g.1 g.2.1 key h k0 (by have:=g.2.2;omega)).1
end
section
set_option maxRecDepth 8000
def nc:DCode:=(.seq [0] (.region [oa 0 2 (.mv Ar)]) (.seq [0] (.seq [12,0] (.region [on 0 11 0,oF 1 12 Kt [(.t 11)]]) (.cond (.t 12) (.seq [2] (.region [oa 0 2 (.mv A7)]) .ret) .skip)) (.seq [3,0] (.region [on 0 13 0,oF 1 14 JV [(.t 13),(.c (.int .i64 6))],oa 2 3 (.allocB 0 [Ab,.nils,.nils,Ab,.nils,Ab,CW]),os 3 (.storeB 0 7 (.t 3) (.t 14))]) (.seq [4,3,0] (.region [⟨0,some 15,.fzb (.t 3) (.fieldA 4 (.t 3)),none,[]⟩,oa 1 16 (.loadB 0 none (.t 15)),oF 2 17 GD [(.t 16)],oa 3 4 (.allocB 1 [Ab,.nils]),os 4 (.storeB 1 2 (.t 4) (.t 17))]) (.seq [5,4,3,0] (.region [⟨0,some 18,.fzb (.t 4) (.loadB 0 (some 7) (.t 3)),none,[]⟩,oa 1 5 (.allocB 2 [Ab,.nils,.nils,Ab,.nils,Ab,CW]),os 2 (.storeB 2 7 (.t 5) (.t 18))]) (.seq [5,4,3] (.seq [6,5,4,3,0] (.region [oi 0 6 0]) (.block 0 (.loop [0,3,4,5,6] 1 (.seq [6,5,4,3,0] (.seq [26,6,5,4,3,0] (.region [oa 0 19 (.fieldA 4 (.t 5)),oa 1 20 (.loadB 2 none (.t 19)),oa 2 21 (.len (.t 20)),oa 3 22 (.bin .gtr (.t 21) AE),om 4 23 22,og 5 24 (.mv (.t 6)) 23 true,og 6 25 (.bin .lss (.t 24) (.c (.int .i64 40))) 23 true,oa 7 26 (.pick (.t 23) (.t 25) Ar)]) (.cond (.t 26) .skip (.exit 0))) (.seq [6,5,4,3,0] (.scope (.block 1 (.seq [7,6,5,4,3,0] (.region [on 0 29 0,om 1 30 6,oa 2 31 (.bin .add (.c (.int .i64 16)) (.t 30)),oa 3 32 (.fieldA 4 (.t 5)),oa 4 33 (.loadB 2 none (.t 32)),oa 5 34 (.len (.t 33)),oF 6 35 JS [(.t 29),(.t 31),(.t 34)],om 7 7 35]) (.seq [10,9,8,6,5,4,3,0] (.region [oa 12 8 (.allocH [Ab,.nils,.nils,Ab,.nils,Ab,CW]),oa 0 37 (.loadB 2 (some 7) (.t 5)),oa 1 38 (.fieldA 4 (.t 5)),xA 2 39 (.loadB 2 none (.t 38)) [1],om 3 40 7,xA 4 41 (.indexA 5 (.t 39) (.t 40)) [1,2,3],xA 5 42 (.fieldA 0 (.t 41)) [1,2,3,4],xA 6 43 (.loadH none (.t 42)) [1,2,3,4,5],xF 7 44 Kf [(.t 37),(.t 43)] (rg 7),xA 8 36 (.mv (.t 44)) (rg 8),xA 9 45 (.extract (.t 36) 0) (rg 9),xA 10 46 (.extract (.t 36) 1) [0,1,2,3,4,5,6,7,8],xA 11 47 (.extract (.t 36) 2) [0,1,2,3,4,5,6,7,8],xS 13 (.storeH 7 (.t 8) (.t 45)) [0,1,2,3,4,5,6,7,8,9,12],xB 14 9 (.mv (.t 46)) [0,1,2,3,4,5,6,7,8,9,10,12,13],xA 15 10 (.mv (.t 47)) (rg 15)]) (.seq [9,8,6,5,4,3,0] (.seq [64,9,8,6,5,4,3,0] (.region [om 0 48 10,oa 1 49 (.un .not (.t 48)),om 2 50 49,⟨3,some 51,.a true (.mv (.t 9)) none,(some (50,false)),[]⟩,og 4 52 (.len (.t 51)) 50 false,og 5 53 (.bin .gtr (.t 52) Av) 50 false,oa 6 54 (.pick (.t 50) A7 (.t 53)),om 7 55 54,og 8 56 (.fieldA 4 (.t 8)) 55 false,og 9 57 (.loadH none (.t 56)) 55 false,og 10 58 (.len (.t 57)) 55 false,og 11 59 (.fieldA 4 (.t 5)) 55 false,og 12 60 (.loadB 2 none (.t 59)) 55 false,og 13 61 (.len (.t 60)) 55 false,og 14 62 (.bin .sub (.t 61) Av) 55 false,og 15 63 (.bin .neq (.t 58) (.t 62)) 55 false,oa 16 64 (.pick (.t 55) A7 (.t 63))]) (.cond (.t 64) (.seq [2] (.region [oa 0 2 (.mv Ar)]) .ret) .skip)) (.seq [8,6,5,4,3,0] (.seq [67,9,8,6,5,4,3,0] (.region [on 0 65 9,oa 1 66 (.len (.t 65)),oa 2 67 (.bin .eql (.t 66) Av)]) (.cond (.t 67) (.seq [9,8,6,5,4,3,0] (.seq [72,9,8,6,5,4,3,0] (.region [on 0 68 9,xA 1 69 (.indexA 2 (.t 68) AE) (rg 1),xA 2 70 (.loadH (some 2) (.t 69)) (rg 2),oa 3 71 (.loadB 1 (some 2) (.t 4)),xF 4 72 FI [(.t 70),(.t 71)] (rg 4)]) (.cond (.t 72) (.seq [2] (.region [oa 0 2 (.mv Ar)]) .ret) .skip)) (.region [on 0 73 9,oa 1 74 (.indexA 2 (.t 73) AE),ob 2 75 (.loadH (some 2) (.t 74)),os 3 (.storeB 1 2 (.t 4) (.t 75))])) .skip)) (.region [ob 0 76 (.loadH (some 7) (.t 8)),os 1 (.storeB 2 7 (.t 5) (.t 76))]))))))) (.region [om 0 27 6,oa 1 28 (.bin .add (.t 27) Av),om 2 6 28])))))) (.seq [2] (.region [oa 0 77 (.fieldA 4 (.t 5)),xA 1 78 (.loadB 2 none (.t 77)) (rg 1),xA 2 79 (.len (.t 78)) (rg 2),xA 3 80 (.bin .eql (.t 79) AE) (rg 3),xA 4 81 (.mv (.t 80)) (rg 4),⟨5,some 82,.a false (.loadB 1 (some 2) (.t 4)) none,(some (81,true)),[0,1,2,3,4]⟩,⟨6,some 83,.a false (.build [Ab,.nils] []) none,(some (81,true)),[0,1,2,3,4]⟩,⟨7,some 84,.call false FI.S FI.P FI.D [(.t 82),(.t 83)],(some (81,true)),[0,1,2,3,4,5,6]⟩,xA 8 85 (.pick (.t 81) (.t 84) Ar) (rg 8),xA 9 86 (.mv (.t 85)) (rg 9),⟨10,some 87,.a false (.fieldA 3 (.t 5)) none,(some (86,true)),[0,1,2,3,4,5,6,7,8,9]⟩,⟨11,some 88,.a false (.loadB 2 none (.t 87)) none,(some (86,true)),[0,1,2,3,4,5,6,7,8,9,10]⟩,⟨12,some 89,.a false (.fieldA 3 (.t 3)) none,(some (86,true)),[0,1,2,3,4,5,6,7,8,9]⟩,⟨13,some 90,.a false (.loadB 0 none (.t 89)) none,(some (86,true)),[0,1,2,3,4,5,6,7,8,9,12]⟩,⟨14,some 91,.a false (.bin .eql (.t 88) (.t 90)) none,(some (86,true)),[0,1,2,3,4,5,6,7,8,9,10,11,12,13]⟩,xA 15 92 (.pick (.t 86) (.t 91) Ar) (rg 15),xA 16 93 (.mv (.t 92)) (rg 16),⟨17,some 94,.a false (.fieldA 3 (.t 5)) none,(some (93,true)),[0,1,2,3,4,5,6,7,8,9,10,11,12,13,14,15,16]⟩,⟨18,some 95,.a false (.loadB 2 none (.t 94)) none,(some (93,true)),[0,1,2,3,4,5,6,7,8,9,10,11,12,13,14,15,16,17]⟩,⟨19,some 96,.a false (.fieldA 4 (.t 5)) none,(some (93,true)),[0,1,2,3,4,5,6,7,8,9,10,11,12,13,14,15,16]⟩,⟨20,some 97,.a false (.loadB 2 none (.t 96)) none,(some (93,true)),[0,1,2,3,4,5,6,7,8,9,10,11,12,13,14,15,16,19]⟩,⟨22,some 99,.a false (.fieldA 3 (.t 3)) none,(some (93,true)),[0,1,2,3,4,5,6,7,8,9,10,11,12,13,14,15,16]⟩,⟨23,some 100,.a false (.loadB 0 none (.t 99)) none,(some (93,true)),[0,1,2,3,4,5,6,7,8,9,10,11,12,13,14,15,16,22]⟩,⟨24,some 101,.a false (.bin .or Av (.t 100)) none,(some (93,true)),[0,1,2,3,4,5,6,7,8,9,10,11,12,13,14,15,16,22,23]⟩,⟨21,some 98,.call false HW.S HW.P HW.D [(.t 95),(.t 97)],(some (93,true)),[0,1,2,3,4,5,6,7,8,9,10,11,12,13,14,15,16,17,18,19,20]⟩,⟨25,some 102,.a false (.bin .eql (.t 98) (.t 101)) none,(some (93,true)),[0,1,2,3,4,5,6,7,8,9,10,11,12,13,14,15,16,17,18,19,20,21,22,23,24]⟩,xA 26 103 (.pick (.t 93) (.t 102) Ar) (rg 26),xA 27 2 (.mv (.t 103)) (rg 27)]) .ret)))))))
def Hg:Fn:=⟨⟨1,104,3,true,[.tmp 2],nc⟩,[.one .frz (.sl (.one (.int .u8)))],.one (.one .own (.bool))⟩
theorem m0:Hg.A:=A8 ⟨u5,nN,Yo,oj,q9,XP,XP,o7,trivial⟩
def S9:A5->Bool:=Hg.V
def SY:A5->Prop:=Hg.O
end
section
set_option maxRecDepth 100000
def Bm(x:A5):=BL (Cp (x,6)).2.2.2.2.1
def IQ(x:A5)(x0:Nf):=NM (x,(iAdd .i64 16 x0.1),(lLen x0.2.2.2.2.2.2.2.1))
def Da(x:A5)(x0:Nf):=N9 (x0.2.2.2,(lGet x0.2.2.2.2.2.2.2.1 (iNat (IQ x x0)) (0,0,0,0,0)).1)
def PW(x:A5)(x0:Nf):=FH ((lGet (Da x x0).2.1 (iNat 0) (0,[])),x0.2.1,x0.2.2.1)
def CJ(x:A5)(x0:Nf):Bool:=(bAnd (bAnd (iGt (lLen x0.2.2.2.2.2.2.2.1) 0) (iLt x0.1 40)) (bAnd (bNot (bOr (bNot (Da x x0).2.2) (bOr (iGt (lLen (Da x x0).2.1) 1) (iNe (lLen (Da x x0).1.2.2.2.2.1) (iSub .i64 (lLen x0.2.2.2.2.2.2.2.1) 1))))) (bOr (bNot (iEq (lLen (Da x x0).2.1) 1)) (bNot (PW x x0)))))
def BT(x:A5)(x0:Nf):Nf:=((iAdd .i64 x0.1 1),(bSel (iEq (lLen (Da x x0).2.1) 1) (lGet (Da x x0).2.1 (iNat 0) (0,[])).1 x0.2.1),(bSel (iEq (lLen (Da x x0).2.1) 1) (lGet (Da x x0).2.1 (iNat 0) (0,[])).2 x0.2.2.1),(Da x x0).1)
def NA(x:A5)(x0:Nf):Prop:=(((bAnd (iGt (lLen x0.2.2.2.2.2.2.2.1) 0) (iLt x0.1 40))=true->((Tt (x,(iAdd .i64 16 x0.1),(lLen x0.2.2.2.2.2.2.2.1)))/\((((0:Int)<=(IQ x x0))/\((IQ x x0)<(((List.length x0.2.2.2.2.2.2.2.1):Int))))/\(((iNat (IQ x x0))<(List.length x0.2.2.2.2.2.2.2.1))/\((Qy (x0.2.2.2,(lGet x0.2.2.2.2.2.2.2.1 (iNat (IQ x x0)) (0,0,0,0,0)).1))/\(((bOr (bNot (Da x x0).2.2) (bOr (iGt (lLen (Da x x0).2.1) 1) (iNe (lLen (Da x x0).1.2.2.2.2.1) (iSub .i64 (lLen x0.2.2.2.2.2.2.2.1) 1))))=true->True)/\((bOr (bNot (Da x x0).2.2) (bOr (iGt (lLen (Da x x0).2.1) 1) (iNe (lLen (Da x x0).1.2.2.2.2.1) (iSub .i64 (lLen x0.2.2.2.2.2.2.2.1) 1))))=false->(((iEq (lLen (Da x x0).2.1) 1)=true->((((0:Int)<=0)/\((0:Int)<(((List.length (Da x x0).2.1):Int))))/\(((iNat 0)<(List.length (Da x x0).2.1))/\((NG ((lGet (Da x x0).2.1 (iNat 0) (0,[])),x0.2.1,x0.2.2.1))/\(((PW x x0)=true->True)/\((PW x x0)=false->((((0:Int)<=0)/\((0:Int)<(((List.length (Da x x0).2.1):Int))))/\((iNat 0)<(List.length (Da x x0).2.1)))))))))/\((iEq (lLen (Da x x0).2.1) 1)=false->True)))))))))/\((bAnd (iGt (lLen x0.2.2.2.2.2.2.2.1) 0) (iLt x0.1 40))=false->True))
theorem m8 (x):S9 x=(bOr (OK x) (bAnd (bNot (bAnd (iGt (lLen (Al (CJ x) (BT x) (0,(Bm x).1,(Bm x).2,(Cp (x,6)))).2.2.2.2.2.2.2.1) 0) (iLt (Al (CJ x) (BT x) (0,(Bm x).1,(Bm x).2,(Cp (x,6)))).1 40))) (bAnd (iEq (lLen (Al (CJ x) (BT x) (0,(Bm x).1,(Bm x).2,(Cp (x,6)))).2.2.2.2.2.2.2.1) 0) (bAnd (FH (((Al (CJ x) (BT x) (0,(Bm x).1,(Bm x).2,(Cp (x,6)))).2.1,(Al (CJ x) (BT x) (0,(Bm x).1,(Bm x).2,(Cp (x,6)))).2.2.1),0,[])) (bAnd (iEq (Al (CJ x) (BT x) (0,(Bm x).1,(Bm x).2,(Cp (x,6)))).2.2.2.2.2.2.1 (Cp (x,6)).2.2.2.1) (iEq (El ((Al (CJ x) (BT x) (0,(Bm x).1,(Bm x).2,(Cp (x,6)))).2.2.2.2.2.2.1,(Al (CJ x) (BT x) (0,(Bm x).1,(Bm x).2,(Cp (x,6)))).2.2.2.2.2.2.2.1)) (iOr .i64 1 (Cp (x,6)).2.2.2.1))))))):=(Hg.v x).trans (by kernel_rfl)
theorem mZ (x):SY x=((Vc x)/\(((OK x)=true->True)/\((OK x)=false->((Ti (x,6))/\((JY (Cp (x,6)).2.2.2.2.1)/\((LoopOk (CJ x) (BT x) (NA x) (0,(Bm x).1,(Bm x).2,(Cp (x,6))))/\(((bAnd (iGt (lLen (Al (CJ x) (BT x) (0,(Bm x).1,(Bm x).2,(Cp (x,6)))).2.2.2.2.2.2.2.1) 0) (iLt (Al (CJ x) (BT x) (0,(Bm x).1,(Bm x).2,(Cp (x,6)))).1 40))=true->True)/\((bAnd (iGt (lLen (Al (CJ x) (BT x) (0,(Bm x).1,(Bm x).2,(Cp (x,6)))).2.2.2.2.2.2.2.1) 0) (iLt (Al (CJ x) (BT x) (0,(Bm x).1,(Bm x).2,(Cp (x,6)))).1 40))=false->(((iEq (lLen (Al (CJ x) (BT x) (0,(Bm x).1,(Bm x).2,(Cp (x,6)))).2.2.2.2.2.2.2.1) 0)=true->((NG (((Al (CJ x) (BT x) (0,(Bm x).1,(Bm x).2,(Cp (x,6)))).2.1,(Al (CJ x) (BT x) (0,(Bm x).1,(Bm x).2,(Cp (x,6)))).2.2.1),0,[]))/\(((FH (((Al (CJ x) (BT x) (0,(Bm x).1,(Bm x).2,(Cp (x,6)))).2.1,(Al (CJ x) (BT x) (0,(Bm x).1,(Bm x).2,(Cp (x,6)))).2.2.1),0,[]))=true->(((iEq (Al (CJ x) (BT x) (0,(Bm x).1,(Bm x).2,(Cp (x,6)))).2.2.2.2.2.2.1 (Cp (x,6)).2.2.2.1)=true->(Qk ((Al (CJ x) (BT x) (0,(Bm x).1,(Bm x).2,(Cp (x,6)))).2.2.2.2.2.2.1,(Al (CJ x) (BT x) (0,(Bm x).1,(Bm x).2,(Cp (x,6)))).2.2.2.2.2.2.2.1)))/\((iEq (Al (CJ x) (BT x) (0,(Bm x).1,(Bm x).2,(Cp (x,6)))).2.2.2.2.2.2.1 (Cp (x,6)).2.2.2.1)=false->True)))/\((FH (((Al (CJ x) (BT x) (0,(Bm x).1,(Bm x).2,(Cp (x,6)))).2.1,(Al (CJ x) (BT x) (0,(Bm x).1,(Bm x).2,(Cp (x,6)))).2.2.1),0,[]))=false->True))))/\((iEq (lLen (Al (CJ x) (BT x) (0,(Bm x).1,(Bm x).2,(Cp (x,6)))).2.2.2.2.2.2.2.1) 0)=false->True)))))))))):=(Hg.o x).trans (by kernel_rfl)
attribute [irreducible] S9 SY
end
section
set_option maxRecDepth 20000
theorem ZS{X:Type}{c:X->Bool}{f:X->X}{x:X}(h:c x=false):Al c f x=x:=(Ho (p:=λ _=>True) 0 (λ _=>x) rfl (λ k hk=>absurd hk (RV k)) ⟨trivial,h⟩).2
theorem uJ:Bb []=(0,[]):=by
 rw[Yc]
 have h3:∀ x0:Int×List Int,Al (K3 [] x0) NI 0=0:=λ x0=>ZS (by unfold K3;rw[Az,Ao,An];rfl)
 rw[ZS (c:=JP []) (x:=(0,0)) (by unfold JP;rw[Ao,An];rfl)]
 rw[(Ho (c:=Hh) (f:=IW []) (p:=λ _=>True) 56 (λ k=>((k:Int)+1,([]:List Int))) (x0:=(1,[])) (by simp) (λ k hk=>⟨trivial,by unfold Hh;rw[DQ,Ap];simp only;omega,by
  unfold IW;simp only[h3];rw[Ao,An,Bs (by unfold AL;omega),Ee (by simp),CS]
  simp⟩) ⟨trivial,by unfold Hh;rw[DQ];rfl⟩).2]
 rw[Bw];split<;>rfl
theorem uI(f:Int)(h0:0<=f)(h1:f<=15):El (f,[])=iOr .i64 1 f:=by
 rw[dS];simp only;rw[ZS (by rw[Ao,An];rfl)]
 have:bAnd (iGe f 0) (iLe f 15)=true:=by rw[Az,CL,DQ,Ii (by omega),Ii (by omega)];rfl
 rw[this,De,Bw,ite_self]
def Gy(y:BP)(j:Nat):BP:=(y.1,y.2.1,y.2.2.1,y.2.2.2.1,y.2.2.2.2.1.eraseIdx j,y.2.2.2.2.2)
theorem Za7{k:Int}{y:BP}(g:EngG k y)(i:Nat)(h:i<y.2.2.2.2.1.length):Qy (y,(y.2.2.2.2.1.getD i (0,0,0,0,0)).1)/\∃ j,j<y.2.2.2.2.1.length /\
 N9 (y,(y.2.2.2.2.1.getD i (0,0,0,0,0)).1)=(Gy y j,(if Bb y.2.2.2.2.1=Bb (Gy y j).2.2.2.2.1 then [] else [Bb (Gy y j).2.2.2.2.1]),true):=by
 rcases Y7 y (y.2.2.2.2.1.getD i (0,0,0,0,0)).1 g.2.1.2.2.1.1 with⟨_,h2⟩|⟨j,h1,h2,_⟩
 . exact absurd rfl (h2 _ (DP y.2.2.2.2.1 i _ h))
 . obtain⟨_,r1,_,r3⟩:=gm y _ g.2.1 g.is j h1 h2
   exact⟨r1,j,h1,by rw[r3,Zad];rfl⟩
structure NsI (e:BP) (st:Int×Int×List Int×BP):Prop where
 g:EngG 6 st.2.2.2
 r:(st.2.1,st.2.2.1)=Bb st.2.2.2.2.2.2.2.1
 f:st.2.2.2.2.2.2.1=e.2.2.2.1
 n0:0<=st.1
 n1:st.1+st.2.2.2.2.2.2.2.1.length<=32
theorem kL(x:A5)(hx:x.length<=1048576)(e:BP)(st:Int×Int×List Int×BP)(h:NsI e st)(hl:0<st.2.2.2.2.2.2.2.1.length) :
 (NA x st/\CJ x st=true)/\NsI e (BT x st)/\(BT x st).2.2.2.2.2.2.2.1.length<st.2.2.2.2.2.2.2.1.length:=by
 obtain⟨n,m,ks,y⟩:=st
 obtain⟨g,hr,hf,n0,n1⟩:=h
 simp only at g hr hf n0 n1 hl
 obtain⟨a1,a2,a3⟩:=ti x (iAdd .i64 16 n) (lLen y.2.2.2.2.1) hx (by rw[An];omega)
 have hN:IQ x (n,m,ks,y)=NM (x,iAdd .i64 16 n,lLen y.2.2.2.2.1):=rfl
 have eL:lLen y.2.2.2.2.1=(y.2.2.2.2.1.length:Int):=An _
 obtain⟨i,hi⟩:=Int.eq_ofNat_of_zero_le a2
 have hi2:i<y.2.2.2.2.1.length:=by omega
 obtain⟨b1,j,b2,b3⟩:=Za7 g i hi2
 have gj:EngG 6 (Gy y j):=g.rel j
 have hlj:(Gy y j).2.2.2.2.1.length=y.2.2.2.2.1.length-1:=by show (y.2.2.2.2.1.eraseIdx j).length=_;rw[List.length_eraseIdx,Ac b2]
 have hkey:lGet y.2.2.2.2.1 (iNat (IQ x (n,m,ks,y))) (0,0,0,0,0)=y.2.2.2.2.1.getD i (0,0,0,0,0):=by rw[hN,hi,A3,Aw,Bn]
 have hR:Da x (n,m,ks,y)=N9 (y,(y.2.2.2.2.1.getD i (0,0,0,0,0)).1):=by
  unfold Da;simp only[hkey]
 obtain⟨_,_,q3,q4⟩:=Je y.2.2.2.2.1 g.2.1.2.2.1.1
 obtain⟨_,_,u3,u4⟩:=Je (Gy y j).2.2.2.2.1 gj.2.1.2.2.1.1
 rw[q3] at q4
 rw[u3] at u4
 have hn40:iLt n 40=true:=by rw[Ao,Ap];omega
 have hl0:iGt (lLen y.2.2.2.2.1) 0=true:=by rw[CG,An,Ap];omega
 have hsub:iSub .i64 (lLen y.2.2.2.2.1) 1=((y.2.2.2.2.1.length-1:Nat):Int):=by
  have:=g.hl;rw[An,EF (by unfold AL;omega)];omega
 have hne:iNe (lLen (Gy y j).2.2.2.2.1) (iSub .i64 (lLen y.2.2.2.2.1) 1)=false:=by rw[hsub,C8,An,hlj];simp
 have hadd:iAdd .i64 n 1=n+1:=Bs (by unfold AL;omega)
 have okR:=b1
 rw[<- hkey] at okR
 have tt:bAnd (iGt (lLen y.2.2.2.2.1) 0) (iLt n 40)=true:=by rw[hl0,hn40,Az];rfl
 have bt:bNot true=false:=by rw[AG];rfl
 have bf:bNot false=true:=by rw[AG];rfl
 have o0:∀ b,bOr false b=b:=λ b=>by rw[AW,Bool.false_or]
 have idx:((0:Int)<=IQ x (n,m,ks,y)/\IQ x (n,m,ks,y)<(y.2.2.2.2.1.length:Int))/\iNat (IQ x (n,m,ks,y))<y.2.2.2.2.1.length:=by
  rw[hN,hi,Aw,Bn];omega
 by_cases hs:Bb y.2.2.2.2.1=Bb (Gy y j).2.2.2.2.1
 . rw[Ac hs] at b3
   have e1:iEq (lLen ([]:List Dt)) 1=false:=by rw[Bt,An];rfl
   have e2:iGt (lLen ([]:List Dt)) 1=false:=by rw[CG,An];rfl
   refine⟨⟨?_,?_⟩,⟨?_,?_,?_,?_,?_⟩,?_⟩
   . unfold NA;simp only[hR,b3,tt,bt,e1,e2,o0,hne,AK,false_implies,true_implies,Bool.true_eq_false,Gh,Hs];exact⟨a1,idx.1,idx.2,okR⟩
   . unfold CJ;simp only[hR,b3,tt,bt,bf,e1,e2,o0,hne,Az,AW,LQ,Bool.true_or]
   . unfold BT;simp only[hR,b3];exact gj
   . unfold BT;simp only[hR,b3,e1,CS];rw[hr,hs]
   . unfold BT;simp only[hR,b3];exact hf
   . unfold BT;simp only[hadd];omega
   . unfold BT;simp only[hadd,hR,b3,hlj];omega
   . unfold BT;simp only[hR,b3,hlj];omega
 . rw[Af hs] at b3
   have e1:iEq (lLen [Bb (Gy y j).2.2.2.2.1]) 1=true:=by rw[Bt,An];rfl
   have e2:iGt (lLen [Bb (Gy y j).2.2.2.2.1]) 1=false:=by rw[CG,An];rfl
   have e3:lGet [Bb (Gy y j).2.2.2.2.1] (iNat 0) (0,[])=Bb (Gy y j).2.2.2.2.1:=by rw[A3,Aw];rfl
   have h4:PW x (n,m,ks,y)=false:=by
    unfold PW;simp only[hR,b3,e3];rw[hr,YI _ _ u4,Bl]
    exact λ h=>hs h.symm
   have i0:((0:Int)<=0/\(0:Int)<(([Bb (Gy y j).2.2.2.2.1].length:Nat):Int))/\iNat 0 < [Bb (Gy y j).2.2.2.2.1].length:=⟨⟨by omega,by simp⟩,by rw[Aw];simp⟩;refine⟨⟨?_,?_⟩,⟨?_,?_,?_,?_,?_⟩,?_⟩
   . unfold NA;simp only[hR,b3,tt,bt,e1,e2,e3,h4,o0,hne,AK,false_implies,true_implies,Bool.true_eq_false,Gh,Hs];exact⟨a1,idx.1,idx.2,okR,i0.1,i0.2,(Uy _ _ u4).2,i0.1,i0.2⟩
   . unfold CJ;simp only[hR,b3,tt,bt,bf,e1,e2,h4,o0,hne,Az,AW,LQ,Bool.or_true]
   . unfold BT;simp only[hR,b3];exact gj
   . unfold BT;simp only[hR,b3,e1,e3,De]
   . unfold BT;simp only[hR,b3];exact hf
   . unfold BT;simp only[hadd];omega
   . unfold BT;simp only[hadd,hR,b3,hlj];omega
   . unfold BT;simp only[hR,b3,hlj];omega
theorem nu(x:A5)(hw:TuX.wf Hg.h x):SY x/\S9 x=true:=by
 rw[mZ,m8];obtain⟨b1,b2⟩:=Zbi x;by_cases hl:1048576<x.length
 . rw[b1,Ii hl];exact⟨⟨b2,λ _=>trivial,(λ h=>by cases h)⟩,by rw[AW];rfl⟩
 rw[b1,Ee hl];obtain⟨m1,g⟩:=tV x 6 (by omega) (by omega) (by omega);simp only[Bm];generalize Cp (x,6)=e at *;obtain⟨_,r2,r3,_⟩:=Je e.2.2.2.2.1 g.2.1.2.2.1.1;rw[r3];have key:=Kv (c:=CJ x) (f:=BT x) (p:=NA x) (NsI e) (λ st=>st.2.2.2.2.2.2.2.1.length) (λ st hI=>?_) (x0:=(0,(Bb e.2.2.2.2.1).1,(Bb e.2.2.2.2.1).2,e)) ⟨g,rfl,rfl,by simp,by have:=g.hl;simp only;omega⟩
 . obtain⟨q1,q2,q3⟩:=key;generalize Al (CJ x) (BT x) (0,(Bb e.2.2.2.2.1).1,(Bb e.2.2.2.2.1).2,e)=st at *
   have hz:st.2.2.2.2.2.2.2.1=[]:=by
    refine EH ?_
    refine Classical.byContradiction λ hn=>?_
    have:=(kL x (by omega) e st q2 (by omega)).1.2;rw[q3] at this;cases this
   have hr:=q2.r;rw[hz,uJ] at hr;obtain⟨f0,f1⟩:=q2.g.fix;have hf:=q2.f
   have t0:bAnd (iGt (lLen ([]:BR)) 0) (iLt st.1 40)=false:=by rw[Az,CG,An];rfl
   have t1:iEq (lLen ([]:BR)) 0=true:=by rw[Bt,An];rfl
   have t2:FH ((0,[]),0,[])=true:=by rw[YI _ _ (by simp)];simp
   have ls:=uI st.2.2.2.2.2.2.1 f0 f1;have okL:=dz st.2.2.2.2.2.2.1 ([]:BR) (by simp);simp only[hz,hr,t0,t1,t2,ls];rw[hf] at okL ⊢
   have t3:∀ a:Int,iEq a a=true:=λ a=>by rw[Bt];simp
   have bf:bNot false=true:=by rw[AG];rfl
   refine⟨⟨b2,(λ h=>by cases h),λ _=>⟨m1,r2,q1,(λ h=>by cases h),λ _=>⟨λ _=>⟨(Uy _ _ (by simp)).2,λ _=>⟨λ _=>okL,λ _=>trivial⟩,(λ h=>by cases h)⟩,(λ h=>by cases h)⟩⟩⟩,?_⟩;simp only[t3,bf,Az,AW,Dn,Bool.or_true]
 . by_cases h0:0<st.2.2.2.2.2.2.2.1.length
   . obtain⟨⟨s1,s2⟩,s3,s4⟩:=kL x (by omega) e st hI h0;exact⟨s1,λ _=>⟨s3,s4⟩⟩
   . have hz:lLen st.2.2.2.2.2.2.2.1=0:=by rw[An];omega
     have t0:bAnd (iGt (0:Int) 0) (iLt st.1 40)=false:=by rw[Az,CG];rfl
     refine⟨?_,λ hc=>?_⟩
     . unfold NA;simp only[hz,t0];exact⟨(λ h=>by cases h),λ _=>trivial⟩
     . unfold CJ at hc;simp only[hz,t0,Az,Xh] at hc;cases hc
end
end
end Go.Ag
