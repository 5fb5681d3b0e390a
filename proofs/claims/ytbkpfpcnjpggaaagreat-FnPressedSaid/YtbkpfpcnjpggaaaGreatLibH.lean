/- Part 8 of what FnPressed needs. No conditions. -/
import Derived.Test.YtbkpfpcnjpggaaaGreatLibG
namespace Go.Ag
set_option linter.unusedSimpArgs false
set_option linter.unusedVariables false
noncomputable section
section
set_option maxRecDepth 20000
def Yl(n:Nat)(a:FG):Prop:=Bt a=true/\a.1≠1/\a.1≠6/\a.1≠7/\(a.1≠9->a.2.2.2<n)
theorem jd(a:FG):QF a=Kd a:=by
 rw[qn,YD,LH]
theorem Zbm(a:FG):VL a=DH a:=by rw[vO,gX,jd]
theorem Zab(a:FG):Vn a=DF a:=by rw[vc,gz,jd]
theorem yx(a:FG):U4 a/\Vl a/\U7 a/\VE a:=by
 rw[uj,wq,uR,vX,qG];exact⟨ZZ _,ZZ _,Qu _,Qu _⟩
theorem xj{n:Nat}{a:FG}(h1:Bt a=true)(h2:a.1≠1)(h3:a.1≠9->a.2.2.2<n)(hn:1<=n):Yl n (DF a)/\Yl n (DH a):=by
 obtain⟨k,c,m,p⟩:=a;have h:=(DA k c m p).1 h1;rw[gz,gX,YD,LH,h1];simp only[AG,BF,AD,Ba,Bv,NB] at h2 h3 ⊢;by_cases k6:k=6
 . subst k6
   have h6:1<=c/\c<=56/\1<=m/\m<=15:=by omega
   have i1:Bt (2,0,m,0)=true:=(DA _ _ _ _).2 (.inr (.inl ⟨rfl,rfl,by omega,by omega,by omega,by omega,by omega⟩));have i2:Bt (2,c,0,0)=true:=(DA _ _ _ _).2 (.inr (.inl ⟨rfl,rfl,by omega,by omega,by omega,by omega,by omega⟩));simp only[decide_true,Bool.true_or,Gy,AL,AQ,AN];exact⟨⟨i1,by simp,by simp,by simp,λ _=>by simp only;omega⟩,⟨i2,by simp,by simp,by simp,λ _=>by simp only;omega⟩⟩
 . by_cases k7:k=7
   . subst k7
     have h7:1<=c/\c<=56/\1<=p/\p<=3:=by omega
     have i1:Bt (3,0,0,p)=true:=(DA _ _ _ _).2 (.inr (.inr (.inl ⟨.inl rfl,rfl,rfl,by omega,by omega⟩)));have i2:Bt (2,c,0,0)=true:=(DA _ _ _ _).2 (.inr (.inl ⟨rfl,rfl,by omega,by omega,by omega,by omega,by omega⟩));have:=h3 (by omega);simp only[k6,decide_true,decide_false,Bool.or_true,Gy,AL,AQ,AN];exact⟨⟨i1,by simp,by simp,by simp,λ _=>this⟩,⟨i2,by simp,by simp,by simp,λ _=>by simp only;omega⟩⟩
   . simp only[k7,k6,decide_false,Bool.or_self,Bool.not_false,AN];exact⟨⟨h1,h2,k6,k7,h3⟩,⟨h1,h2,k6,k7,h3⟩⟩
theorem Zdi{a:FG}(h:Bt a=true):0<=a.2.2.2/\a.2.2.2<=3:=by
 obtain⟨k,c,m,n⟩:=a;have:=(DA k c m n).1 h;simp only;omega
theorem nR{k:Int}{L:List (List FG)}(hm:MapOk k L)(on key:Int)(k0:0<=key)(k1:key<k) :
 Bt (Ji ((k,L),on,key))=true/\(Ji ((k,L),on,key)).1≠1/\((Ji ((k,L),on,key)).1≠9->(Ji ((k,L),on,key)).2.2.2<L.length) /\
 Ji ((k,L),on,key)=(L.getD (BR ((k,L),on,key)).toNat []).getD key.toNat (0,0,0,0):=by
 obtain⟨a1,a2,a3,_⟩:=ik hm on key k0 k1
 have e:Ji ((k,L),on,key)=(L.getD (BR ((k,L),on,key)).toNat []).getD key.toNat (0,0,0,0):=by
  rw[Ji];simp only;rw[Ap,DP (by omega),CP,A8,A8,Ax,Ax]
 rw[e]
 have hr:=hm.row (BR ((k,L),on,key)).toNat (by omega)
 obtain⟨b1,b2,b3⟩:=hm.act (BR ((k,L),on,key)).toNat key.toNat (by omega) (by omega)
 refine⟨b1,?_,b3,rfl⟩
 by_cases h:0<BR ((k,L),on,key)
 . exact(a3 h).2
 . exact b2 (by omega)
def K8(x:Cj)(k:Int):FG:=Ji ((x.1,x.2.1),E0 (x.2.2.2.1,x.2.2.2.2.1),k)
def Lb(x:Cj)(k:Int)(h:Bool):FG:=bSel h (DF (K8 x k)) (DH (K8 x k))
def AF(x:Cj)(k:Int)(h:Bool):FG×Cj:=EA (Je (Lb x k h).2.1) x (Lb x k h)
def Cs(x:Cj)(k:Int)(h:Bool):B4:=x.2.2.2.2.1++[(k,(AF x k h).1)]
def Fi(x:Cj)(k:Int)(h:Bool):List B3:=bSel (bAnd (iEq (AF x k h).1.1 9) (iLt (AF x k h).1.2.2.2 (lLen x.2.2.1))) (Fm (Cs x k h,lGet x.2.2.1 (iNat (AF x k h).1.2.2.2) [])) []
def DW(x:Cj)(k:Int)(h:Bool):Cj:=(x.1,x.2.1,x.2.2.1,(AF x k h).2.2.2.2.1,Cs x k h,(AF x k h).2.2.2.2.2.2)
theorem Wi{x:Cj}(he:EngOk x)(hs:F0 x)(k:Int)(h:Bool)(k0:0<=k)(k1:k<x.1):Yl x.2.1.length (Lb x k h):=by
 have hm:=GW hs.1 he.map;obtain⟨a1,a2,a3,_⟩:=nR hm (E0 (x.2.2.2.1,x.2.2.2.2.1)) k k0 k1;obtain⟨b1,b2⟩:=xj a1 a2 a3 hm.l1;unfold Lb K8;cases h
 . rw[CP];exact b2
 . rw[Dc];exact b1
theorem yG(w:Bool)(c:Int){m on:Nat}(cp:Bool)(h1:m<=15)(h2:on<=15):R4 w c m on cp<=15:=by
 unfold R4;split
 . omega
 . have:=Nat.or_lt_two_pow (x:=m) (y:=on) (n:=4) (by omega) (by omega);omega
theorem Zay(w:Bool){x:Cj}(n:Nat)(hn:n<=4){a:FG}(ha:Yl n a)(on0:0<=x.2.2.2.2.2.1)(on1:x.2.2.2.2.2.1<=15)(f0:0<=x.2.2.2.1)(f2:x.2.2.2.1 % 2=0)(f1:x.2.2.2.1<((2^n:Nat):Int)) :
 (Bt (EA w x a).1=true/\(EA w x a).1.1=a.1/\(EA w x a).1.2.1=a.2.1/\(EA w x a).1.2.2.2=a.2.2.2) /\
 ((EA w x a).2.1=x.1/\(EA w x a).2.2.1=x.2.1/\(EA w x a).2.2.2.1=x.2.2.1/\(EA w x a).2.2.2.2.2.1=x.2.2.2.2.1) /\
 (0<=(EA w x a).2.2.2.2.2.2.1/\(EA w x a).2.2.2.2.2.2.1<=15)/\0<=(EA w x a).2.2.2.2.1/\(EA w x a).2.2.2.2.1 % 2=0/\(EA w x a).2.2.2.2.1<((2^n:Nat):Int):=by
 obtain⟨k,L,mc,f,hd,on,cp⟩:=x
 obtain⟨kd,c,m,p⟩:=a
 obtain⟨h1,h2,h3,h4,h5⟩:=ha
 have h:=(DA kd c m p).1 h1
 simp only at on0 on1 f0 f1 f2 h2 h3 h4 h5
 obtain⟨F,rfl⟩:=Int.eq_ofNat_of_zero_le f0
 obtain⟨O,rfl⟩:=Int.eq_ofNat_of_zero_le on0
 obtain⟨M,rfl⟩:=Int.eq_ofNat_of_zero_le (show 0<=m by omega)
 obtain⟨P,rfl⟩:=Int.eq_ofNat_of_zero_le (show 0<=p by omega)
 have hF:F<2^n:=by omega
 have h2n:2^n<=2^4:=Nat.pow_le_pow_right (by omega) hn
 have h24:(2:Nat)^4=16:=by decide
 unfold EA
 simp only[Bn]
 by_cases k2:kd=2
 . subst k2
   by_cases hc:0<c
   . have:=yG w c cp (m:=M) (on:=O) (by omega) (by omega);simp only[AN,Ac hc]
     refine⟨⟨(DA _ _ _ _).2 (.inr (.inl ⟨rfl,by omega,by omega,by omega,by omega,by omega,by omega⟩)),?_,?_,?_⟩,⟨?_,?_,?_,?_⟩,⟨?_,?_⟩,?_,?_,?_⟩<;>first|trivial|omega
   . simp only[AN,Ae hc]
     refine⟨⟨h1,?_,?_,?_⟩,⟨?_,?_,?_,?_⟩,⟨?_,?_⟩,?_,?_,?_⟩<;>first|trivial|omega
 . rw[Ae k2]
   by_cases k4:kd=4
   . have hp:=h5 (by omega);obtain⟨t1,t2⟩:=Zbz ⟨F,by omega⟩ ⟨P,by omega⟩ ⟨n,by omega⟩ (by simp only;omega) (by simp only;omega) (by simp only;omega) (by simp only;omega);simp only[Ac k4];simp only at t1 t2
     refine⟨⟨h1,?_,?_,?_⟩,⟨?_,?_,?_,?_⟩,⟨?_,?_⟩,?_,?_,?_⟩<;>first|trivial|omega
   . rw[Ae k4];by_cases k5:kd=5
     . have hp:=h5 (by omega);obtain⟨t1,t2⟩:=Zc1 ⟨P,by omega⟩ ⟨n,by omega⟩ (by simp only;omega);simp only[Ac k5];simp only at t1 t2
       refine⟨⟨h1,?_,?_,?_⟩,⟨?_,?_,?_,?_⟩,⟨?_,?_⟩,?_,?_,?_⟩<;>first|trivial|omega
     . rw[Ae k5];by_cases k8:kd=8
       . have t:=mE O M;have t2:=Nat.or_lt_two_pow (x:=O) (y:=M) (n:=4) (by omega) (by omega);simp only[Ac k8]
         refine⟨⟨h1,?_,?_,?_⟩,⟨?_,?_,?_,?_⟩,⟨?_,?_⟩,?_,?_,?_⟩<;>first|trivial|omega|(split<;>omega)
       . rw[Ae k8];split
         . exact⟨⟨h1,rfl,rfl,rfl⟩,⟨rfl,rfl,rfl,rfl⟩,⟨by simp only;omega,by simp only;omega⟩,by simp only;omega,by simp only;omega,by simp only;omega⟩
         . exact⟨⟨h1,rfl,rfl,rfl⟩,⟨rfl,rfl,rfl,rfl⟩,⟨by simp only;omega,by simp only;omega⟩,by simp only;omega,by simp only;omega,by simp only;omega⟩
theorem Yh(h:Bool)(a b:FG):(bSel h a.1 b.1,bSel h a.2.1 b.2.1,bSel h a.2.2.1 b.2.2.1,bSel h a.2.2.2 b.2.2.2)=bSel h a b:=by
 cases h
 . simp only[CP]
 . simp only[Dc]
theorem j9{x:Cj}(he:EngOk x)(hs:F0 x)(k:Int)(h:Bool)(k0:0<=k)(k1:k<x.1) :
 (Bt (AF x k h).1=true/\(AF x k h).1.1=(Lb x k h).1/\(AF x k h).1.2.1=(Lb x k h).2.1/\(AF x k h).1.2.2.2=(Lb x k h).2.2.2) /\
 ((AF x k h).2.1=x.1/\(AF x k h).2.2.1=x.2.1/\(AF x k h).2.2.2.1=x.2.2.1/\(AF x k h).2.2.2.2.2.1=x.2.2.2.2.1) /\
 (0<=(AF x k h).2.2.2.2.2.2.1/\(AF x k h).2.2.2.2.2.2.1<=15)/\0<=(AF x k h).2.2.2.2.1/\(AF x k h).2.2.2.2.1 % 2=0/\(AF x k h).2.2.2.2.1<((2^x.2.1.length:Nat):Int):=
 Zay _ x.2.1.length (GW hs.1 he.map).l2 (Wi he hs k h k0 k1) he.on0 he.on1 he.f0 he.f2 he.f1
theorem Zb1{x:Cj}(he:EngOk x)(hs:F0 x)(k:Int)(h:Bool)(k0:0<=k)(k1:k<x.1)(hn:∀ a∈x.2.2.2.2.1,a.1≠k):EngOk (DW x k h):=by
 have hl:x.2.2.2.2.1.length<=1048576:=hs.2.2.1.1;have h32:=br hl he.held;have hm:=GW hs.1 he.map;have ha:=Wi he hs k h k0 k1;obtain⟨⟨s1,s2,s3,s4⟩,_,⟨s5,s6⟩,s7,s8,s9⟩:=j9 he hs k h k0 k1;obtain⟨b1,b2⟩:=(M1 hl).1 he.held;have hk2:=hm.k2;refine⟨he.map,he.mac,he.macs,?_,?_,s5,s6,s7,s8,s9⟩
 . refine(M1 (by show (Cs x k h).length<=_;unfold Cs;simp;omega)).2 ⟨?_,?_⟩
   . intro a hmem;change a∈Cs x k h at hmem;unfold Cs at hmem;rw[CF,List.mem_singleton] at hmem;rcases hmem with hmem|rfl
     . exact b1 a hmem
     . exact⟨k0,by simp only;omega,s1,by simp only;rw[s2];exact ha.2.1,by simp only;rw[s2];exact ha.2.2.1,by simp only;rw[s2];exact ha.2.2.2.1⟩
   . show (Cs x k h).Pairwise _;unfold Cs;refine List.pairwise_append.2 ⟨b2,List.pairwise_singleton _ _,λ a ha b hb=>?_⟩;rw[List.mem_singleton] at hb;subst hb;exact hn a ha
 . intro a hmem;change a∈Cs x k h at hmem;unfold Cs at hmem;rw[CF,List.mem_singleton] at hmem;rcases hmem with hmem|rfl
   . exact he.hk a hmem
   . refine⟨k1,λ h9=>?_⟩;simp only at h9 ⊢;rw[s4];exact ha.2.2.2.2 (by rw[<- s2];exact h9)
theorem j8(x:Cj)(k:Int)(h:Bool)(hs:F0 x)(hb:CV x=false\/k<0\/x.1<=k\/0<=BS (x,k)) :
 MT (x,k,h)/\OV (x,k,h)/\Jp (x,k,h)=(Yd,[],false)/\MV (x,k,h)=(Yd,[],false):=by
 have hl:x.2.2.2.2.1.length<=1048576:=hs.2.2.1.1
 obtain⟨e1,e2,e3⟩:=MU x hs
 obtain⟨k1,k2⟩:=RB (x,k) hl
 have okl:∀ y,Ec y:=λ y=>by rw[O1];trivial
 rw[ib,gF,gM,gW]
 unfold Lt
 simp only[Ws,<- e3,Gu]
 cases he:CV x with
 | false=>
   have c2:bNot false=true:=by rw[AG];rfl
   have c3:∀ b,bOr true b=true:=λ b=>by rw[Ba];rfl
   simp only[c2,c3,Dc];exact⟨⟨⟨e1,λ _=>trivial,(λ h=>by cases h)⟩,λ _=>trivial,(λ h=>by cases h)⟩,⟨⟨e2,λ _=>trivial,(λ h=>by cases h)⟩,λ _=>trivial,(λ h=>by cases h)⟩,rfl,rfl⟩
 | true=>
   have hm:=GW hs.1 ((VP x hs).1 he).map;have hk1:=hm.k1;have hk2:=hm.k2
   have hb:k<0\/x.1<=k\/0<=BS (x,k):=by rcases hb with hb|hb;rw[he] at hb;cases hb;exact hb
   have c1:bOr (bNot true) (bOr (bNot (decide (0<=k)&&decide (k<=iSub .i64 x.1 1))) (iGe (BS (x,k)) 0))=true:=by
    simp only[Ba,AG,CM,Gy,Bool.false_or,Cp,BC,Gb,Bo,Ar];rw[Er (by unfold AO;omega)];omega
   have c2:bOr (bNot true) (bOr (iLt k 0) (bOr (iGe k x.1) (iGe (BS (x,k)) 0)))=true:=by
    simp only[Ba,AG,CM,Ap,Gy,Bool.false_or,Cp,Ar];omega
   simp only[c1,c2,Dc];exact⟨⟨⟨e1,λ _=>trivial,λ _=>⟨okl _,λ _=>trivial,λ _=>k1⟩⟩,λ _=>trivial,λ h=>by cases h⟩,⟨⟨e2,λ _=>trivial,λ _=>⟨λ _=>trivial,λ _=>⟨λ _=>trivial,λ _=>k2⟩⟩⟩,λ _=>trivial,λ h=>by cases h⟩,rfl,rfl⟩
theorem az(x:Cj)(k:Int)(h:Bool)(hs:F0 x)(he:CV x=true)(k0:0<=k)(k1:k<x.1)(hn:BS (x,k)<0) :
 MT (x,k,h)/\OV (x,k,h)/\Jp (x,k,h)=(DW x k h,HU (AY x.2.2.2.2.1) (Fi x k h++[AY (Cs x k h)]),true) /\
 MV (x,k,h)=(DW x k h,HU (AY x.2.2.2.2.1) (Fi x k h++[AY (Cs x k h)]),true)/\IZ (AY x.2.2.2.2.1)/\IZ (AY (Cs x k h))/\(∀ r∈Fi x k h,IZ r)/\(Fi x k h).length<=1048576:=by
 have hl:x.2.2.2.2.1.length<=1048576:=hs.2.2.1.1
 have eo:=(VP x hs).1 he
 have hm:=GW hs.1 eo.map
 have hk1:=hm.k1
 have hk2:=hm.k2
 have hl4:=hm.l2
 have h32:=br hl eo.held
 obtain⟨e1,e2,e3⟩:=MU x hs
 obtain⟨q1,q2⟩:=RB (x,k) hl
 obtain⟨c1,c2⟩:=Wk x hs
 obtain⟨d1,d2⟩:=gH x hs
 have ag:=Wi eo hs k h k0 k1
 obtain⟨⟨s1,s2,s3,s4⟩,⟨s5,s6,s7,s8⟩,_⟩:=j9 eo hs k h k0 k1
 have hf15:x.2.2.2.1<=15:=by
  have h2:2^x.2.1.length<=2^4:=Nat.pow_le_pow_right (by omega) hl4;have:=eo.f1;omega
 obtain⟨t1,t2,t3,t4⟩:=z6 x (Lb x k h) ag.1 eo.f0 hf15 eo.on0 eo.on1
 obtain⟨_,_,_,ea⟩:=nR hm (E0 (x.2.2.2.1,x.2.2.2.2.1)) k k0 k1
 obtain⟨la1,la2,_,_⟩:=ik hm (E0 (x.2.2.2.1,x.2.2.2.2.1)) k k0 k1
 have hv:Q5 ((x.1,x.2.1),E0 (x.2.2.2.1,x.2.2.2.2.1),k)=BR ((x.1,x.2.1),E0 (x.2.2.2.1,x.2.2.2.2.1),k):=by
  rw[BR.eq_1 ((x.1,x.2.1),E0 (x.2.2.2.1,x.2.2.2.2.1),k)];simp only;rw[eo.map,Ba,Ba,AG,Ap,CM,DP (by omega),DP (by omega)];simp only[Gy,Bool.or_self,CP]
 have S2:Cm (x,k,h)=K8 x k:=by
  unfold Cm K8;simp only[iK,xt _ _ _ _ hs.1]
 have S3:BQ (x,k,h)=AF x k h:=by
  unfold BQ;simp only[S2,c2,Yh];exact t3
 have I1:Jk (x,k,h)=BR ((x.1,x.2.1),E0 (x.2.2.2.1,x.2.2.2.2.1),k):=hv
 have eg:lGet (lGet x.2.1 (iNat (BR ((x.1,x.2.1),E0 (x.2.2.2.1,x.2.2.2.2.1),k))) []) (iNat k) (0,0,0,0)=K8 x k:=by
  rw[A8,A8,Ax,Ax];exact ea.symm
 have I2:EE (x,k,h)=DH (K8 x k):=by
  unfold EE;simp only[I1,eg,Zbm]
 have I3:ED (x,k,h)=DF (K8 x k):=by
  unfold ED;simp only[I1,eg,Zab]
 have I4:BP (x,k,h)=AF x k h:=by
  unfold BP;simp only[I2,I3,d2,Yh];exact t4
 have H:lApp (AF x k h).2.2.2.2.2.1 [(k,(AF x k h).1)]=Cs x k h:=by rw[BE,s8];rfl
 have E:∀ z:Cj,((AF x k h).2.1,(AF x k h).2.2.1,(AF x k h).2.2.2.1,(AF x k h).2.2.2.2.1,Cs x k h,(AF x k h).2.2.2.2.2.2)=DW x k h:=λ _=>by
  unfold DW;rw[s5,s6,s7]
 have hP:(Cs x k h).length<=1048576:=by unfold Cs;simp;omega
 obtain⟨r1,r2,r3,r4⟩:=KC x.2.2.2.2.1 hl
 obtain⟨u1,u2,u3,u4⟩:=KC (Cs x k h) hP
 rw[r3] at r4
 rw[u3] at u4
 have S4:QW (x,k,h)=AY (Cs x k h):=by unfold QW;simp only[S3,H]
 have S5:QZ (x,k,h)=Fm (Cs x k h,lGet x.2.2.1 (iNat (AF x k h).1.2.2.2) []):=by unfold QZ;simp only[S3,H]
 have I5:Q1 (x,k,h)=AY (Cs x k h):=by unfold Q1;simp only[I4,H,u3]
 have mac:bAnd (iEq (AF x k h).1.1 9) (iLt (AF x k h).1.2.2.2 (lLen x.2.2.1))=true->((0:Int)<=(AF x k h).1.2.2.2/\(AF x k h).1.2.2.2<(x.2.2.1.length:Int))/\iNat (AF x k h).1.2.2.2<x.2.2.1.length /\
  N2 (Cs x k h,lGet x.2.2.1 (iNat (AF x k h).1.2.2.2) [])/\N1 (Cs x k h,lGet x.2.2.1 (iNat (AF x k h).1.2.2.2) [])/\N7 (Cs x k h,lGet x.2.2.1 (iNat (AF x k h).1.2.2.2) [])=Fm (Cs x k h,lGet x.2.2.1 (iNat (AF x k h).1.2.2.2) []) /\
  (Fm (Cs x k h,lGet x.2.2.1 (iNat (AF x k h).1.2.2.2) [])).length<=1048576/\∀ r∈Fm (Cs x k h,lGet x.2.2.1 (iNat (AF x k h).1.2.2.2) []),IZ r:=by
  intro hc
  rw[AD,Bv,Ap,Ao,Ah,Ar,Ar] at hc
  obtain⟨g1,g2⟩:=hc
  have h0:0<=(AF x k h).1.2.2.2:=(Zdi s1).1
  have hi:iNat (AF x k h).1.2.2.2<x.2.2.1.length:=by rw[Ax];omega
  have hlen:=(hs.2.1.2 _ (DK x.2.2.1 (iNat (AF x k h).1.2.2.2) [] hi)).1
  rw[<- A8] at hlen
  obtain⟨m1,m2,m3,m4,m5⟩:=q9 (Cs x k h) (lGet x.2.2.1 (iNat (AF x k h).1.2.2.2) []) hP hlen
  exact⟨⟨h0,g2⟩,hi,m1,m2,m3,m4,m5⟩
 have I6:bSel (bAnd (iEq (AF x k h).1.1 9) (iLt (AF x k h).1.2.2.2 (lLen x.2.2.1))) (QP (x,k,h)) []=Fi x k h:=by
  unfold Fi
  cases hb:bAnd (iEq (AF x k h).1.1 9) (iLt (AF x k h).1.2.2.2 (lLen x.2.2.1)) with
  |false=>rw[CP,CP]
  | true=>
    rw[Dc,Dc];unfold QP;simp only[I4,H];exact(mac hb).2.2.2.2.1
 have mS:(Fi x k h).length<=1048576/\∀ r∈Fi x k h,IZ r:=by
  unfold Fi
  cases hb:bAnd (iEq (AF x k h).1.1 9) (iLt (AF x k h).1.2.2.2 (lLen x.2.2.1)) with
  |false=>rw[CP];exact⟨by simp,by simp⟩
  |true=>rw[Dc];exact(mac hb).2.2.2.2.2
 have M:bSel (bAnd (iEq (AF x k h).1.1 9) (iLt (AF x k h).1.2.2.2 (lLen x.2.2.1))) (Fm (Cs x k h,lGet x.2.2.1 (iNat (AF x k h).1.2.2.2) [])) []=Fi x k h:=rfl
 obtain⟨g1,g2,g3,g4⟩:=iT (AY x.2.2.2.2.1) (Fi x k h++[AY (Cs x k h)]) r4 (by have:=mS.1;simp;omega) (by
  intro r hr
  rw[CF,List.mem_singleton] at hr
  rcases hr with hr|rfl
  . exact mS.2 r hr
  . exact u4)
 have hroom1:Av ((x.2.2.2.2.1.length+[(k,(AF x k h).1)].length)*5):=by unfold Av;simp only[AH,AJ];omega
 have hroom2:Av (((Fi x k h).length+[AY (Cs x k h)].length)*2):=by have:=mS.1;unfold Av;simp only[AH,AJ];omega
 obtain⟨th1,th2,th3,th4⟩:=yx (K8 x k)
 have okl:∀ y,Ec y:=λ y=>by rw[O1];trivial
 have ola:=jE x.1 x.2.1 (E0 (x.2.2.2.1,x.2.2.2.2.1)) k hs.1
 have bs:bOr (bNot true) (bOr (bNot (decide (0<=k)&&decide (k<=iSub .i64 x.1 1))) (iGe (BS (x,k)) 0))=false:=by
  rw[Er (by unfold AO;omega),Ba,Ba,AG,AG,CM,Iy (by omega),Iy (by omega),DP (by omega)];rfl
 have bi:bOr (bNot true) (bOr (iLt k 0) (bOr (iGe k x.1) (iGe (BS (x,k)) 0)))=false:=by
  rw[Ba,Ba,Ba,AG,Ap,CM,CM,DP (by omega),DP (by omega),DP (by omega)];rfl
 have S1:Lt (x,k,h)=(decide (0<=k)&&decide (k<=iSub .i64 x.1 1)):=by unfold Lt;rw[Gu]
 refine⟨?_,?_,?_,?_,r4,u4,mS.2,mS.1⟩
 . rw[ib]
   simp only[Ws,<- e3,he,S1,S2,S3,S4,S5,H,M,bs,c2,Yh,iK];refine⟨⟨e1,λ _=>trivial,λ _=>⟨okl _,λ _=>trivial,λ _=>q1⟩⟩,(λ h=>by cases h),λ _=>⟨c1,pI _ _ hl,(xr _ _ _ _ hs.1).1,⟨λ _=>th1,λ _=>th2⟩,t1,by rw[s8];exact hroom1,⟨λ hc=>⟨(mac hc).1,(mac hc).2.1,(mac hc).2.2.1⟩,λ _=>trivial⟩,u1,hroom2,r1,by rw[BE];exact g1,trivial,trivial,trivial⟩⟩
 . rw[gF,wg]
   have hrow:=hm.row (BR ((x.1,x.2.1),E0 (x.2.2.2.1,x.2.2.2.2.1),k)).toNat (by omega)
   have okA:QX ((x.1,x.2.1),E0 (x.2.2.2.1,x.2.2.2.2.1),k):=by
    have:=ola.2;rw[Ux.eq_1] at this;refine this.2.2 ?_;simp only;rw[eo.map,Ba,Ba,AG,Ap,CM,DP (by omega),DP (by omega)];rfl
   simp only[he,bi,I1,eg,I2,I3,I4,I5,I6,H,d2,Yh,r3];refine⟨⟨e2,λ _=>trivial,λ _=>⟨λ _=>trivial,λ _=>⟨λ _=>trivial,λ _=>q2⟩⟩⟩,(λ h=>by cases h),λ _=>⟨d1,qb _ _ hl,okA,⟨la1,la2⟩,by rw[Ax];omega,⟨k0,?_⟩,?_,⟨λ _=>th3,λ _=>th4⟩,t2,by rw[s8];exact hroom1,⟨λ hc=>⟨(mac hc).1,(mac hc).2.1,(mac hc).2.2.2.1⟩,λ _=>trivial⟩,u2,hroom2,r2,by rw[BE];exact g2,trivial,trivial,trivial⟩⟩
   . rw[A8,Ax];omega
   . rw[A8,Ax,Ax];omega
 . rw[gM]
   simp only[Ws,<- e3,he,S1,S3,S4,S5,H,M,bs,CP,BE,g3,E x]
 . rw[gW,vC]
   simp only[he,bi,I4,I5,I6,H,CP,BE,r3,g4,E x]
end
section
set_option maxRecDepth 20000
theorem ZcN {c:B4×Int->Bool} {f:B4×Int->B4×Int} (x:CY) (hok:∀ i,i<x.length->Lc (BU x i) (x.getD i (0,0,0)))
 (hc:∀ (dn:B4) (i:Nat),i<x.length->Lc dn (x.getD i (0,0,0))->c (dn,(i:Int))=true) (hf:∀ (dn:B4) (i:Nat),i<x.length->f (dn,(i:Int))=(Ew dn (x.getD i (0,0,0)),(i:Int)+1))
 (hn:∀ dn:B4,c (dn,(x.length:Int))=false):Am c f ([],0)=(BU x x.length,(x.length:Int)):=
 (Iw (p:=λ _=>True) x.length (λ i=>(BU x i,(i:Int))) (x0:=([],0)) rfl (λ i hi=>⟨trivial,hc _ i hi (hok i hi),by rw[hf _ i hi,<- Pu x hi];simp⟩) ⟨trivial,hn _⟩).2
theorem yf(x:CY)(h8:x.length<=8)(h0:BU x x.length=[])(hok:∀ i,i<x.length->Lc (BU x i) (x.getD i (0,0,0))):Gi x=true:=by
 rw[Y3,ZcN x hok (λ dn i hi hk=>by
  obtain⟨k1,k2,k3,k4⟩:=hk;simp only[Ao,A8,Ax,Bn,MF,LH,Gu,AD,AG,Ba,Nh,Ap,Bv,CM];rw[Iy (show (i:Int)<(x.length:Int) by omega),k3,Iy k1,Iy k2];have e:decide ((x.getD i (0,0,0)).1=2)=decide (0<=B7 (dn,(x.getD i (0,0,0)).1,(x.getD i (0,0,0)).2.1,(x.getD i (0,0,0)).2.2)):=decide_eq_decide.2 k4
  rw[e];simp) (λ dn i hi=>by
  simp only[A8,Ax,Bn,MF,BF,Bv,Ar,BE];rw[Bu (by unfold AO;omega)]
  rfl) (λ dn=>by simp only[Ao,AD,Ap];rw[DP (by omega)];rfl)]
 rw[h0,Ao,Ao,AD,AD,AG,Ap,Ev,Bv,DP (show ¬ (x.length:Int)<(x.length:Int) by omega),Iy (show (x.length:Int)<=8 by omega)];rfl
def RunOk(x:CY):Prop:=BU x x.length=[]/\∀ i,i<x.length->Lc (BU x i) (x.getD i (0,0,0))
theorem mH(a b:CY)(h:BU a a.length=[])(i:Nat)(hi:i<=b.length):BU (a++b) (a.length+i)=BU b i:=by
 unfold BU at h ⊢;rw[HE] at h;rw[List.take_append,P1 (by omega),List.foldl_append,h,show a.length+i-a.length=i by omega]
theorem RunOk.app{a b:List CS}(ha:RunOk a)(hb:RunOk b):RunOk (a++b):=by
 refine⟨by rw[Cq,mH a b ha.1 _ (BI _)];exact hb.1,λ i hi=>?_⟩;rw[Cq] at hi;by_cases h:i<a.length
 . have e:BU (a++b) i=BU a i:=by unfold BU;rw[List.take_append_of_le_length (by omega)]
   rw[e,Ee,Bx h,<- Ee];exact ha.2 i h
 . obtain⟨j,rfl⟩:∃ j,i=a.length+j:=⟨i-a.length,by omega⟩;rw[mH a b ha.1 j (by omega),Ee,Db (by omega),show a.length+j-a.length=j by omega,<- Ee];exact hb.2 j (by omega)
theorem RunOk.nil:RunOk []:=⟨rfl,λ i h=>by simp at h⟩
theorem bp(s:CS):B7 ([],s)=-1:=by
 rcases WS [] s (by simp) with h|h
 . exact h
 . simp at h;omega
theorem ya(a:Fc)(k c m:Int)(h:(a.2.2.1,a.2.2.2.1)≠(c,m)):B7 ([a],k,c,m)=-1:=by
 rw[Ng,Zw _ _ (by simp)]
 have e:CO (λ i=>decide (([a].map Bi).getD i (0,0)=(c,m))) ([a].map Bi).length 0=1:=by
  show CO _ 1 0=1;unfold CO;have:decide (([a].map Bi).getD 0 (0,0)=(c,m))=false:=DP h;rw[this];rfl
 rw[e,Ae (by simp)]
theorem RunOk.tap(c m:Int)(h:Bt (2,c,m,0)=true):RunOk [(0,c,m)]:=by
 have e0:BU [(0,c,m)] 0=[]:=rfl
 have e1:BU [(0,c,m)] 1=[]:=by show Ew [] (0,c,m)=[];unfold Ew;simp
 refine⟨e1,λ i hi=>?_⟩
 have:i=0:=by simp at hi;omega
 subst this;rw[e0];refine⟨by simp,by simp,h,?_⟩;show (0:Int)=2↔0<=B7 ([],(0,c,m));rw[bp];omega
theorem RunOk.hold(c m c2:Int)(h:Bt (2,c,m,0)=true)(h2:Bt (2,c2,8,0)=true)(hm:m≠8):RunOk [(1,c,m),(0,c2,8),(2,c,m)]:=by
 have e0:BU [(1,c,m),(0,c2,8),(2,c,m)] 0=[]:=rfl
 have e1:BU [(1,c,m),(0,c2,8),(2,c,m)] 1=[mA (1,c,m)]:=by show Ew [] (1,c,m)=_;unfold Ew;simp
 have e2:BU [(1,c,m),(0,c2,8),(2,c,m)] 2=[mA (1,c,m)]:=by
  rw[Pu _ (by simp),e1];show Ew [mA (1,c,m)] (0,c2,8)=_;unfold Ew;simp
 have f2:B7 ([mA (1,c,m)],(2,c,m))=0:=by
  have:=kj [] (2,c,m) (by simp) (by rw[bp];decide);exact this
 have e3:BU [(1,c,m),(0,c2,8),(2,c,m)] 3=[]:=by
  rw[Pu _ (by simp),e2];show Ew [mA (1,c,m)] (2,c,m)=_;unfold Ew;rw[Ae (by simp),Ac rfl,f2];exact iv [] (mA (1,c,m)) (by simp)
 refine⟨e3,λ i hi=>?_⟩
 have hi:i=0\/i=1\/i=2:=by simp at hi;omega
 rcases hi with rfl|rfl|rfl
 . rw[e0];refine⟨by simp,by simp,h,?_⟩;show (1:Int)=2↔0<=B7 ([],(1,c,m));rw[bp];omega
 . rw[e1];refine⟨by simp,by simp,h2,?_⟩;show (0:Int)=2↔0<=B7 ([mA (1,c,m)],(0,c2,8));rw[ya _ _ _ _ (by simp[mA];intro _;exact hm)];omega
 . rw[e2];refine⟨by simp,by simp,h,?_⟩;show (2:Int)=2↔0<=B7 ([mA (1,c,m)],(2,c,m));rw[f2];omega
theorem Zbl(c:CB)(h:B5 c):OH c/\RunOk (Jl c).1/\(Jl c).1.length<=6/\B5 (c.1,(Jl c).2):=by
 rw[uQ,u7];obtain⟨a1,a2,_,a4⟩:=Fx c 3 h;have a4:=a4 (by omega)
 have key:=Pv (c:=QO) (f:=QG c) (p:=YM c)
  (λ st=>B5 (c.1,st.2.2)/\RunOk st.1/\0<=st.2.1/\st.2.1<=2/\(st.1.length:Int)+3*st.2.1<=6) (λ st=>st.2.1.toNat) (λ st hI=>?_) (x0:=([],As (c,3))) ⟨a2,RunOk.nil,by simp only;omega,by simp only;omega,by simp only[AJ];omega⟩
 . obtain⟨k1,⟨k2,k3,k4,_,k5⟩,_⟩:=key;exact⟨⟨a1,k1⟩,k3,by simp only;omega,k2⟩
 . obtain⟨l,n,q⟩:=st;obtain⟨h1,h2,h3,h4,h5⟩:=hI;simp only at h1 h2 h3 h4 h5;obtain⟨b1,b2,_,b4⟩:=Fx (c.1,q) 56 h1;have b4:=b4 (by omega);obtain⟨p1,p2,p3⟩:=Zb7 (c.1,(As ((c.1,q),56)).2) [0,0,2,1] (by simp) b2;obtain⟨o1,o2⟩:=WX (c.1,(Di ((c.1,(As ((c.1,q),56)).2),[0,0,2,1])).2) 2 p2;simp only[QO,QG,YM];generalize As ((c.1,q),56)=B at b2 b4 p1 p2 p3 o1 o2 ⊢;generalize Di ((c.1,B.2),[0,0,2,1])=P at p2 p3 o1 o2 ⊢;generalize Cu ((c.1,P.2),2)=O at o2 ⊢;have eB:iAdd .i64 1 B.1=1+B.1:=Bu (by unfold AO;omega)
   have eL:iSub .i64 (iSub .i64 60 (lLen l)) 10=50-(l.length:Int):=by
    have e1:iSub .i64 60 (l.length:Int)=60-(l.length:Int):=Er (by unfold AO;omega);rw[Ao,e1,Er (by unfold AO;omega)];omega
   have hP:P.1=0\/P.1=2\/P.1=1:=by simpa using p3
   simp only[eB,eL,CQ,BE,Ar,Bo];refine⟨⟨λ _=>⟨b1,p1,o1,λ _=>(by unfold Av;simp only[AH,AJ];omega),λ _=>(by unfold Av;simp only[AH,AJ];omega)⟩,λ _=>trivial⟩,λ hn=>?_⟩;have es:iSub .i64 n 1=n-1:=Er (by unfold AO;omega);rw[es];have act1:Bt (2,1+B.1,P.1,0)=true:=(DA _ _ _ _).2 (by omega)
   have hl:(l.length:Int)<=3:=by omega
   have act2:Bt (2,50-(l.length:Int),8,0)=true:=(DA _ _ _ _).2 (by omega);refine⟨⟨?_,?_,by omega,by omega,?_⟩,by omega⟩
   . simp only[BF,ite_self];exact o2
   . rw[BF];split
     . exact h2.app (RunOk.tap _ _ act1)
     . exact h2.app (RunOk.hold _ _ _ act1 act2 (by omega))
   . rw[BF];split<;>simp only[Cq,AH,AJ]<;>omega
end
section
set_option maxRecDepth 20000
theorem kv(c:CB)(e:Cj):C5 (c,e)=BZ c/\Jg (c,e)=Im c:=by
 rw[sR,gk,sy,gd];exact⟨rfl,rfl⟩
theorem Zbi(c:CB)(e:Cj)(n:Int):OK (c,e,n)=Cu (c,n)/\Ov (c,e,n)=Kr (c,n):=by
 rw[sA,gq,ta,gr,rz,fO,r8,fM];simp only[λ c=>(kv c e).1,λ c=>(kv c e).2];exact⟨trivial,trivial⟩
def EngG(k:Int)(x:Cj):Prop:=EngOk x/\F0 x/\x.1=k
theorem bS{l:B4}(h:l.length<=1048576):Po l:=⟨h,λ _ _=>⟨trivial,trivial⟩⟩
theorem EngG.hl{k:Int}{x:Cj}(h:EngG k x):x.2.2.2.2.1.length<=32:=br h.2.1.2.2.1.1 h.1.held
theorem EngG.is{k:Int}{x:Cj}(h:EngG k x):CV x=true:=(VP x h.2.1).2 h.1
theorem EngG.press{k:Int}{x:Cj}(g:EngG k x)(key:Int)(h:Bool)(k0:0<=key)(k1:key<k)(hn:BS (x,key)<0):EngG k (DW x key h):=by
 obtain⟨g1,g2,g3⟩:=g;have hl:x.2.2.2.2.1.length<=32:=EngG.hl ⟨g1,g2,g3⟩
 have hne:∀ a∈x.2.2.2.2.1,a.1≠key:=by
  rcases OZ x key g2.2.2.1.1 with⟨_,h2⟩|⟨i,_,h2,_⟩
  . exact h2
  . omega
 refine⟨Zb1 g1 g2 key h k0 (by omega) hne,⟨g2.1,g2.2.1,bS ?_,trivial⟩,g3⟩;show (Cs x key h).length<=_;unfold Cs;simp only[Cq,AH,AJ];omega
theorem EngG.rel{k:Int}{x:Cj}(g:EngG k x)(i:Nat):EngG k (x.1,x.2.1,x.2.2.1,x.2.2.2.1,x.2.2.2.2.1.eraseIdx i,x.2.2.2.2.2):=by
 obtain⟨g1,g2,g3⟩:=g;have hl:x.2.2.2.2.1.length<=1048576:=g2.2.2.1.1;exact⟨g1.rel hl i,⟨g2.1,g2.2.1,bS (JC (List.eraseIdx_sublist x.2.2.2.2.1 i).length_le hl),trivial⟩,g3⟩
theorem Zax{k:Int}{x:Cj}(g:EngG k x)(key:Int)(h:Bool)(k0:0<=key)(k1:key<k) :
 MT (x,key,h)/\((Jp (x,key,h)).2.2=true/\EngG k (Jp (x,key,h)).1\/(Jp (x,key,h)).2.2=false/\QV (x,key)/\EngG k (Q8 (x,key)).1):=by
 have hs:=g.2.1
 have hk:=g.2.2
 rcases OZ x key hs.2.2.1.1 with⟨h1,h2⟩|⟨i,h1,h2,_⟩
 . obtain⟨p1,_,p3,_⟩:=az x key h hs g.is k0 (by omega) (by omega)
   refine⟨p1,.inl ?_⟩;rw[p3];exact⟨rfl,g.press key h k0 k1 (by omega)⟩
 . obtain⟨p1,_,p3,_⟩:=j8 x key h hs (.inr (.inr (.inr (by omega))))
   obtain⟨r1,_,r3,_⟩:=ZH x key hs g.is i h1 h2;refine⟨p1,.inr ?_⟩;rw[p3,r3];exact⟨rfl,r1,g.rel i⟩
theorem ZaH(c:CB)(k:Int)(h:B5 c)(k1:1<=k)(k2:k<=32):OQ (c,k)/\EngG k (AP (c,k)).1/\B5 (c.1,(AP (c,k)).2):=by
 rw[vV,vQ];obtain⟨a1,a2,_,a4⟩:=Fx c 4 h;have a4:=a4 (by omega)
 have key:=Pv (c:=Jh) (f:=Jj (c,k)) (p:=Za (c,k))
  (λ st=>B5 (c.1,st.2.2)/\(∀ m∈st.1,RunOk m/\m.length<=6)/\0<=st.2.1/\(st.1.length:Int)+st.2.1<=3) (λ st=>st.2.1.toNat) (λ st hI=>?_) (x0:=([],As (c,4))) ⟨a2,λ m hm=>by simp at hm,by simp only;omega,by simp only[AJ];omega⟩
 . obtain⟨q1,⟨q2,q3,q4,q5⟩,_⟩:=key;generalize Am Jh (Jj (c,k)) ([],As (c,4))=st at *;obtain⟨d1,d2,d3,d4⟩:=Zas (c.1,st.2.2) k q2 k1 k2;simp only at d1 d2 d3 d4 ⊢;generalize It ((c.1,st.2.2),k)=M at d2 d3 d4 ⊢;obtain⟨⟨kk,L⟩,cu⟩:=M;simp only at d2 d3 d4 ⊢;subst d4;have hk:Gp (kk,L):=Zc8 d3;have hm:M8 st.1:=⟨by omega,λ m hm=>⟨by have:=(q3 m hm).2;omega,λ _ _=>trivial⟩⟩;obtain⟨n1,_,_,n4⟩:=vE kk L st.1 hk hm;have hs:F0 (kk,L,st.1,0,[],0,false):=⟨hk,hm,bS (by simp),trivial⟩
   have ok:EngOk (kk,L,st.1,0,[],0,false):=by
    refine⟨kI d3,by simp only;omega,λ m hm'=>?_,(M1 (by simp)).2 ⟨by simp,by simp⟩,by simp,by simp,by simp,by simp,by simp,?_⟩
    . obtain⟨r1,r2⟩:=q3 m hm';rw[<- ZO m (by omega)];exact yf m (by omega) r1.1 r1.2
    . have:=Nat.two_pow_pos L.length;simp only;omega
   have e1:Ol ((kk,L),st.1)=((kk,L,st.1,0,[],0,false),true):=by
    obtain⟨_,_,c3⟩:=MU _ hs;have:=(VP _ hs).2 ok;rw[c3] at this;rw[eV];simp only[this,(Wk _ hs).2];rw[show bNot true=false by rw[AG];rfl,CP]
   refine⟨⟨a1,q1,d1,n1⟩,?_,d2⟩;rw[e1];exact⟨ok,hs,rfl⟩
 . obtain⟨l,n,q⟩:=st;obtain⟨h1,h2,h3,h4⟩:=hI;simp only at h1 h2 h3 h4;obtain⟨b1,b2,b3,b4⟩:=Zbl (c.1,q) h1;simp only[Jh,Jj,Za,CQ,BE,Ar];refine⟨⟨λ _=>⟨b1,by unfold Av;simp only[AH,AJ];omega⟩,λ _=>trivial⟩,λ hn=>?_⟩;have es:iSub .i64 n 1=n-1:=Er (by unfold AO;omega);rw[es];refine⟨⟨b4,λ m hm=>?_,by omega,by simp only[Cq,AH,AJ];omega⟩,by omega⟩;rw[CF,List.mem_singleton] at hm;rcases hm with hm|rfl
   . exact h2 m hm
   . exact⟨b2,b3⟩
theorem zT(c:CB)(k:Int)(h:B5 c)(k1:1<=k)(k2:k<=32):OE (c,k)/\EngG k (MQ (c,k)).1/\B5 (c.1,(MQ (c,k)).2):=by
 rw[tI,uu];obtain⟨n1,n2,n3⟩:=ZaH c k h k1 k2;simp only[Ej];generalize AP (c,k)=N at n2 n3 ⊢;obtain⟨e,cu⟩:=N;simp only at n2 n3 ⊢;obtain⟨b1,b2,_,b4⟩:=Fx (c.1,cu) 8 n3;have b4:=b4 (by omega)
 have key:=Pv (c:=Ib) (f:=H9 (c,k)) (p:=YO (c,k))
  (λ st=>B5 (c.1,st.2.2.2.2.2.2.2.2)/\EngG k (st.2.1,st.2.2.1,st.2.2.2.1,st.2.2.2.2.1,st.2.2.2.2.2.1,st.2.2.2.2.2.2.1,st.2.2.2.2.2.2.2.1)/\0<=st.1/\st.1<=8) (λ st=>st.1.toNat) (λ st hI=>?_)
  (x0:=((As ((c.1,cu),8)).1,e.1,e.2.1,e.2.2.1,e.2.2.2.1,e.2.2.2.2.1,e.2.2.2.2.2.1,e.2.2.2.2.2.2,(As ((c.1,cu),8)).2)) ⟨b2,n2,by simp only;omega,by simp only;omega⟩
 . obtain⟨q1,⟨q2,q3,_⟩,_⟩:=key;exact⟨⟨n1,b1,q1⟩,q3,q2⟩
 . obtain⟨n,kk,L,mc,fx,hd,on,cp,q⟩:=st;obtain⟨h1,h2,h3,h4⟩:=hI;simp only at h1 h2 h3 h4;obtain⟨p1,p2,_,p4⟩:=Fx (c.1,q) k h1;have p4:=p4 (by omega);obtain⟨o1,o2⟩:=WX (c.1,(As ((c.1,q),k)).2) 2 p2;obtain⟨oq1,oq2⟩:=Zbi (c.1,(As ((c.1,q),k)).2) (0,[],[],0,[],0,false) 2;obtain⟨s1,s2⟩:=Zax h2 (As ((c.1,q),k)).1 (Cu ((c.1,(As ((c.1,q),k)).2),2)).1 p4.1 p4.2;simp only[Ib,H9,YO,MH,Un,Lo,EW,oq1,oq2,CQ,Ar];generalize As ((c.1,q),k)=B at *;generalize Cu ((c.1,B.2),2)=O at *
   have es:0<n->iSub .i64 n 1=n-1:=λ _=>Er (by unfold AO;omega)
   rcases s2 with⟨t1,t2⟩|⟨t1,t2,t3⟩
   . rw[t1]
     have e0:bNot true=false:=by rw[AG];rfl
     simp only[e0,CP];refine⟨⟨λ _=>⟨p1,o1,s1,(λ h=>by cases h),λ _=>trivial⟩,λ _=>trivial⟩,λ hn=>?_⟩;rw[es hn];exact⟨⟨o2,t2,by omega,by omega⟩,by omega⟩
   . rw[t1]
     have e0:bNot false=true:=by rw[AG];rfl
     simp only[e0,Dc];refine⟨⟨λ _=>⟨p1,o1,s1,λ _=>t2,λ _=>trivial⟩,λ _=>trivial⟩,λ hn=>?_⟩;rw[es hn];exact⟨⟨o2,t3,by omega,by omega⟩,by omega⟩
theorem wG(x:Bb)(k:Int)(h:x.length<=1048576)(k1:1<=k)(k2:k<=32):TT (x,k)/\EngG k (BW (x,k)):=by
 rw[p9,pz];obtain⟨a1,a2⟩:=j3 x 7 h;obtain⟨b1,b2,_⟩:=zT (Jn (x,7)) k a2 k1 k2;exact⟨⟨a1,b1⟩,b2⟩
end
section
set_option maxRecDepth 20000
def dW(x:Cj)(key:Int)(h:Bool):List B3:=HU (AY x.2.2.2.2.1) (Fi x key h++[AY (Cs x key h)])
theorem Zc5{k:Int}{x:Cj}(g:EngG k x)(key:Int)(h:Bool)(k0:0<=key)(k1:key<k) :
 MT (x,key,h)/\OV (x,key,h)/\Km (x,key) /\
 (((∀ a∈x.2.2.2.2.1,a.1≠key)/\BS (x,key)<0/\EngG k (DW x key h)/\Jp (x,key,h)=(DW x key h,dW x key h,true)/\MV (x,key,h)=(DW x key h,dW x key h,true)) \/
  (∃ j:Nat,j<x.2.2.2.2.1.length/\BS (x,key)=(j:Int)/\Jp (x,key,h)=(Yd,[],false)/\MV (x,key,h)=(Yd,[],false))):=by
 have hs:=g.2.1
 have hk:=g.2.2
 obtain⟨_,h0⟩:=RB (x,key) hs.2.2.1.1
 rcases OZ x key hs.2.2.1.1 with⟨h1,h2⟩|⟨i,h1,h2,_⟩
 . obtain⟨p1,p2,p3,p4,_⟩:=az x key h hs g.is k0 (by omega) (by omega)
   exact⟨p1,p2,h0,.inl ⟨h2,by omega,g.press key h k0 k1 (by omega),p3,p4⟩⟩
 . obtain⟨p1,p2,p3,p4⟩:=j8 x key h hs (.inr (.inr (.inr (by omega))))
   exact⟨p1,p2,h0,.inr ⟨i,h1,h2,p3,p4⟩⟩
theorem EngG.caps{k:Int}{x:Cj}(g:EngG k x)(b:Bool):EngG k (x.1,x.2.1,x.2.2.1,x.2.2.2.1,x.2.2.2.2.1,x.2.2.2.2.2.1,b):=by
 obtain⟨⟨a1,a2,a3,a4,a5,a6,a7,a8,a9,a10⟩,g2,g3⟩:=g;exact⟨⟨a1,a2,a3,a4,a5,a6,a7,a8,a9,a10⟩,g2,g3⟩
theorem EngG.act{k:Int}{x:Cj}(g:EngG k x)(key:Int)(h:Bool)(k0:0<=key)(k1:key<k):Bt (Lb x key h)=true:=(Wi g.1 g.2.1 key h k0 (by have:=g.2.2;omega)).1
theorem zb{k:Int}{x:Cj}(g:EngG k x)(key:Int)(h:Bool)(hn:∀ a∈x.2.2.2.2.1,a.1≠key)(gp:EngG k (DW x key h)) :
 MK (DW x key h,key)/\∃ l,Lz (DW x key h,key)=((x.1,x.2.1,x.2.2.1,(AF x key h).2.2.2.2.1,x.2.2.2.2.1,(AF x key h).2.2.2.2.2.2),l,true):=by
 have eH:(DW x key h).2.2.2.2.1=x.2.2.2.2.1++[(key,(AF x key h).1)]:=rfl
 rcases OZ (DW x key h) key gp.2.1.2.2.1.1 with⟨_,h2⟩|⟨j,h1,h2,h3⟩
 . rw[eH] at h2;exact absurd rfl (h2 (key,(AF x key h).1) (by simp))
 . obtain⟨_,r1,_,r3⟩:=ZH _ key gp.2.1 gp.is j h1 h2
   refine⟨r1,HU (AY (DW x key h).2.2.2.2.1) [AY ((DW x key h).2.2.2.2.1.eraseIdx j)],?_⟩
   have hj:j=x.2.2.2.2.1.length:=by
    rw[eH] at h1 h3;simp only[Cq,AH,AJ] at h1
    refine Classical.byContradiction λ hne=>?_
    have hlt:j<x.2.2.2.2.1.length:=by omega
    rw[show (x.2.2.2.2.1++[(key,(AF x key h).1)]).getD j (0,0,0,0,0)=x.2.2.2.2.1.getD j (0,0,0,0,0) by simp only[List.getD];rw[Bx hlt]] at h3;exact hn _ (DK x.2.2.2.2.1 j _ hlt) h3
   rw[r3]
   have e2:(DW x key h).2.2.2.2.1.eraseIdx j=x.2.2.2.2.1:=by
    rw[eH,hj,List.eraseIdx_append_of_length_le (BI _)];simp
   rw[e2];rfl
end
section
set_option maxRecDepth 8000
def q8:DCode:=(.seq [1,0] (.region [oa 0 4 (.mv An)]) (.seq [1,0] (.seq [10,1,0] (.region [on 0 6 0,oa 1 7 (.len (.t 6)),on 2 8 1,oa 3 9 (.len (.t 8)),oa 4 10 (.bin .neq (.t 7) (.t 9))]) (.cond (.t 10) (.seq [4] (.region [oa 0 4 (.mv An)]) .ret) .skip)) (.seq [] (.seq [5,1,0] (.region [oi 0 5 0]) (.block 0 (.loop [0,1,5] 1 (.seq [5,1,0] (.seq [14,5,1,0] (.region [om 0 11 5,on 1 12 0,oa 2 13 (.len (.t 12)),oa 3 14 (.bin .lss (.t 11) (.t 13))]) (.cond (.t 14) .skip (.exit 0))) (.seq [5,1,0] (.block 1 (.seq [25,5,1,0] (.region [on 0 17 0,om 1 18 5,xA 2 19 (.indexA 5 (.t 17) (.t 18)) (rg 2),xA 3 20 (.loadH (some 5) (.t 19)) (rg 3),on 4 21 1,om 5 22 5,xA 6 23 (.indexA 5 (.t 21) (.t 22)) [4,5],xA 7 24 (.loadH (some 5) (.t 23)) [4,5,6],xA 8 25 (.eqA 5 true (.t 20) (.t 24)) (rg 8)]) (.cond (.t 25) (.seq [4] (.region [oa 0 4 (.mv An)]) .ret) .skip))) (.region [om 0 15 5,oa 1 16 (.bin .add (.t 15) Au),om 2 5 16])))))) (.seq [4] (.region [oa 0 4 (.mv AR)]) .ret))))
def FT:Fn:=⟨⟨2,26,0,true,[.tmp 4],q8⟩,[.one .frz (.sl Bj),.one .frz (.sl Bj)],.one (.one .own (.bool))⟩
theorem fp:FT.A:=AV trivial
def QR:F8->Bool:=FT.V
def QK:F8->Prop:=FT.O
theorem fB:FT.B:=AX trivial (by kernel_rfl) (λ x=>by kernel_rfl)
def qF:DCode:=(.seq [0] (.region [oa 0 2 (.mv An)]) (.seq [0] (.seq [16,0] (.region [on 0 15 0,oF 1 16 KF [(.t 15)]]) (.cond (.t 16) (.seq [2] (.region [oa 0 2 (.mv AR)]) .ret) .skip)) (.seq [3,0] (.region [on 0 17 0,oF 1 18 J8 [(.t 17),(.c (.int .i64 5))],oa 2 3 (.allocB 0 [Ab,.nils,.nils,Ab,.nils,Ab,Cy]),os 3 (.storeB 0 7 (.t 3) (.t 18))]) (.seq [4,3,0] (.region [⟨0,some 19,.fzb (.t 3) (.mv (.t 0)),none,[]⟩,oF 1 20 H4 [(.t 19),(.c (.int .i64 14)),(.c (.int .i64 5))],om 2 4 20]) (.seq [5,4,3,0] (.region [oa 0 21 (.loadB 0 (some 7) (.t 3)),om 1 22 4,oF 2 23 Dw [(.t 21),(.t 22)],om 3 5 23]) (.seq [8,7,6,5,4,3] (.region [oa 10 6 (.allocH [Ab,.nils,.nils,Ab,.nils,Ab,Cy]),oa 0 25 (.loadB 0 (some 7) (.t 3)),om 1 26 4,on 2 27 0,xF 3 28 H4 [(.t 27),(.c (.int .i64 15)),(.c (.int .i64 2))] [2],xA 4 29 (.bin .eql (.t 28) AE) [2,3],xF 5 30 Kz [(.t 25),(.t 26),(.t 29)] (rg 5),xA 6 24 (.mv (.t 30)) (rg 6),xA 7 31 (.extract (.t 24) 0) (rg 7),xA 8 32 (.extract (.t 24) 1) [0,1,2,3,4,5,6],xA 9 33 (.extract (.t 24) 2) [0,1,2,3,4,5,6],xS 11 (.storeH 7 (.t 6) (.t 31)) [0,1,2,3,4,5,6,7,10],xB 12 7 (.mv (.t 32)) [0,1,2,3,4,5,6,7,8,10,11],xA 13 8 (.mv (.t 33)) (rg 13)]) (.seq [8,7,6,4,3] (.seq [42,8,7,6,4,3] (.region [om 0 34 8,om 1 35 5,oa 2 36 (.bin .lss (.t 35) AE),oa 3 37 (.eqB true (.t 34) (.t 36)),om 4 38 37,og 5 39 (.loadB 0 (some 7) (.t 3)) 38 false,⟨6,some 40,.call false EZ.S EZ.P EZ.D [(.t 39)],(some (38,false)),[]⟩,og 7 41 (.un .not (.t 40)) 38 false,oa 8 42 (.pick (.t 38) AR (.t 41))]) (.cond (.t 42) (.seq [2] (.region [oa 0 2 (.mv An)]) .ret) .skip)) (.seq [7,6,4,3] (.seq [44,7,6,4,3] (.region [om 0 43 8,oa 1 44 (.un .not (.t 43))]) (.cond (.t 44) (.seq [11,9,4,3] (.region [oa 0 46 (.loadB 0 (some 7) (.t 3)),om 1 47 4,oF 2 48 Il [(.t 46),(.t 47)],om 3 45 48,oa 4 49 (.extract (.t 45) 0),oa 5 50 (.extract (.t 45) 1),oa 6 51 (.extract (.t 45) 2),oa 7 9 (.allocB 1 [Ab,.nils,.nils,Ab,.nils,Ab,Cy]),os 8 (.storeB 1 7 (.t 9) (.t 49)),on 9 10 50,om 10 11 51]) (.seq [2] (.region [om 0 52 11,om 1 53 52,og 2 54 (.fieldA 4 (.t 9)) 53 true,og 3 55 (.loadB 1 none (.t 54)) 53 true,og 4 56 (.len (.t 55)) 53 true,og 5 57 (.fieldA 4 (.t 3)) 53 true,og 6 58 (.loadB 0 none (.t 57)) 53 true,og 7 59 (.len (.t 58)) 53 true,og 8 60 (.bin .sub (.t 59) Au) 53 true,og 9 61 (.bin .eql (.t 56) (.t 60)) 53 true,oa 10 62 (.pick (.t 53) (.t 61) An),om 11 63 62,og 12 64 (.loadB 1 (some 7) (.t 9)) 63 true,og 13 65 (.mv (.t 4)) 63 true,⟨14,some 66,.call false Dw.S Dw.P Dw.D [(.t 64),(.t 65)],(some (63,true)),[]⟩,og 15 67 (.bin .lss (.t 66) AE) 63 true,oa 16 68 (.pick (.t 63) (.t 67) An),om 17 2 68]) .ret)) .skip)) (.seq [7,6,4,3] (.seq [105,7,6,4,3] (.region [oa 0 69 (.loadH (some 7) (.t 6)),xF 1 70 EZ [(.t 69)] (rg 1),xA 2 71 (.un .not (.t 70)) (rg 2),xA 3 72 (.mv (.t 71)) (rg 3),⟨4,some 73,.a false (.fieldA 4 (.t 6)) none,(some (72,false)),[0,1,2,3]⟩,⟨5,some 74,.a false (.loadH none (.t 73)) none,(some (72,false)),[0,1,2,3,4]⟩,⟨6,some 75,.a false (.len (.t 74)) none,(some (72,false)),[0,1,2,3,4,5]⟩,⟨7,some 76,.a false (.fieldA 4 (.t 3)) none,(some (72,false)),[0,1,2,3]⟩,⟨8,some 77,.a false (.loadB 0 none (.t 76)) none,(some (72,false)),[0,1,2,3,7]⟩,⟨9,some 78,.a false (.len (.t 77)) none,(some (72,false)),[0,1,2,3,7,8]⟩,⟨10,some 79,.a false (.bin .add (.t 78) Au) none,(some (72,false)),[0,1,2,3,7,8,9]⟩,⟨11,some 80,.a false (.bin .neq (.t 75) (.t 79)) none,(some (72,false)),[0,1,2,3,4,5,6,7,8,9,10]⟩,xA 12 81 (.pick (.t 72) AR (.t 80)) (rg 12),xA 13 82 (.mv (.t 81)) (rg 13),⟨14,some 83,.a false (.fieldA 4 (.t 6)) none,(some (82,false)),[0,1,2,3,4,5,6,7,8,9,10,11,12,13]⟩,⟨15,some 84,.a false (.loadH none (.t 83)) none,(some (82,false)),[0,1,2,3,4,5,6,7,8,9,10,11,12,13,14]⟩,⟨16,some 85,.a false (.fieldA 4 (.t 3)) none,(some (82,false)),[0,1,2,3,4,5,6,7,8,9,10,11,12,13]⟩,⟨17,some 86,.a false (.loadB 0 none (.t 85)) none,(some (82,false)),[0,1,2,3,4,5,6,7,8,9,10,11,12,13,16]⟩,⟨18,some 87,.a false (.len (.t 86)) none,(some (82,false)),[0,1,2,3,4,5,6,7,8,9,10,11,12,13,16,17]⟩,⟨19,some 88,.a false (.slice 5 (.t 84) none (some (.t 87))) none,(some (82,false)),[0,1,2,3,4,5,6,7,8,9,10,11,12,13,14,15,16,17,18]⟩,⟨20,some 89,.a false (.fieldA 4 (.t 3)) none,(some (82,false)),[0,1,2,3,4,5,6,7,8,9,10,11,12,13]⟩,⟨21,some 90,.a false (.loadB 0 none (.t 89)) none,(some (82,false)),[0,1,2,3,4,5,6,7,8,9,10,11,12,13,20]⟩,⟨22,some 91,.call false FT.S FT.P FT.D [(.t 88),(.t 90)],(some (82,false)),[0,1,2,3,4,5,6,7,8,9,10,11,12,13,14,15,16,17,18,19,20,21]⟩,⟨23,some 92,.a false (.un .not (.t 91)) none,(some (82,false)),[0,1,2,3,4,5,6,7,8,9,10,11,12,13,14,15,16,17,18,19,20,21,22]⟩,xA 24 93 (.pick (.t 82) AR (.t 92)) (rg 24),xA 25 94 (.mv (.t 93)) (rg 25),⟨26,some 95,.a false (.fieldA 4 (.t 6)) none,(some (94,false)),[0,1,2,3,4,5,6,7,8,9,10,11,12,13,14,15,16,17,18,19,20,21,22,23,24,25]⟩,⟨27,some 96,.a false (.loadH none (.t 95)) none,(some (94,false)),[0,1,2,3,4,5,6,7,8,9,10,11,12,13,14,15,16,17,18,19,20,21,22,23,24,25,26]⟩,⟨28,some 97,.a false (.fieldA 4 (.t 3)) none,(some (94,false)),[0,1,2,3,4,5,6,7,8,9,10,11,12,13,14,15,16,17,18,19,20,21,22,23,24,25]⟩,⟨29,some 98,.a false (.loadB 0 none (.t 97)) none,(some (94,false)),[0,1,2,3,4,5,6,7,8,9,10,11,12,13,14,15,16,17,18,19,20,21,22,23,24,25,28]⟩,⟨30,some 99,.a false (.len (.t 98)) none,(some (94,false)),[0,1,2,3,4,5,6,7,8,9,10,11,12,13,14,15,16,17,18,19,20,21,22,23,24,25,28,29]⟩,⟨31,some 100,.a false (.indexA 5 (.t 96) (.t 99)) none,(some (94,false)),[0,1,2,3,4,5,6,7,8,9,10,11,12,13,14,15,16,17,18,19,20,21,22,23,24,25,26,27,28,29,30]⟩,⟨32,some 101,.a false (.fieldA 0 (.t 100)) none,(some (94,false)),[0,1,2,3,4,5,6,7,8,9,10,11,12,13,14,15,16,17,18,19,20,21,22,23,24,25,26,27,28,29,30,31]⟩,⟨33,some 102,.a false (.loadH none (.t 101)) none,(some (94,false)),[0,1,2,3,4,5,6,7,8,9,10,11,12,13,14,15,16,17,18,19,20,21,22,23,24,25,26,27,28,29,30,31,32]⟩,⟨34,some 103,.a false (.mv (.t 4)) none,(some (94,false)),[0,1,2,3,4,5,6,7,8,9,10,11,12,13,14,15,16,17,18,19,20,21,22,23,24,25]⟩,⟨35,some 104,.a false (.bin .neq (.t 102) (.t 103)) none,(some (94,false)),[0,1,2,3,4,5,6,7,8,9,10,11,12,13,14,15,16,17,18,19,20,21,22,23,24,25,26,27,28,29,30,31,32,33,34]⟩,xA 36 105 (.pick (.t 94) AR (.t 104)) (rg 36)]) (.cond (.t 105) (.seq [2] (.region [oa 0 2 (.mv An)]) .ret) .skip)) (.seq [6,4,3] (.seq [136,6,4,3] (.region [on 0 106 7,xA 1 107 (.len (.t 106)) (rg 1),xA 2 108 (.bin .gtr (.t 107) AE) (rg 2),xA 3 109 (.mv (.t 108)) (rg 3),⟨4,some 110,.a true (.mv (.t 7)) none,(some (109,true)),[0,1,2,3]⟩,⟨5,some 111,.a true (.mv (.t 7)) none,(some (109,true)),[0,1,2,3]⟩,⟨6,some 112,.a false (.len (.t 111)) none,(some (109,true)),[0,1,2,3,5]⟩,⟨7,some 113,.a false (.bin .sub (.t 112) Au) none,(some (109,true)),[0,1,2,3,5,6]⟩,⟨8,some 114,.a false (.indexA 2 (.t 110) (.t 113)) none,(some (109,true)),[0,1,2,3,4,5,6,7]⟩,⟨9,some 115,.a false (.loadH (some 2) (.t 114)) none,(some (109,true)),[0,1,2,3,4,5,6,7,8]⟩,⟨10,some 116,.a false (.fieldA 4 (.t 6)) none,(some (109,true)),[0,1,2,3]⟩,⟨11,some 117,.a false (.loadH none (.t 116)) none,(some (109,true)),[0,1,2,3,10]⟩,⟨12,some 118,.call false CN.S CN.P CN.D [(.t 117)],(some (109,true)),[0,1,2,3,10,11]⟩,⟨13,some 119,.call false EU.S EU.P EU.D [(.t 115),(.t 118)],(some (109,true)),[0,1,2,3,4,5,6,7,8,9,10,11,12]⟩,⟨14,some 120,.a false (.un .not (.t 119)) none,(some (109,true)),[0,1,2,3,4,5,6,7,8,9,10,11,12,13]⟩,xA 15 121 (.pick (.t 109) (.t 120) An) (rg 15),xA 16 122 (.mv (.t 121)) (rg 16),⟨17,some 123,.a true (.mv (.t 7)) none,(some (122,false)),[0,1,2,3,4,5,6,7,8,9,10,11,12,13,14,15,16]⟩,⟨18,some 124,.a false (.len (.t 123)) none,(some (122,false)),[0,1,2,3,4,5,6,7,8,9,10,11,12,13,14,15,16,17]⟩,⟨19,some 125,.a false (.bin .eql (.t 124) AE) none,(some (122,false)),[0,1,2,3,4,5,6,7,8,9,10,11,12,13,14,15,16,17,18]⟩,⟨20,some 126,.a false (.mv (.t 125)) none,(some (122,false)),[0,1,2,3,4,5,6,7,8,9,10,11,12,13,14,15,16,17,18,19]⟩,⟨21,some 127,.a false (.fieldA 4 (.t 6)) none,(some (126,true)),[0,1,2,3,4,5,6,7,8,9,10,11,12,13,14,15,16,17,18,19,20]⟩,⟨22,some 128,.a false (.loadH none (.t 127)) none,(some (126,true)),[0,1,2,3,4,5,6,7,8,9,10,11,12,13,14,15,16,17,18,19,20,21]⟩,⟨24,some 130,.a false (.fieldA 4 (.t 3)) none,(some (126,true)),[0,1,2,3,4,5,6,7,8,9,10,11,12,13,14,15,16,17,18,19,20]⟩,⟨25,some 131,.a false (.loadB 0 none (.t 130)) none,(some (126,true)),[0,1,2,3,4,5,6,7,8,9,10,11,12,13,14,15,16,17,18,19,20,24]⟩,⟨23,some 129,.call false CN.S CN.P CN.D [(.t 128)],(some (126,true)),[0,1,2,3,4,5,6,7,8,9,10,11,12,13,14,15,16,17,18,19,20,21,22]⟩,⟨26,some 132,.call false CN.S CN.P CN.D [(.t 131)],(some (126,true)),[0,1,2,3,4,5,6,7,8,9,10,11,12,13,14,15,16,17,18,19,20,21,22,23,24,25]⟩,⟨27,some 133,.call false EU.S EU.P EU.D [(.t 129),(.t 132)],(some (126,true)),[0,1,2,3,4,5,6,7,8,9,10,11,12,13,14,15,16,17,18,19,20,21,22,23,24,25,26]⟩,⟨28,some 134,.a false (.un .not (.t 133)) none,(some (126,true)),[0,1,2,3,4,5,6,7,8,9,10,11,12,13,14,15,16,17,18,19,20,21,22,23,24,25,26,27]⟩,⟨29,some 135,.a false (.pick (.t 126) (.t 134) An) none,(some (122,false)),[0,1,2,3,4,5,6,7,8,9,10,11,12,13,14,15,16,17,18,19,20,21,22,23,24,25,26,27,28]⟩,xA 30 136 (.pick (.t 122) AR (.t 135)) (rg 30)]) (.cond (.t 136) (.seq [2] (.region [oa 0 2 (.mv An)]) .ret) .skip)) (.seq [14,12,3] (.region [⟨0,some 138,.fzb (.t 6) (.loadH (some 7) (.t 6)),none,[]⟩,om 1 139 4,oF 2 140 Il [(.t 138),(.t 139)],om 3 137 140,oa 4 141 (.extract (.t 137) 0),oa 5 142 (.extract (.t 137) 1),oa 6 143 (.extract (.t 137) 2),oa 7 12 (.allocB 2 [Ab,.nils,.nils,Ab,.nils,Ab,Cy]),os 8 (.storeB 2 7 (.t 12) (.t 141)),on 9 13 142,om 10 14 143]) (.seq [2] (.region [om 0 144 14,om 1 145 144,og 2 146 (.fieldA 4 (.t 12)) 145 true,og 3 147 (.loadB 2 none (.t 146)) 145 true,og 4 148 (.fieldA 4 (.t 3)) 145 true,og 5 149 (.loadB 0 none (.t 148)) 145 true,⟨6,some 150,.call false FT.S FT.P FT.D [(.t 147),(.t 149)],(some (145,true)),[]⟩,oa 7 151 (.pick (.t 145) (.t 150) An),om 8 2 151]) .ret))))))))))))
def Hn:Fn:=⟨⟨1,152,3,true,[.tmp 2],qF⟩,[.one .frz (.sl (.one (.int .u8)))],.one (.one .own (.bool))⟩
theorem qx:Hn.A:=AV ⟨xN,pM,eK,Ra,eK,wL,T6,fQ,Ra,T6,fp,Lq,Yz,Lq,Lq,Yz,fQ,fp,trivial⟩
def Ue:Bb->Bool:=Hn.V
def TW:Bb->Prop:=Hn.O
end
section
set_option maxRecDepth 100000
theorem qX (x):QR x=(bAnd (bNot (iNe (lLen x.1) (lLen x.2))) (bNot (iLt (Am (fun(x0:Int)=>(bAnd (iLt x0 (lLen x.1)) (bNot (bNot (bAnd (iEq (lGet x.1 (iNat x0) (0,0,0,0,0)).1 (lGet x.2 (iNat x0) (0,0,0,0,0)).1) (bAnd (iEq (lGet x.1 (iNat x0) (0,0,0,0,0)).2.1 (lGet x.2 (iNat x0) (0,0,0,0,0)).2.1) (bAnd (iEq (lGet x.1 (iNat x0) (0,0,0,0,0)).2.2.1 (lGet x.2 (iNat x0) (0,0,0,0,0)).2.2.1) (bAnd (iEq (lGet x.1 (iNat x0) (0,0,0,0,0)).2.2.2.1 (lGet x.2 (iNat x0) (0,0,0,0,0)).2.2.2.1) (iEq (lGet x.1 (iNat x0) (0,0,0,0,0)).2.2.2.2 (lGet x.2 (iNat x0) (0,0,0,0,0)).2.2.2.2))))))))) (fun(x0:Int)=>(iAdd .i64 x0 1)) 0) (lLen x.1)))):=(FT.v x).trans (by kernel_rfl)
theorem qT (x):QK x=(((iNe (lLen x.1) (lLen x.2))=true->True)/\((iNe (lLen x.1) (lLen x.2))=false->(LoopOk (fun(x0:Int)=>(bAnd (iLt x0 (lLen x.1)) (bNot (bNot (bAnd (iEq (lGet x.1 (iNat x0) (0,0,0,0,0)).1 (lGet x.2 (iNat x0) (0,0,0,0,0)).1) (bAnd (iEq (lGet x.1 (iNat x0) (0,0,0,0,0)).2.1 (lGet x.2 (iNat x0) (0,0,0,0,0)).2.1) (bAnd (iEq (lGet x.1 (iNat x0) (0,0,0,0,0)).2.2.1 (lGet x.2 (iNat x0) (0,0,0,0,0)).2.2.1) (bAnd (iEq (lGet x.1 (iNat x0) (0,0,0,0,0)).2.2.2.1 (lGet x.2 (iNat x0) (0,0,0,0,0)).2.2.2.1) (iEq (lGet x.1 (iNat x0) (0,0,0,0,0)).2.2.2.2 (lGet x.2 (iNat x0) (0,0,0,0,0)).2.2.2.2))))))))) (fun(x0:Int)=>(iAdd .i64 x0 1)) (fun(x0:Int)=>(((iLt x0 (lLen x.1))=true->((((0:Int)<=x0)/\(x0<(((List.length x.1):Int))))/\(((iNat x0)<(List.length x.1))/\((((0:Int)<=x0)/\(x0<(((List.length x.2):Int))))/\((iNat x0)<(List.length x.2))))))/\((iLt x0 (lLen x.1))=false->True))) 0))):=(FT.o x).trans (by kernel_rfl)
def TH(x:Bb):=BL (BW (x,5)).2.2.2.2.1
def N8(x:Bb):=BS ((BW (x,5)),(DZ (x,14,5)))
def JY(x:Bb):=Lz ((BW (x,5)),(DZ (x,14,5)))
def A7(x:Bb):=MV ((BW (x,5)),(DZ (x,14,5)),(iEq (DZ (x,15,2)) 0))
def N9(x:Bb):=BL (A7 x).1.2.2.2.2.1
def N6(x:Bb):=Lz ((A7 x).1,(DZ (x,14,5)))
def N5(x:Bb):=QR ((lSub (A7 x).1.2.2.2.2.1 0 (iNat (lLen (BW (x,5)).2.2.2.2.1))),(BW (x,5)).2.2.2.2.1)
def MA(x:Bb):=FQ ((N9 x),(TH x))
def N3(x:Bb):=FQ ((lGet (A7 x).2.1 (iNat (iSub .i64 (lLen (A7 x).2.1) 1)) (0,[])),(N9 x))
theorem qD (x):Ue x=(bOr (Pc x) (bAnd (bNot (bOr (bNot (bIff (A7 x).2.2 (iLt (N8 x) 0))) (bNot (CV (BW (x,5)))))) (bSel (bNot (A7 x).2.2) (bAnd (JY x).2.2 (bAnd (iEq (lLen (JY x).1.2.2.2.2.1) (iSub .i64 (lLen (BW (x,5)).2.2.2.2.1) 1)) (iLt (BS ((JY x).1,(DZ (x,14,5)))) 0))) (bAnd (bNot (bOr (bNot (CV (A7 x).1)) (bOr (iNe (lLen (A7 x).1.2.2.2.2.1) (iAdd .i64 (lLen (BW (x,5)).2.2.2.2.1) 1)) (bOr (bNot (N5 x)) (iNe (lGet (A7 x).1.2.2.2.2.1 (iNat (lLen (BW (x,5)).2.2.2.2.1)) (0,0,0,0,0)).1 (DZ (x,14,5))))))) (bAnd (bNot (bSel (iGt (lLen (A7 x).2.1) 0) (bOr (bNot (N3 x)) (bAnd (iEq (lLen (A7 x).2.1) 0) (bNot (MA x)))) (bAnd (iEq (lLen (A7 x).2.1) 0) (bNot (MA x))))) (bAnd (N6 x).2.2 (QR ((N6 x).1.2.2.2.2.1,(BW (x,5)).2.2.2.2.1)))))))):=(Hn.v x).trans (by kernel_rfl)
theorem qm (x):TW x=((V0 x)/\(((Pc x)=true->True)/\((Pc x)=false->((TT (x,5))/\((Qw (x,14,5))/\((Km ((BW (x,5)),(DZ (x,14,5))))/\((Qw (x,15,2))/\((OV ((BW (x,5)),(DZ (x,14,5)),(iEq (DZ (x,15,2)) 0)))/\((((bNot (bIff (A7 x).2.2 (iLt (N8 x) 0)))=true->True)/\((bNot (bIff (A7 x).2.2 (iLt (N8 x) 0)))=false->(Lr (BW (x,5)))))/\(((bOr (bNot (bIff (A7 x).2.2 (iLt (N8 x) 0))) (bNot (CV (BW (x,5)))))=true->True)/\((bOr (bNot (bIff (A7 x).2.2 (iLt (N8 x) 0))) (bNot (CV (BW (x,5)))))=false->(((bNot (A7 x).2.2)=true->((MK ((BW (x,5)),(DZ (x,14,5))))/\(((JY x).2.2=true->(((iEq (lLen (JY x).1.2.2.2.2.1) (iSub .i64 (lLen (BW (x,5)).2.2.2.2.1) 1))=true->(Km ((JY x).1,(DZ (x,14,5)))))/\((iEq (lLen (JY x).1.2.2.2.2.1) (iSub .i64 (lLen (BW (x,5)).2.2.2.2.1) 1))=false->True)))/\((JY x).2.2=false->True))))/\((bNot (A7 x).2.2)=false->(((Lr (A7 x).1)/\(((bNot (CV (A7 x).1))=true->True)/\((bNot (CV (A7 x).1))=false->(((iNe (lLen (A7 x).1.2.2.2.2.1) (iAdd .i64 (lLen (BW (x,5)).2.2.2.2.1) 1))=true->True)/\((iNe (lLen (A7 x).1.2.2.2.2.1) (iAdd .i64 (lLen (BW (x,5)).2.2.2.2.1) 1))=false->((((0:Int)<=(lLen (BW (x,5)).2.2.2.2.1))/\((0<=(iNat (lLen (BW (x,5)).2.2.2.2.1)))/\(((iNat (lLen (BW (x,5)).2.2.2.2.1))<=(List.length (A7 x).1.2.2.2.2.1))/\(0<(List.length (A7 x).1.2.2.2.2.1)))))/\((QK ((lSub (A7 x).1.2.2.2.2.1 0 (iNat (lLen (BW (x,5)).2.2.2.2.1))),(BW (x,5)).2.2.2.2.1))/\(((bNot (N5 x))=true->True)/\((bNot (N5 x))=false->((((0:Int)<=(lLen (BW (x,5)).2.2.2.2.1))/\((lLen (BW (x,5)).2.2.2.2.1)<(((List.length (A7 x).1.2.2.2.2.1):Int))))/\((iNat (lLen (BW (x,5)).2.2.2.2.1))<(List.length (A7 x).1.2.2.2.2.1))))))))))))/\(((bOr (bNot (CV (A7 x).1)) (bOr (iNe (lLen (A7 x).1.2.2.2.2.1) (iAdd .i64 (lLen (BW (x,5)).2.2.2.2.1) 1)) (bOr (bNot (N5 x)) (iNe (lGet (A7 x).1.2.2.2.2.1 (iNat (lLen (BW (x,5)).2.2.2.2.1)) (0,0,0,0,0)).1 (DZ (x,14,5))))))=true->True)/\((bOr (bNot (CV (A7 x).1)) (bOr (iNe (lLen (A7 x).1.2.2.2.2.1) (iAdd .i64 (lLen (BW (x,5)).2.2.2.2.1) 1)) (bOr (bNot (N5 x)) (iNe (lGet (A7 x).1.2.2.2.2.1 (iNat (lLen (BW (x,5)).2.2.2.2.1)) (0,0,0,0,0)).1 (DZ (x,14,5))))))=false->((((iGt (lLen (A7 x).2.1) 0)=true->((((0:Int)<=(iSub .i64 (lLen (A7 x).2.1) 1))/\((iSub .i64 (lLen (A7 x).2.1) 1)<(((List.length (A7 x).2.1):Int))))/\(((iNat (iSub .i64 (lLen (A7 x).2.1) 1))<(List.length (A7 x).2.1))/\((GM (A7 x).1.2.2.2.2.1)/\((Lg ((lGet (A7 x).2.1 (iNat (iSub .i64 (lLen (A7 x).2.1) 1)) (0,[])),(N9 x)))/\(((bNot (N3 x))=true->True)/\((bNot (N3 x))=false->(((iEq (lLen (A7 x).2.1) 0)=true->((GM (A7 x).1.2.2.2.2.1)/\((GM (BW (x,5)).2.2.2.2.1)/\(Lg ((N9 x),(TH x))))))/\((iEq (lLen (A7 x).2.1) 0)=false->True)))))))))/\((iGt (lLen (A7 x).2.1) 0)=false->(((iEq (lLen (A7 x).2.1) 0)=true->((GM (A7 x).1.2.2.2.2.1)/\((GM (BW (x,5)).2.2.2.2.1)/\(Lg ((N9 x),(TH x))))))/\((iEq (lLen (A7 x).2.1) 0)=false->True))))/\(((bSel (iGt (lLen (A7 x).2.1) 0) (bOr (bNot (N3 x)) (bAnd (iEq (lLen (A7 x).2.1) 0) (bNot (MA x)))) (bAnd (iEq (lLen (A7 x).2.1) 0) (bNot (MA x))))=true->True)/\((bSel (iGt (lLen (A7 x).2.1) 0) (bOr (bNot (N3 x)) (bAnd (iEq (lLen (A7 x).2.1) 0) (bNot (MA x)))) (bAnd (iEq (lLen (A7 x).2.1) 0) (bNot (MA x))))=false->((MK ((A7 x).1,(DZ (x,14,5))))/\(((N6 x).2.2=true->(QK ((N6 x).1.2.2.2.2.1,(BW (x,5)).2.2.2.2.1)))/\((N6 x).2.2=false->True)))))))))))))))))))))):=(Hn.o x).trans (by kernel_rfl)
attribute [irreducible] QR QK Ue TW
end
section
set_option maxRecDepth 20000
theorem vY(l:B4)(hl:l.length<=1048576):QK (l,l)/\QR (l,l)=true:=by
 rw[qT,qX];simp only
 have e1:iNe (lLen l) (lLen l)=false:=by rw[CX];simp
 have key:∀ {c:Int->Bool} {f:Int->Int} {p:Int->Prop},(∀ st:Int,c st=decide (st<(l.length:Int)))->(∀ st,f st=iAdd .i64 st 1)->(∀ i:Nat,i<=l.length->p i)->LoopOk c f p 0/\Am c f 0=(l.length:Int):=by
  intro c f p hc hf hp;have:=Iw (c:=c) (f:=f) (p:=p) l.length (λ i=>(i:Int)) (x0:=0) rfl (λ k hk=>⟨hp k (by omega),by rw[hc,Ar];omega,by rw[hf,Bu (by unfold AO;omega)];omega⟩) ⟨hp _ (BI _),by rw[hc,DP (by omega)]⟩;exact this
 have q:∀ st:Int,(bAnd (iLt st (lLen l)) (bNot (bNot (bAnd (iEq (lGet l (iNat st) (0,0,0,0,0)).1 (lGet l (iNat st) (0,0,0,0,0)).1) (bAnd (iEq (lGet l (iNat st) (0,0,0,0,0)).2.1 (lGet l (iNat st) (0,0,0,0,0)).2.1) (bAnd (iEq (lGet l (iNat st) (0,0,0,0,0)).2.2.1 (lGet l (iNat st) (0,0,0,0,0)).2.2.1) (bAnd (iEq (lGet l (iNat st) (0,0,0,0,0)).2.2.2.1 (lGet l (iNat st) (0,0,0,0,0)).2.2.2.1) (iEq (lGet l (iNat st) (0,0,0,0,0)).2.2.2.2 (lGet l (iNat st) (0,0,0,0,0)).2.2.2.2))))))))=decide (st<(l.length:Int)):=λ st=>by
  simp only[AD,AG,Bv,Ap,Ao,decide_true,Dm,Gy,Bool.not_false,Mh]
 refine⟨⟨λ _=>trivial,λ _=>(key q (λ _=>rfl) (λ i hi=>?_)).1⟩,?_⟩
 . simp only[Ap,Ao,Ar];refine⟨λ h=>?_,λ _=>trivial⟩;have a:((0:Int)<=(i:Int)/\(i:Int)<(l.length:Int))/\iNat (i:Int)<l.length:=⟨⟨by omega,h⟩,by rw[Ax];omega⟩;exact⟨a.1,a.2,a.1,a.2⟩
 . rw[(key (p:=λ _=>True) q (λ _=>rfl) (λ _ _=>trivial)).2,e1];simp only[AD,AG,Ap,Ao];simp
theorem sL(x:Bb)(hw:TuX.wf Hn.h x):TW x/\Ue x=true:=by
 rw[qm,qD];obtain⟨b1,b2⟩:=ZcZ x;by_cases hl:1048576<x.length
 . rw[b1,Iy hl];exact⟨⟨b2,λ _=>trivial,(λ h=>by cases h)⟩,by rw[Ba];rfl⟩
 rw[b1,DP hl];obtain⟨m1,g⟩:=wG x 5 (by omega) (by omega) (by omega);obtain⟨n1,n2,n3⟩:=hZ x 14 5 (by omega) (by omega);obtain⟨n4,_,_⟩:=hZ x 15 2 (by omega) (by omega);simp only[TH,N8,JY,A7,N9,N6,N5,MA,N3];generalize BW (x,5)=e at *;generalize DZ (x,14,5)=k at *;generalize iEq (DZ (x,15,2)) 0=h;have hl':e.2.2.2.2.1.length<=1048576:=g.2.1.2.2.1.1;have hl32:=g.hl;obtain⟨_,e2,_⟩:=MU e g.2.1;have eI:=g.is;obtain⟨p1,p2,p3,p4⟩:=Zc5 g k h n2 n3
 have bt:bNot true=false:=by rw[AG];rfl
 have bf:bNot false=true:=by rw[AG];rfl
 have top:∀ X:Bool,X=true->bOr false (bAnd true X)=true:=λ X h=>by rw[h,Ba,AD];rfl
 have o0:∀ b,bOr false b=b:=λ b=>by rw[Ba,Bool.false_or]
 have a1:∀ b,bAnd true b=b:=λ b=>by rw[AD,NB]
 rcases p4 with⟨hne,hlt,gp,_,q4⟩|⟨j,hj,q1,_,q3⟩
 ·
  have hlt':iLt (BS (e,k)) 0=true:=by rw[Ap,Iy hlt]
  have bi:bNot (bIff true true)=false:=by rw[AG,Nh];rfl
  obtain⟨_,x2,_⟩:=MU (DW e k h) gp.2.1;have xI:=gp.is;have eH:(DW e k h).2.2.2.2.1=e.2.2.2.2.1++[(k,(AF e k h).1)]:=rfl
  have hlen:(e.2.2.2.2.1++[(k,(AF e k h).1)]).length=e.2.2.2.2.1.length+1:=by simp
  have t1:iNe (lLen (e.2.2.2.2.1++[(k,(AF e k h).1)])) (iAdd .i64 (lLen e.2.2.2.2.1) 1)=false:=by
   rw[Ao,Ao,hlen,Bu (by unfold AO;omega),CX];simp
  have t2:lSub (e.2.2.2.2.1++[(k,(AF e k h).1)]) 0 (iNat (lLen e.2.2.2.2.1))=e.2.2.2.2.1:=by
   rw[HC,Ax,Ao,Bn];simp
  have t3:lGet (e.2.2.2.2.1++[(k,(AF e k h).1)]) (iNat (lLen e.2.2.2.2.1)) (0,0,0,0,0)=(k,(AF e k h).1):=by
   rw[A8,Ax,Ao,Bn];simp[List.getD]
  have t4:iNe k k=false:=by rw[CX];simp
  obtain⟨s1,s2⟩:=vY e.2.2.2.2.1 hl';obtain⟨_,u2,u3,u4⟩:=KC e.2.2.2.2.1 hl';obtain⟨_,v2,v3,v4⟩:=KC (e.2.2.2.2.1++[(k,(AF e k h).1)]) gp.2.1.2.2.1.1;rw[u3] at u4;rw[v3] at v4;have eR:AY (Cs e k h)=AY (e.2.2.2.2.1++[(k,(AF e k h).1)]):=rfl;obtain⟨rl1,l,rl2⟩:MK (DW e k h,k)/\∃ l,Lz (DW e k h,k)=((e.1,e.2.1,e.2.2.1,(AF e k h).2.2.2.2.1,e.2.2.2.2.1,(AF e k h).2.2.2.2.2.2),l,true):=zb g k h hne gp;have rI:Lz (DW e k h,k)=_:=rl2;simp only[q4,hlt',bi,bt,bf,o0,a1,eI,xI,eH,t1,t2,t3,t4,s2,rl2,u3,v3,CP]
  have i1:((0:Int)<=lLen e.2.2.2.2.1/\lLen e.2.2.2.2.1<((e.2.2.2.2.1++[(k,(AF e k h).1)]).length:Int))/\iNat (lLen e.2.2.2.2.1)<(e.2.2.2.2.1++[(k,(AF e k h).1)]).length:=by rw[Ax,Ao,hlen];omega
  have i2:0<=iNat (lLen e.2.2.2.2.1)/\iNat (lLen e.2.2.2.2.1)<=(e.2.2.2.2.1++[(k,(AF e k h).1)]).length/\0<(e.2.2.2.2.1++[(k,(AF e k h).1)]).length:=by rw[Ax,Ao,hlen];omega
  have okS:∀ a b:B3,IZ a->Lg (a,b):=λ a b ha=>(Zv a b ha).2
  have hL:dW e k h=HU (AY e.2.2.2.2.1) (Fi e k h++[AY (e.2.2.2.2.1++[(k,(AF e k h).1)])]):=rfl;rcases Zbg (AY e.2.2.2.2.1) (Fi e k h) (AY (e.2.2.2.2.1++[(k,(AF e k h).1)])) with⟨c1,c2⟩|⟨K,c1⟩
  . rw[hL,c1]
    have d1:iGt (lLen ([]:List B3)) 0=false:=by rw[CQ,Ao];rfl
    have d2:iEq (lLen ([]:List B3)) 0=true:=by rw[Bv,Ao];rfl
    have d3:FQ (AY (e.2.2.2.2.1++[(k,(AF e k h).1)]),AY e.2.2.2.2.1)=true:=by rw[Zf _ _ v4,c2];simp
    have d4:bSel false (bOr (bNot (FQ (lGet ([]:List B3) (iNat (iSub .i64 (lLen ([]:List B3)) 1)) (0,[]),AY (e.2.2.2.2.1++[(k,(AF e k h).1)])))) (bAnd (iEq (lLen ([]:List B3)) 0) (bNot true))) (bAnd true false)=false:=by rw[CP,AD];rfl
    simp only[d1,d2,d3,bt,d4,CP,a1];refine⟨⟨b2,(λ h=>by cases h),λ _=>⟨m1,n1,p3,n4,p2,⟨(λ h=>by cases h),λ _=>e2⟩,(λ h=>by cases h),λ _=>⟨(λ h=>by cases h),λ _=>⟨⟨x2,(λ h=>by cases h),λ _=>⟨(λ h=>by cases h),λ _=>⟨⟨by rw[Ao];omega,i2⟩,s1,(λ h=>by cases h),λ _=>i1⟩⟩⟩,(λ h=>by cases h),λ _=>⟨⟨(λ h=>by cases h),λ _=>⟨λ _=>⟨v2,u2,okS _ _ v4⟩,(λ h=>by cases h)⟩⟩,(λ h=>by cases h),λ _=>⟨rl1,λ _=>s1,(λ h=>by cases h)⟩⟩⟩⟩⟩⟩,?_⟩;rw[bf,a1]
  . rw[hL,c1]
    have hK:(lLen (K++[AY (e.2.2.2.2.1++[(k,(AF e k h).1)])]))=(K.length:Int)+1:=by rw[Ao];simp
    have hmem:K.length<=2097152:=by
     have:=(kO (λ _=>True) (AY e.2.2.2.2.1) trivial (Fi e k h++[AY (e.2.2.2.2.1++[(k,(AF e k h).1)])]) (λ _ _=>trivial)).1;have hc:(HU (AY e.2.2.2.2.1) (Fi e k h++[AY (e.2.2.2.2.1++[(k,(AF e k h).1)])])).length<=_:=this;rw[c1] at hc;obtain⟨_,_,_,_,_,_,_,mm⟩:=az e k h g.2.1 eI n2 (by have:=g.2.2;omega) hlt;simp only[Cq,AH,AJ] at hc;omega
    have d1:iGt (lLen (K++[AY (e.2.2.2.2.1++[(k,(AF e k h).1)])])) 0=true:=by rw[hK,CQ,Iy (by omega)]
    have d2:iEq (lLen (K++[AY (e.2.2.2.2.1++[(k,(AF e k h).1)])])) 0=false:=by rw[hK,Bv,DP (by omega)]
    have d5:iSub .i64 (lLen (K++[AY (e.2.2.2.2.1++[(k,(AF e k h).1)])])) 1=(K.length:Int):=by rw[hK,Er (by unfold AO;omega)];omega
    have d6:lGet (K++[AY (e.2.2.2.2.1++[(k,(AF e k h).1)])]) (iNat (K.length:Int)) (0,[])=AY (e.2.2.2.2.1++[(k,(AF e k h).1)]):=by rw[A8,Ax,Bn];simp[List.getD]
    have d3:FQ (AY (e.2.2.2.2.1++[(k,(AF e k h).1)]),AY (e.2.2.2.2.1++[(k,(AF e k h).1)]))=true:=by rw[Zf _ _ v4];simp
    have af:∀ b,bAnd false b=false:=λ b=>by rw[AD,XR]
    have i3:((0:Int)<=(K.length:Int)/\(K.length:Int)<((K++[AY (e.2.2.2.2.1++[(k,(AF e k h).1)])]).length:Int))/\iNat (K.length:Int)<(K++[AY (e.2.2.2.2.1++[(k,(AF e k h).1)])]).length:=by rw[Ax];simp only[Cq,AH,AJ];omega
    simp only[d5,d6,d1,d2,d3,bt,af,o0,Dc];refine⟨⟨b2,(λ h=>by cases h),λ _=>⟨m1,n1,p3,n4,p2,⟨(λ h=>by cases h),λ _=>e2⟩,(λ h=>by cases h),λ _=>⟨(λ h=>by cases h),λ _=>⟨⟨x2,(λ h=>by cases h),λ _=>⟨(λ h=>by cases h),λ _=>⟨⟨by rw[Ao];omega,i2⟩,s1,(λ h=>by cases h),λ _=>i1⟩⟩⟩,(λ h=>by cases h),λ _=>⟨⟨λ _=>⟨i3.1,i3.2,v2,okS _ _ v4,(λ h=>by cases h),λ _=>⟨(λ h=>by cases h),λ _=>trivial⟩⟩,(λ h=>by cases h)⟩,(λ h=>by cases h),λ _=>⟨rl1,λ _=>s1,(λ h=>by cases h)⟩⟩⟩⟩⟩⟩,?_⟩;rw[bf,a1]
 ·
  have hlt':iLt (j:Int) 0=false:=by rw[Ap,DP (by omega)]
  have bi:bNot (bIff false false)=false:=by rw[AG,Nh];rfl
  obtain⟨_,r1,_,r3⟩:=ZH e k g.2.1 eI j hj q1;have ge:=g.rel j
  have hle:(e.2.2.2.2.1.eraseIdx j).length=e.2.2.2.2.1.length-1:=by rw[List.length_eraseIdx,Ac hj]
  have t1:iEq (lLen (e.2.2.2.2.1.eraseIdx j)) (iSub .i64 (lLen e.2.2.2.2.1) 1)=true:=by
   rw[Ao,Ao,hle,Er (by unfold AO;omega),Bv,Ar];omega
  obtain⟨_,z1⟩:=RB ((e.1,e.2.1,e.2.2.1,e.2.2.2.1,e.2.2.2.2.1.eraseIdx j,e.2.2.2.2.2),k) ge.2.1.2.2.1.1
  have hp:=((M1 hl').1 g.1.held).2
  have z2 : iLt (BS ((e.1,e.2.1,e.2.2.1,e.2.2.2.1,e.2.2.2.2.1.eraseIdx j,e.2.2.2.2.2),k)) 0=true:=by
   rw[Ap,Ar];rcases OZ (e.1,e.2.1,e.2.2.1,e.2.2.2.1,e.2.2.2.2.1.eraseIdx j,e.2.2.2.2.2) k ge.2.1.2.2.1.1 with⟨y1,_⟩|⟨i,y1,_,y3⟩
   . omega
   . exfalso
     have hjk:(e.2.2.2.2.1.getD j (0,0,0,0,0)).1=k:=by
      rcases OZ e k hl' with⟨w1,_⟩|⟨i',w1,w2,w3⟩
      . omega
      . have:i'=j:=by omega
        rw[<- this];exact w3
     have y1:i<(e.2.2.2.2.1.eraseIdx j).length:=y1;have y3:((e.2.2.2.2.1.eraseIdx j).getD i (0,0,0,0,0)).1=k:=y3;rw[F5 _ _ y1,List.getElem_eraseIdx] at y3;rw[F5 _ _ hj] at hjk;rw[List.pairwise_iff_getElem] at hp;split at y3
     . rename_i hij;exact hp i j (by omega) hj hij (y3.trans hjk.symm)
     . rename_i hij;exact hp j (i+1) hj (by omega) (by omega) (hjk.trans y3.symm)
  simp only[q1,q3,r3,hlt',bi,bt,bf,o0,a1,eI,t1,z2,Dc];refine⟨⟨b2,(λ h=>by cases h),λ _=>⟨m1,n1,p3,n4,p2,⟨(λ h=>by cases h),λ _=>e2⟩,(λ h=>by cases h),λ _=>⟨λ _=>⟨r1,λ _=>⟨λ _=>z1,(λ h=>by cases h)⟩,(λ h=>by cases h)⟩,(λ h=>by cases h)⟩⟩⟩,trivial⟩
end
end
end Go.Ag
