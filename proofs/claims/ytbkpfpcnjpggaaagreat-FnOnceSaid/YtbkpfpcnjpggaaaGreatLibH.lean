/- Part 8 of what FnOnce needs. No conditions. -/
import Derived.Test.YtbkpfpcnjpggaaaGreatLibG
namespace Go.Ag
set_option linter.unusedSimpArgs false
set_option linter.unusedVariables false
noncomputable section
section
set_option maxRecDepth 20000
theorem yh(dn:BQ)(p:Int){a:Int×Int×Int×Int×Int}(h:a∈Dl (dn,p)):a∈dn:=by
 rw[Qo] at h;simp only[BD,II,HJ,CV,CF] at h;rcases h with h|h
 . exact List.mem_of_mem_drop (KV h)
 . exact List.mem_of_mem_drop (KV h)
theorem WD(dn:BQ)(s:CS)(h:dn.length<=1048576):B5 (dn,s)=-1\/(0<=B5 (dn,s)/\B5 (dn,s)<dn.length):=by
 have:=WM (dn.map Bh) (s.2.1,s.2.2) (by rw[A9];exact h);rw[A9] at this;have e:=Na dn s.1 s.2.1 s.2.2;rw[show (s.1,s.2.1,s.2.2)=s from rfl] at e;rw[e];exact this
theorem gV{a:Int×Int×Int×Int}(h:Bt a=true):0<=a.2.2.1/\a.2.2.1<=15:=by
 rw[Qs] at h;simp only[BA,A4,AE,Bo,Db,US,CK,Ew] at h
 repeat' split at h
 all_goals simp only[Ah,Cn,BB,CL,F7,B8,Ap,Bl,GC,I7,AZ,JE] at *
 all_goals omega
def Ye(a:Ff):Prop:=(0<=a.2.2.1/\a.2.2.1<=56)/\0<=a.2.2.2.1/\a.2.2.2.1<=15
theorem ZbN(x:CX)(hl:x.length<=8)(hok:∀ i,i<x.length->Le (BP x i) (x.getD i (0,0,0))):∀ i,i<=x.length->(BP x i).length<=i/\∀ a∈BP x i,Ye a:=by
 intro i
 induction i with
 |zero=>intro _;exact⟨by simp[BP],by simp[BP]⟩
 | succ i ih=>
   intro hi;obtain⟨h1,h2⟩:=ih (by omega);obtain⟨k1,k2,k3,k4⟩:=hok i (by omega);rw[Ph x (by omega)];generalize hs:x.getD i (0,0,0)=s at k1 k2 k3 k4 ⊢;unfold Ey;split
   . refine⟨by simp only[Cv,AG,AL];omega,λ a ha=>?_⟩;rw[CF,List.mem_singleton] at ha;rcases ha with ha|rfl
     . exact h2 a ha
     . exact⟨Zj k3,gV k3⟩
   . split
     . rename_i e2;have:=WD (BP x i) s (by omega);have hp:0<=B5 (BP x i,s):=k4.1 e2;have hw:=ja (BP x i) (B5 (BP x i,s)) hp (by omega) (by omega);exact⟨by omega,λ a ha=>h2 a (yh _ _ ha)⟩
     . exact⟨by omega,h2⟩
theorem Zt(dm:NJ)(q:A6)(h:dm.length<=1048576):Bg (dm,q)=if CP (λ i=>decide (dm.getD i (0,0)=q)) dm.length 0<dm.length then ((CP (λ i=>decide (dm.getD i (0,0)=q)) dm.length 0:Nat):Int) else -1:=by
 rw[Ze]
 have e:=Sq (c:=λ x0:Int=>(bAnd (iLt x0 (lLen dm)) (bNot (bAnd (iEq (lGet dm (iNat x0) (0,0)).1 q.1) (iEq (lGet dm (iNat x0) (0,0)).2 q.2))))) (f:=λ x0=>iAdd .i64 x0 1) dm.length (λ i=>decide (dm.getD i (0,0)=q)) (by omega)
  (λ i hi=>by
   simp only[AE,Aq,As,AF,Bo,A8,Az,Be,G8];congr 2;rw[<- Bool.decide_and]
   simp only[Prod.ext_iff]) (λ i hi=>rfl)
 simp only[e];rw[BA,Aq,As];simp only[Ap,G8]
theorem xJ(dm:NJ)(q:A6)(h:dm.length<=1000)(hp:Bg (dm,q)<0):Bg (dm++[q],q)=dm.length:=by
 rw[Zt _ _ (by omega)] at hp
 have hall:∀ i,i<dm.length->decide (dm.getD i (0,0)=q)=false:=by
  refine OU.1 ?_;have:=Ju (λ i=>decide (dm.getD i (0,0)=q)) dm.length 0;split at hp
  . omega
  . omega
 rw[Zt _ _ (by rw[Cv,AG,AL];omega)]
 have hl:(dm++[q]).length=dm.length+1:=by simp
 rw[hl]
 have hlast:(dm++[q]).getD dm.length (0,0)=q:=by rw[Eg];simp
 have hold:∀ i,i<dm.length->(dm++[q]).getD i (0,0)=dm.getD i (0,0):=λ i hi=>by rw[Eg,Eg,Bv hi]
 generalize hk:CP (λ i=>decide ((dm++[q]).getD i (0,0)=q)) (dm.length+1) 0=k;have a1:=Ju (λ i=>decide ((dm++[q]).getD i (0,0)=q)) (dm.length+1) 0;have a2:=Rs (λ i=>decide ((dm++[q]).getD i (0,0)=q)) (dm.length+1) 0 dm.length (by omega);have a3:=OX (λ i=>decide ((dm++[q]).getD i (0,0)=q)) (dm.length+1) 0;rw[hk] at a1 a2 a3
 have b1:¬ dm.length<k:=λ h=>by have:=a2 h;rw[hlast] at this;simp at this
 have b2:¬ k<dm.length:=λ h=>by
  have:=a3 (by omega);rw[hold k h,hall k h] at this;cases this
 have:k=dm.length:=by omega
 rw[Ac (by omega),this]
theorem iG(dn:BQ)(a:Ff)(h:dn.length<=1000):Dl (dn++[a],(dn.length:Int))=dn:=by
 rw[Qo];have e:iAdd .i64 (dn.length:Int) 1=dn.length+1:=Bx (by unfold AO;omega);simp only[e,BD,II,HJ,Az,CV,Be,G9,L3]
 have e2:((dn.length:Int)+1).toNat=dn.length+1:=by omega
 rw[e2,List.take_left',List.drop_eq_nil_of_le (by simp)]
 . simp
 . rfl
theorem ke(dn:BQ)(s:CS)(h:dn.length<=1000)(hp:B5 (dn,s)<0):B5 (dn++[mA s],s)=dn.length:=by
 have e:=Na dn s.1 s.2.1 s.2.2;have e':=Na (dn++[mA s]) s.1 s.2.1 s.2.2;rw[show (s.1,s.2.1,s.2.2)=s from rfl] at e e';rw[e] at hp;rw[e',Gv,Cp,PT];have:=xJ (dn.map Bh) (s.2.1,s.2.2) (by rw[A9];exact h) hp;rw[A9] at this;exact this
def pj(l:BQ)(r:DZ):Prop:=r.2.length<=1048576/\∃ dn:BQ,dn.length<=1000/\(∀ a∈dn,Ye a)/\r=Ft (l,dn)
def oC(l:BQ)(x:CX)(i:Nat)(out:Fe):Prop:=(∀ r∈out,pj l r)/\(i=0->out=[])/\(0<i->∃ o,out=o++[Ft (l,BP x i)])
theorem sn(l:BQ)(x:CX)(hl:l.length<=1048576)(hx:x.length<=1048576) :
 NX (l,x)/\NY (l,x)/\NZ (l,x)=Fp (l,x)/\((Fp (l,x)).length<=1048576/\∀ r∈Fp (l,x),r.2.length<=1048576)/\(Cs l=true->Gh x=true->oC l x x.length (Fp (l,x))):=by
 have o1:=T8 l hl
 have o2:=Uc l hl
 have o3:=gi x hx
 have o4:=gu x hx
 rw[pC,pB,pE,pJ]
 simp only[O7,<- ZC x hx]
 by_cases hg:Cs l=true/\Gh x=true
 case neg=>
  have hb:bOr (bNot (Cs l)) (bNot (Gh x))=true:=by
   rw[A4,AF,AF];cases h1:Cs l<;>cases h2:Gh x<;>simp_all
  rw[hb];simp only[Dn];refine⟨⟨⟨o1,λ _=>trivial,λ _=>o3⟩,λ _=>trivial,λ h=>by cases h⟩,⟨⟨o2,λ _=>trivial,λ _=>o4⟩,λ _=>trivial,λ h=>by cases h⟩,trivial,⟨by simp,by simp⟩,λ h1 h2=>absurd ⟨h1,h2⟩ hg⟩
 case pos=>
  obtain⟨hh,hm⟩:=hg
  have hb:bOr (bNot (Cs l)) (bNot (Gh x))=false:=by rw[A4,AF,AF,hh,hm];rfl
  rw[hb];simp only[CQ];obtain⟨x8,_,hok⟩:=xR x hx hm;have inv:=ZbN x x8 hok;obtain⟨_,or2,_,_⟩:=MQ l hl
  have DI:∀ dn:BQ,dn.length<=1000->(∀ a∈dn,Ye a)->Oi (l,dn)/\N6 (BR l,dn.map Bh)/\Kj (BR l,dn.map Bh)=Ft (l,dn)/\pj l (Ft (l,dn)):=by
   intro dn h1 h2;obtain⟨a1,a2,a3,a4,a5,_⟩:=yV l dn hl hh h1 (λ a ha=>(h2 a ha).1)
   have:=bq _ 1 56 a4 (λ z hz=>by
    rcases (a5 z).1 hz with h|⟨h,hz⟩
    . exact(kt l hl hh).2 z h
    . obtain⟨q,hq,rfl⟩:=List.mem_map.1 h;have:=(h2 q hq).1
      omega) (by omega)
   exact⟨a1,a2,a3,by omega,dn,h1,h2,rfl⟩
  obtain⟨a1,a2,⟨i,hi,out,e1,e2,e3,e4⟩,a4⟩:=aq (c:=NW (l,x)) (f:=Tu (l,x)) (p:=Ts (l,x)) (d:=Tw (l,x)) (g:=Tt (l,x)) (q:=Tv (l,x)) (x0:=([],[],0)) (y0:=([],[],0))
   (λ s t=>∃ i:Nat,i<=x.length/\∃ out:List DZ,s=(out,BP x i,(i:Int))/\t=(out,(BP x i).map Bh,(i:Int))/\out.length<=2*i/\oC l x i out) (λ s=>x.length-s.2.2.toNat) (by
    rintro s t ⟨i,hi,out,rfl,rfl,ho,hr⟩
    obtain⟨d1,d2⟩:=inv i hi
    have s1:iAdd .i64 (i:Int) 1=((i+1:Nat):Int):=by rw[Bx (by unfold AO;omega)];simp
    by_cases hlt:i<x.length
    case neg=>
     have hn:iLt (i:Int) (lLen x)=false:=by rw[Aq,As];simp;omega
     refine⟨?_,?_,rfl,λ h=>?_⟩
     . simp only[Ts,hn];exact⟨λ h=>(by cases h),λ _=>trivial⟩
     . simp only[Tv,hn];exact⟨λ h=>(by cases h),λ _=>trivial⟩
     . simp only[NW,hn] at h;cases h
    case pos=>
    have ht:iLt (i:Int) (lLen x)=true:=by rw[Aq,As];simp;omega
    have hk:=hok i hlt
    have hsucc:=Ph x hlt
    obtain⟨d1',d2'⟩:=inv (i+1) hlt
    have hget:lGet x (iNat (i:Int)) (0,0,0)=x.getD i (0,0,0):=by rw[A8,Az,Be]
    have hin:iNat (i:Int)<x.length:=by rw[Az];simpa using hlt
    simp only[NW,Tu,Ts,Tw,Tt,Tv,hget,ht,s1,ME,fe]
    generalize hs:x.getD i (0,0,0)=s at hk hsucc
    generalize hdn:BP x i=dn at hk hsucc d1 d2
    obtain⟨K,c,m⟩:=s
    obtain⟨k1,k2,k3,k4⟩:=hk
    simp only at k1 k2 k3 k4
    have hcode:=Zj k3
    simp only at hcode
    have Mn:∀ a∈dn++[mA (K,c,m)],Ye a:=λ a ha=>by
     rw[CF,List.mem_singleton] at ha;rcases ha with ha|rfl
     . exact d2 a ha
     . exact⟨hcode,gV k3⟩
    have mapp:(dn++[mA (K,c,m)]).map Bh=lApp (dn.map Bh) [(c,m)]:=by rw[BD,Gv];rfl
    have lapp:lApp dn [(0,2,c,m,0)]=dn++[mA (K,c,m)]:=by rw[BD];rfl
    have hml:(dn.map Bh).length=dn.length:=A9 ..
    have len1:(lApp (dn.map Bh) [(c,m)]).length=dn.length+1:=by rw[<- mapp,A9];simp
    obtain⟨p1,p2,p3,p4⟩:=DI (dn++[mA (K,c,m)]) (by rw[Cv,AG,AL];omega) Mn
    obtain⟨q1,q2,q3,q4⟩:=DI dn (by omega) d2
    rw[mapp] at p2 p3
    have lo:∀ r:Int×List Int,(lApp out [r]).length=out.length+1:=λ r=>by rw[BD];simp
    have lo2:∀ r r':Int×List Int,(lApp (lApp out [r]) [r']).length=out.length+2:=λ r r'=>by rw[BD,BD];simp
    have hlr:∀ r:Int×List Int,([r]:List DZ).length=1:=λ _=>rfl
    have ro:∀ n:Nat,n<=1000->∀ w:Nat,w<=5->Aw (n*w):=λ n hn w hw=>MX (by omega) (by omega)
    rcases (show K=0\/K=1\/K=2 by omega) with rfl|rfl|rfl
    ·
     have e01:iNe 0 1=true:=by rw[Db];rfl
     have e02:iNe 0 2=true:=by rw[Db];rfl
     have e00:iEq 0 0=true:=by rw[Bo];rfl
     have hneg:B5 (dn,0,c,m)<0:=by
      rcases WD dn (0,c,m) (by omega) with h|h
      . omega
      . exact absurd (k4.2 h.1) (by decide)
     have fl:=ke dn (0,c,m) (by omega) hneg;have wl:=iG dn (mA (0,c,m)) (by omega);have okf:ML (dn++[mA (0,c,m)],0,c,m):=bn _ _ (by rw[Cv,AG,AL];omega);have okw:MB (dn++[mA (0,c,m)],(dn.length:Int)):=Wa _ _ (by omega) (by rw[Cv,AG,AL];omega) (by rw[Cv,AG,AL];omega)
     have hst:Ey dn (0,c,m)=dn:=by unfold Ey;simp
     rw[hst] at hsucc;simp only[e01,e02,e00,Dn,lapp,fl,wl,p3,q3]
     refine⟨⟨λ _=>⟨⟨by omega,by omega⟩,hin,⟨λ _=>⟨trivial,ro _ (by simp only[AG,AL];omega) _ (by omega),p1,ro _ (by rw[hlr];omega) _ (by omega)⟩,λ _=>trivial⟩,⟨λ _=>⟨okf,okw,q1,ro _ (by rw[lo,hlr];omega) _ (by omega)⟩,λ _=>trivial⟩⟩,λ _=>trivial⟩,
      ⟨λ _=>⟨⟨by omega,by omega⟩,hin,⟨λ _=>⟨ro _ (by omega) _ (by omega),ro _ (by rw[hml];simp only[AG,AL];omega) _ (by omega),p2,ro _ (by rw[hlr];omega) _ (by omega)⟩,λ h=>by cases h⟩,q2,ro _ (by rw[lo,hlr];omega) _ (by omega)⟩,λ _=>trivial⟩,trivial,λ _=>⟨⟨i+1,hlt,_,by rw[hsucc],by rw[hsucc],by rw[lo2];omega,⟨λ r hr'=>?_,λ h=>absurd h (Nat.succ_ne_zero i),λ _=>⟨_,by rw[hsucc,BD]⟩⟩⟩,by omega⟩⟩
     simp only[BD,CF,List.mem_singleton] at hr';rcases hr' with(h|rfl)|rfl
     . exact hr.1 r h
     . exact p4
     . exact q4
    ·
     have e01:iNe 1 1=false:=by rw[Db];rfl
     have e02:iNe 1 2=true:=by rw[Db];rfl
     have e00:iEq 1 0=false:=by rw[Bo];rfl
     have e11:iEq 1 1=true:=by rw[Bo];rfl
     have hst:Ey dn (1,c,m)=dn++[mA (1,c,m)]:=by unfold Ey;simp
     rw[hst] at hsucc;simp only[e01,e02,e00,e11,Dn,CQ,lapp,p3]
     refine⟨⟨λ _=>⟨⟨by omega,by omega⟩,hin,⟨λ _=>⟨trivial,ro _ (by simp only[AG,AL];omega) _ (by omega),p1,ro _ (by rw[hlr];omega) _ (by omega)⟩,λ _=>trivial⟩,⟨λ h=>(by cases h),λ _=>trivial⟩⟩,λ _=>trivial⟩,
      ⟨λ _=>⟨⟨by omega,by omega⟩,hin,⟨λ h=>(by cases h),λ _=>⟨λ _=>ro _ (by rw[hml];simp only[AG,AL];omega) _ (by omega),λ h=>by cases h⟩⟩,p2,ro _ (by rw[hlr];omega) _ (by omega)⟩,λ _=>trivial⟩,trivial,λ _=>⟨⟨i+1,hlt,_,by rw[hsucc],by rw[hsucc,mapp],by rw[lo];omega,⟨λ r hr'=>?_,λ h=>absurd h (Nat.succ_ne_zero i),λ _=>⟨_,by rw[hsucc,BD]⟩⟩⟩,by omega⟩⟩
     simp only[BD,CF,List.mem_singleton] at hr';rcases hr' with h|rfl
     . exact hr.1 r h
     . exact p4
    ·
     have e01:iNe 2 1=true:=by rw[Db];rfl
     have e02:iNe 2 2=false:=by rw[Db];rfl
     have e00:iEq 2 0=false:=by rw[Bo];rfl
     have e11:iEq 2 1=false:=by rw[Bo];rfl
     have e22:iEq 2 2=true:=by rw[Bo];rfl
     have hp:0<=B5 (dn,2,c,m):=k4.1 rfl
     have hp2:B5 (dn,2,c,m)<dn.length:=by
      rcases WD dn (2,c,m) (by omega) with h|h
      . omega
      . exact h.2
     have hst:Ey dn (2,c,m)=Dl (dn,B5 (dn,2,c,m)):=by unfold Ey;simp
     rw[hst] at hsucc;have hfe:=Na dn 2 c m;have wm:=jd dn _ hp hp2;have okf:ML (dn,2,c,m):=bn _ _ (by omega);have okw:=Wa dn _ hp hp2 (by omega);have okp:OA (dn.map Bh,c,m):=mF _ _ (by omega);rw[hsucc] at d1' d2';obtain⟨w1,w2,w3,w4⟩:=DI _ (by omega) d2';rw[hfe] at hp hp2 okw w1 w2 w3 w4 wm hsucc;rw[wm] at w2 w3;generalize Bg (dn.map Bh,c,m)=p at hp hp2 okw w1 w2 w3 w4 wm hsucc hfe ⊢;have sp:iAdd .i64 p 1=p+1:=Bx (by unfold AO;omega);simp only[e01,e02,e00,e11,e22,Dn,CQ,hfe,w3]
     refine⟨⟨λ _=>⟨⟨by omega,by omega⟩,hin,⟨λ h=>(by cases h),λ _=>trivial⟩,⟨λ _=>⟨okf,okw,w1,ro _ (by rw[hlr];omega) _ (by omega)⟩,λ _=>trivial⟩⟩,λ _=>trivial⟩,
      ⟨λ _=>⟨⟨by omega,by omega⟩,hin,⟨λ h=>(by cases h),λ _=>⟨λ h=>(by cases h),λ _=>⟨λ _=>⟨okp,?_⟩,λ h=>by cases h⟩⟩⟩,w2,ro _ (by rw[hlr];omega) _ (by omega)⟩,λ _=>trivial⟩,trivial,λ _=>⟨⟨i+1,hlt,_,by rw[hsucc],by rw[hsucc,wm],by rw[lo];omega,⟨λ r hr'=>?_,λ h=>absurd h (Nat.succ_ne_zero i),λ _=>⟨_,by rw[hsucc,BD]⟩⟩⟩,by omega⟩⟩
     . rw[sp];simp only[Az,HJ,II,G9,L3,Ex,Nq,hml];exact⟨⟨hp,by omega,by omega,by omega⟩,⟨by omega,by omega,by omega,by omega⟩,by omega,by omega,MX (by omega) (by omega)⟩
     . simp only[BD,CF,List.mem_singleton] at hr';rcases hr' with h|rfl
       . exact hr.1 r h
       . exact w4) ⟨0,Gy _,[],rfl,rfl,by simp,⟨by simp,λ _=>rfl,λ h=>absurd h (by omega)⟩⟩
  refine⟨⟨⟨o1,λ _=>trivial,λ _=>o3⟩,λ h=>(by cases h),λ _=>a1⟩,⟨⟨o2,λ _=>trivial,λ _=>o4⟩,λ h=>(by cases h),λ _=>⟨or2,a2⟩⟩,by rw[e1,e2],?_⟩;rw[e1] at a4 ⊢;simp only[NW,Aq,As,Bl] at a4
  have hix:i=x.length:=by omega
  subst hix;exact⟨⟨by simp only;omega,λ r hr=>(e4.1 r hr).1⟩,λ _ _=>e4⟩
theorem rD(l:BQ)(x:CX)(hl:l.length<=1048576)(hx:x.length<=1048576) :
 NX (l,x)/\NY (l,x)/\NZ (l,x)=Fp (l,x)/\((Fp (l,x)).length<=1048576/\∀ r∈Fp (l,x),r.2.length<=1048576):=let ⟨a,b,c,d,_⟩:=sn l x hl hx;⟨a,b,c,d⟩
end
section
set_option maxRecDepth 20000
theorem Rm(x:BZ)(k:Int)(hl:x.2.2.2.2.1.length<=1048576) :
 (B1 (x,k)=-1/\∀ a∈x.2.2.2.2.1,a.1≠k)\/∃ i:Nat,i<x.2.2.2.2.1.length/\B1 (x,k)=(i:Int)/\(x.2.2.2.2.1.getD i (0,0,0,0,0)).1=k:=by
 rw[fY]
 simp only
 generalize x.2.2.2.2.1=l at *
 rw[Sq (c:=λ x0=>bAnd (iLt x0 (lLen l)) (bNot (iEq (lGet l (iNat x0) (0,0,0,0,0)).1 k))) (f:=λ x0=>iAdd .i64 x0 1) l.length (λ i=>decide ((l.getD i (0,0,0,0,0)).1=k)) (by omega)
  (λ i hi=>by simp only[AE,AF,Bo,Aq,As,A8,Az,Be,G8]) (λ i hi=>rfl)]
 have hall:=OU (t:=λ i=>decide ((l.getD i (0,0,0,0,0)).1=k)) (n:=l.length)
 have hle:=Ju (λ i=>decide ((l.getD i (0,0,0,0,0)).1=k)) l.length 0
 have hlt:=OX (λ i=>decide ((l.getD i (0,0,0,0,0)).1=k)) l.length 0
 generalize CP (λ i=>decide ((l.getD i (0,0,0,0,0)).1=k)) l.length 0=q at hall hle hlt
 rw[BA,Aq,As]
 by_cases h:q<l.length
 . right
   refine⟨q,h,by rw[Ac (by simpa using h)],by simpa using hlt (by omega)⟩
 . left
   refine⟨by rw[Ae (by simpa using h)],λ a ha=>?_⟩;obtain⟨i,hi,rfl⟩:=IP ha;have:=hall.1 (by omega) i hi;rw[Bl,G3 l _ hi] at this;exact this
theorem wF(l:BQ)(i:Nat)(h:i<l.length)(hl:l.length<=1048576):Dl (l,(i:Int))=l.eraseIdx i /\
 lApp (lTake l (lN (lSub l 0 (iNat (i:Int))))) (lSub l (iNat (iAdd .i64 (i:Int) 1)) (lN l))=l.eraseIdx i:=by
 have e:iAdd .i64 (i:Int) 1=((i+1:Nat):Int):=by rw[Bx (by unfold AO;omega)];omega
 rw[Qo]
 simp only[e,BD,WA,HJ,II,Az,Be,G9,L3,CV,Ex,Nat.min_eq_left (Nat.le_of_lt h),List.eraseIdx_eq_take_drop_succ]
 have:(l.drop (i+1)).take (l.length-(i+1))=l.drop (i+1):=PO (by rw[Nq];omega)
 rw[this];exact⟨rfl,rfl⟩
theorem im(x:BZ)(hs:FZ x):Qm x/\B4 x=x:=by
 obtain⟨keys,layers,macros,fixed,held,once,caps⟩:=x;have hm:MW macros:=hs.2.1;have hh:Pg held:=hs.2.2.1;obtain⟨c1,c2⟩:=gX keys layers hs.1;obtain⟨b1,b2⟩:=gI macros hm;rw[qu,qp];have hl:=hh.1;refine⟨⟨c1,b1,by unfold Aw;simp only;omega⟩,?_⟩;simp only[c2,b2]
def Yf:BZ:=(0,[],[],0,[],0,false)
theorem iZ(x:BZ)(k:Int)(hs:FZ x)(he:D9 x=true)(i:Nat)(hi:i<x.2.2.2.2.1.length)(hk:B1 (x,k)=(i:Int)) :
 QK (x,k)/\QS (x,k) /\
 QY (x,k)=((x.1,x.2.1,x.2.2.1,x.2.2.2.1,x.2.2.2.2.1.eraseIdx i,x.2.2.2.2.2),Mx (BS x.2.2.2.2.1) [BS (x.2.2.2.2.1.eraseIdx i)],true) /\
 Q2 (x,k)=((x.1,x.2.1,x.2.2.1,x.2.2.2.1,x.2.2.2.2.1.eraseIdx i,x.2.2.2.2.2),Mx (BS x.2.2.2.2.1) [BS (x.2.2.2.2.1.eraseIdx i)],true):=by
 have hl:x.2.2.2.2.1.length<=1048576:=hs.2.2.1.1
 obtain⟨e1,e2,e3⟩:=Rk x hs
 obtain⟨k1,k2⟩:=Wd (x,k) hl
 have hb:bOr (bNot true) (iLt (i:Int) 0)=false:=by
  rw[A4,AF,Aq,DQ (by omega)];rfl
 obtain⟨c1,c2⟩:=Wk x hs
 obtain⟨d1,d2⟩:=im x hs
 obtain⟨w1,w2⟩:=wF x.2.2.2.2.1 i hi hl
 have hl':(x.2.2.2.2.1.eraseIdx i).length<=1048576:=by rw[List.length_eraseIdx];split<;>omega
 obtain⟨r1,r2,r3,r4⟩:=MQ x.2.2.2.2.1 hl
 obtain⟨s1,s2,s3,s4⟩:=MQ (x.2.2.2.2.1.eraseIdx i) hl'
 rw[r3] at r4
 rw[s3] at s4
 obtain⟨g1,g2,g3,g4⟩:=jf (BS x.2.2.2.2.1) [BS (x.2.2.2.2.1.eraseIdx i)] r4 (by simp) (λ r hr=>by rw[List.mem_singleton] at hr;rw[hr];exact s4)
 have hw:=Wa x.2.2.2.2.1 (i:Int) (by omega) (by omega) hl
 have e:iAdd .i64 (i:Int) 1=((i+1:Nat):Int):=by rw[Bx (by unfold AO;omega)];omega
 rw[sS,tc,tM,tq,tl,tF]
 simp only[Wp,<- e3,he,hk,c2,d2,w1,w2,r3,s3,g3,g4,hb,CQ]
 refine⟨⟨k1,e1,(λ h=>by cases h),λ _=>⟨c1,hw,r1,s1,g1,trivial,trivial,trivial⟩⟩,⟨⟨e2,λ _=>trivial,λ _=>k2⟩,(λ h=>by cases h),λ _=>⟨d1,k2,⟨by omega,by omega,by rw[Az];omega,by omega⟩,?_,?_,r2,s2,g2⟩⟩,trivial,trivial⟩
 . rw[e];simp only[Az,HJ];omega
 . simp only[e,Az,HJ,II,G9,L3,Ex,Nq,Be]
   refine⟨by omega,by omega,by unfold Aw;omega⟩
theorem EngOk.rel{x:BZ}(h:EngOk x)(hl:x.2.2.2.2.1.length<=1048576)(i:Nat):EngOk (x.1,x.2.1,x.2.2.1,x.2.2.2.1,x.2.2.2.2.1.eraseIdx i,x.2.2.2.2.2):=by
 obtain⟨a1,a2,a3,a4,a5,a6,a7,a8,a9,a10⟩:=h;have hsub:=List.eraseIdx_sublist x.2.2.2.2.1 i;have hl':(x.2.2.2.2.1.eraseIdx i).length<=1048576:=JK hsub.length_le hl;obtain⟨b1,b2⟩:=(O3 hl).1 a4;refine⟨a1,a2,a3,(O3 hl').2 ⟨λ a ha=>b1 a (hsub.subset ha),b2.sublist hsub⟩,λ a ha=>a5 a (hsub.subset ha),a6,a7,a8,a9,a10⟩
end
section
set_option maxRecDepth 20000
def X9(n:Nat)(a:FL):Prop:=Bt a=true/\a.1≠1/\a.1≠6/\a.1≠7/\(a.1≠9->a.2.2.2<n)
theorem jE(a:FL):QB a=Kl a:=by
 rw[q8,YC,LG]
theorem ln(a:FL):Cc a=DA a:=by rw[wR,gP,jE]
theorem Zar(a:FL):Ve a=DK a:=by rw[vr,gb,jE]
theorem jG(a:FL):U0 a/\Vk a/\UD a/\Q8 a:=by
 rw[vN,wD,uW,wi,qE];exact⟨ZN _,ZN _,Qj _,Qj _⟩
theorem xk{n:Nat}{a:FL}(h1:Bt a=true)(h2:a.1≠1)(h3:a.1≠9->a.2.2.2<n)(hn:1<=n):X9 n (DK a)/\X9 n (DA a):=by
 obtain⟨k,c,m,p⟩:=a;have h:=(Dp k c m p).1 h1;rw[gb,gP,YC,LG,h1];simp only[AF,BA,AE,A4,Bo,Nw] at h2 h3 ⊢;by_cases k6:k=6
 . subst k6
   have h6:1<=c/\c<=56/\1<=m/\m<=15:=by omega
   have i1:Bt (2,0,m,0)=true:=(Dp _ _ _ _).2 (.inr (.inl ⟨rfl,rfl,by omega,by omega,by omega,by omega,by omega⟩));have i2:Bt (2,c,0,0)=true:=(Dp _ _ _ _).2 (.inr (.inl ⟨rfl,rfl,by omega,by omega,by omega,by omega,by omega⟩));simp only[decide_true,Bool.true_or,GA,AJ,AP,AK];exact⟨⟨i1,by simp,by simp,by simp,λ _=>by simp only;omega⟩,⟨i2,by simp,by simp,by simp,λ _=>by simp only;omega⟩⟩
 . by_cases k7:k=7
   . subst k7
     have h7:1<=c/\c<=56/\1<=p/\p<=3:=by omega
     have i1:Bt (3,0,0,p)=true:=(Dp _ _ _ _).2 (.inr (.inr (.inl ⟨.inl rfl,rfl,rfl,by omega,by omega⟩)));have i2:Bt (2,c,0,0)=true:=(Dp _ _ _ _).2 (.inr (.inl ⟨rfl,rfl,by omega,by omega,by omega,by omega,by omega⟩));have:=h3 (by omega);simp only[k6,decide_true,decide_false,Bool.or_true,GA,AJ,AP,AK];exact⟨⟨i1,by simp,by simp,by simp,λ _=>this⟩,⟨i2,by simp,by simp,by simp,λ _=>by simp only;omega⟩⟩
   . simp only[k7,k6,decide_false,Bool.or_self,Bool.not_false,AK];exact⟨⟨h1,h2,k6,k7,h3⟩,⟨h1,h2,k6,k7,h3⟩⟩
theorem Zea{a:FL}(h:Bt a=true):0<=a.2.2.2/\a.2.2.2<=3:=by
 obtain⟨k,c,m,n⟩:=a;have:=(Dp k c m n).1 h;simp only;omega
theorem nq{k:Int}{L:List (List FL)}(hm:MapOk k L)(on key:Int)(k0:0<=key)(k1:key<k) :
 Bt (Hp ((k,L),on,key))=true/\(Hp ((k,L),on,key)).1≠1/\((Hp ((k,L),on,key)).1≠9->(Hp ((k,L),on,key)).2.2.2<L.length) /\
 Hp ((k,L),on,key)=(L.getD (BU ((k,L),on,key)).toNat []).getD key.toNat (0,0,0,0):=by
 obtain⟨a1,a2,a3,_⟩:=iI hm on key k0 k1
 have e:Hp ((k,L),on,key)=(L.getD (BU ((k,L),on,key)).toNat []).getD key.toNat (0,0,0,0):=by
  rw[eX];simp only;rw[Aq,DQ (by omega),CQ,A8,A8,Az,Az]
 rw[e]
 have hr:=hm.row (BU ((k,L),on,key)).toNat (by omega)
 obtain⟨b1,b2,b3⟩:=hm.act (BU ((k,L),on,key)).toNat key.toNat (by omega) (by omega)
 refine⟨b1,?_,b3,rfl⟩
 by_cases h:0<BU ((k,L),on,key)
 . exact(a3 h).2
 . exact b2 (by omega)
def HU(x:BZ)(k:Int):FL:=Hp ((x.1,x.2.1),Ea (x.2.2.2.1,x.2.2.2.2.1),k)
def Gb(x:BZ)(k:Int)(h:Bool):FL:=bSel h (DK (HU x k)) (DA (HU x k))
def AX(x:BZ)(k:Int)(h:Bool):FL×BZ:=C3 (EY (Gb x k h).2.1) x (Gb x k h)
def Cq(x:BZ)(k:Int)(h:Bool):BQ:=x.2.2.2.2.1++[(k,(AX x k h).1)]
def Hm(x:BZ)(k:Int)(h:Bool):List Dx:=bSel (bAnd (iEq (AX x k h).1.1 9) (iLt (AX x k h).1.2.2.2 (lLen x.2.2.1))) (Fp (Cq x k h,lGet x.2.2.1 (iNat (AX x k h).1.2.2.2) [])) []
def Ej(x:BZ)(k:Int)(h:Bool):BZ:=(x.1,x.2.1,x.2.2.1,(AX x k h).2.2.2.2.1,Cq x k h,(AX x k h).2.2.2.2.2.2)
theorem Wl{x:BZ}(he:EngOk x)(hs:FZ x)(k:Int)(h:Bool)(k0:0<=k)(k1:k<x.1):X9 x.2.1.length (Gb x k h):=by
 have hm:=GU hs.1 he.map;obtain⟨a1,a2,a3,_⟩:=nq hm (Ea (x.2.2.2.1,x.2.2.2.2.1)) k k0 k1;obtain⟨b1,b2⟩:=xk a1 a2 a3 hm.l1;unfold Gb HU;cases h
 . rw[CQ];exact b2
 . rw[Dn];exact b1
theorem jB(w:Bool)(c:Int){m on:Nat}(cp:Bool)(h1:m<=15)(h2:on<=15):JC w c m on cp<=15:=by
 unfold JC;split
 . omega
 . have:=Nat.or_lt_two_pow (x:=m) (y:=on) (n:=4) (by omega) (by omega);omega
theorem ZaF(w:Bool){x:BZ}(n:Nat)(hn:n<=4){a:FL}(ha:X9 n a)(on0:0<=x.2.2.2.2.2.1)(on1:x.2.2.2.2.2.1<=15)(f0:0<=x.2.2.2.1)(f2:x.2.2.2.1 % 2=0)(f1:x.2.2.2.1<((2^n:Nat):Int)) :
 (Bt (C3 w x a).1=true/\(C3 w x a).1.1=a.1/\(C3 w x a).1.2.1=a.2.1/\(C3 w x a).1.2.2.2=a.2.2.2) /\
 ((C3 w x a).2.1=x.1/\(C3 w x a).2.2.1=x.2.1/\(C3 w x a).2.2.2.1=x.2.2.1/\(C3 w x a).2.2.2.2.2.1=x.2.2.2.2.1) /\
 (0<=(C3 w x a).2.2.2.2.2.2.1/\(C3 w x a).2.2.2.2.2.2.1<=15)/\0<=(C3 w x a).2.2.2.2.1/\(C3 w x a).2.2.2.2.1 % 2=0/\(C3 w x a).2.2.2.2.1<((2^n:Nat):Int):=by
 obtain⟨k,L,mc,f,hd,on,cp⟩:=x
 obtain⟨kd,c,m,p⟩:=a
 obtain⟨h1,h2,h3,h4,h5⟩:=ha
 have h:=(Dp kd c m p).1 h1
 simp only at on0 on1 f0 f1 f2 h2 h3 h4 h5
 obtain⟨F,rfl⟩:=Int.eq_ofNat_of_zero_le f0
 obtain⟨O,rfl⟩:=Int.eq_ofNat_of_zero_le on0
 obtain⟨M,rfl⟩:=Int.eq_ofNat_of_zero_le (show 0<=m by omega)
 obtain⟨P,rfl⟩:=Int.eq_ofNat_of_zero_le (show 0<=p by omega)
 have hF:F<2^n:=by omega
 have h2n:2^n<=2^4:=Nat.pow_le_pow_right (by omega) hn
 have h24:(2:Nat)^4=16:=by decide
 unfold C3
 simp only[Be]
 by_cases k2:kd=2
 . subst k2
   by_cases hc:0<c
   . have:=jB w c cp (m:=M) (on:=O) (by omega) (by omega);simp only[AK,Ac hc]
     refine⟨⟨(Dp _ _ _ _).2 (.inr (.inl ⟨rfl,by omega,by omega,by omega,by omega,by omega,by omega⟩)),?_,?_,?_⟩,⟨?_,?_,?_,?_⟩,⟨?_,?_⟩,?_,?_,?_⟩<;>first|trivial|omega
   . simp only[AK,Ae hc]
     refine⟨⟨h1,?_,?_,?_⟩,⟨?_,?_,?_,?_⟩,⟨?_,?_⟩,?_,?_,?_⟩<;>first|trivial|omega
 . rw[Ae k2]
   by_cases k4:kd=4
   . have hp:=h5 (by omega);obtain⟨t1,t2⟩:=Zcc ⟨F,by omega⟩ ⟨P,by omega⟩ ⟨n,by omega⟩ (by simp only;omega) (by simp only;omega) (by simp only;omega) (by simp only;omega);simp only[Ac k4];simp only at t1 t2
     refine⟨⟨h1,?_,?_,?_⟩,⟨?_,?_,?_,?_⟩,⟨?_,?_⟩,?_,?_,?_⟩<;>first|trivial|omega
   . rw[Ae k4];by_cases k5:kd=5
     . have hp:=h5 (by omega);obtain⟨t1,t2⟩:=ZcW ⟨P,by omega⟩ ⟨n,by omega⟩ (by simp only;omega);simp only[Ac k5];simp only at t1 t2
       refine⟨⟨h1,?_,?_,?_⟩,⟨?_,?_,?_,?_⟩,⟨?_,?_⟩,?_,?_,?_⟩<;>first|trivial|omega
     . rw[Ae k5];by_cases k8:kd=8
       . have t:=bU O M;have t2:=Nat.or_lt_two_pow (x:=O) (y:=M) (n:=4) (by omega) (by omega);simp only[Ac k8]
         refine⟨⟨h1,?_,?_,?_⟩,⟨?_,?_,?_,?_⟩,⟨?_,?_⟩,?_,?_,?_⟩<;>first|trivial|omega|(split<;>omega)
       . rw[Ae k8];split
         . exact⟨⟨h1,rfl,rfl,rfl⟩,⟨rfl,rfl,rfl,rfl⟩,⟨by simp only;omega,by simp only;omega⟩,by simp only;omega,by simp only;omega,by simp only;omega⟩
         . exact⟨⟨h1,rfl,rfl,rfl⟩,⟨rfl,rfl,rfl,rfl⟩,⟨by simp only;omega,by simp only;omega⟩,by simp only;omega,by simp only;omega,by simp only;omega⟩
theorem Yh(h:Bool)(a b:FL):(bSel h a.1 b.1,bSel h a.2.1 b.2.1,bSel h a.2.2.1 b.2.2.1,bSel h a.2.2.2 b.2.2.2)=bSel h a b:=by
 cases h
 . simp only[CQ]
 . simp only[Dn]
theorem jT{x:BZ}(he:EngOk x)(hs:FZ x)(k:Int)(h:Bool)(k0:0<=k)(k1:k<x.1) :
 (Bt (AX x k h).1=true/\(AX x k h).1.1=(Gb x k h).1/\(AX x k h).1.2.1=(Gb x k h).2.1/\(AX x k h).1.2.2.2=(Gb x k h).2.2.2) /\
 ((AX x k h).2.1=x.1/\(AX x k h).2.2.1=x.2.1/\(AX x k h).2.2.2.1=x.2.2.1/\(AX x k h).2.2.2.2.2.1=x.2.2.2.2.1) /\
 (0<=(AX x k h).2.2.2.2.2.2.1/\(AX x k h).2.2.2.2.2.2.1<=15)/\0<=(AX x k h).2.2.2.2.1/\(AX x k h).2.2.2.2.1 % 2=0/\(AX x k h).2.2.2.2.1<((2^x.2.1.length:Nat):Int):=
 ZaF _ x.2.1.length (GU hs.1 he.map).l2 (Wl he hs k h k0 k1) he.on0 he.on1 he.f0 he.f2 he.f1
theorem ZcR{x:BZ}(he:EngOk x)(hs:FZ x)(k:Int)(h:Bool)(k0:0<=k)(k1:k<x.1)(hn:∀ a∈x.2.2.2.2.1,a.1≠k):EngOk (Ej x k h):=by
 have hl:x.2.2.2.2.1.length<=1048576:=hs.2.2.1.1;have h32:=aD hl he.held;have hm:=GU hs.1 he.map;have ha:=Wl he hs k h k0 k1;obtain⟨⟨s1,s2,s3,s4⟩,_,⟨s5,s6⟩,s7,s8,s9⟩:=jT he hs k h k0 k1;obtain⟨b1,b2⟩:=(O3 hl).1 he.held;have hk2:=hm.k2;refine⟨he.map,he.mac,he.macs,?_,?_,s5,s6,s7,s8,s9⟩
 . refine(O3 (by show (Cq x k h).length<=_;unfold Cq;simp;omega)).2 ⟨?_,?_⟩
   . intro a hmem;change a∈Cq x k h at hmem;unfold Cq at hmem;rw[CF,List.mem_singleton] at hmem;rcases hmem with hmem|rfl
     . exact b1 a hmem
     . exact⟨k0,by simp only;omega,s1,by simp only;rw[s2];exact ha.2.1,by simp only;rw[s2];exact ha.2.2.1,by simp only;rw[s2];exact ha.2.2.2.1⟩
   . show (Cq x k h).Pairwise _;unfold Cq;refine List.pairwise_append.2 ⟨b2,List.pairwise_singleton _ _,λ a ha b hb=>?_⟩;rw[List.mem_singleton] at hb;subst hb;exact hn a ha
 . intro a hmem;change a∈Cq x k h at hmem;unfold Cq at hmem;rw[CF,List.mem_singleton] at hmem;rcases hmem with hmem|rfl
   . exact he.hk a hmem
   . refine⟨k1,λ h9=>?_⟩;simp only at h9 ⊢;rw[s4];exact ha.2.2.2.2 (by rw[<- s2];exact h9)
theorem jR(x:BZ)(k:Int)(h:Bool)(hs:FZ x)(hb:D9 x=false\/k<0\/x.1<=k\/0<=B1 (x,k)) :
 LC (x,k,h)/\MN (x,k,h)/\Iz (x,k,h)=(Yf,[],false)/\KH (x,k,h)=(Yf,[],false):=by
 have hl:x.2.2.2.2.1.length<=1048576:=hs.2.2.1.1
 obtain⟨e1,e2,e3⟩:=Rk x hs
 obtain⟨k1,k2⟩:=Wd (x,k) hl
 have okl:∀ y,Ed y:=λ y=>by rw[OR];trivial
 rw[gE,il,ik,hZ]
 unfold Lr
 simp only[Wp,<- e3,Gu]
 cases he:D9 x with
 | false=>
   have c2:bNot false=true:=by rw[AF];rfl
   have c3:∀ b,bOr true b=true:=λ b=>by rw[A4];rfl
   simp only[c2,c3,Dn];exact⟨⟨⟨e1,λ _=>trivial,(λ h=>by cases h)⟩,λ _=>trivial,(λ h=>by cases h)⟩,⟨⟨e2,λ _=>trivial,(λ h=>by cases h)⟩,λ _=>trivial,(λ h=>by cases h)⟩,rfl,rfl⟩
 | true=>
   have hm:=GU hs.1 ((VD x hs).1 he).map;have hk1:=hm.k1;have hk2:=hm.k2
   have hb:k<0\/x.1<=k\/0<=B1 (x,k):=by rcases hb with hb|hb;rw[he] at hb;cases hb;exact hb
   have c1:bOr (bNot true) (bOr (bNot (decide (0<=k)&&decide (k<=iSub .i64 x.1 1))) (iGe (B1 (x,k)) 0))=true:=by
    simp only[A4,AF,CK,GA,Bool.false_or,Cn,BB,F7,Bl,Ap];rw[EH (by unfold AO;omega)];omega
   have c2:bOr (bNot true) (bOr (iLt k 0) (bOr (iGe k x.1) (iGe (B1 (x,k)) 0)))=true:=by
    simp only[A4,AF,CK,Aq,GA,Bool.false_or,Cn,Ap];omega
   simp only[c1,c2,Dn];exact⟨⟨⟨e1,λ _=>trivial,λ _=>⟨okl _,λ _=>trivial,λ _=>k1⟩⟩,λ _=>trivial,λ h=>by cases h⟩,⟨⟨e2,λ _=>trivial,λ _=>⟨λ _=>trivial,λ _=>⟨λ _=>trivial,λ _=>k2⟩⟩⟩,λ _=>trivial,λ h=>by cases h⟩,rfl,rfl⟩
theorem kz(x:BZ)(k:Int)(h:Bool)(hs:FZ x)(he:D9 x=true)(k0:0<=k)(k1:k<x.1)(hn:B1 (x,k)<0) :
 LC (x,k,h)/\MN (x,k,h)/\Iz (x,k,h)=(Ej x k h,Mx (BS x.2.2.2.2.1) (Hm x k h++[BS (Cq x k h)]),true) /\
 KH (x,k,h)=(Ej x k h,Mx (BS x.2.2.2.2.1) (Hm x k h++[BS (Cq x k h)]),true)/\JW (BS x.2.2.2.2.1)/\JW (BS (Cq x k h))/\(∀ r∈Hm x k h,JW r)/\(Hm x k h).length<=1048576:=by
 have hl:x.2.2.2.2.1.length<=1048576:=hs.2.2.1.1
 have eo:=(VD x hs).1 he
 have hm:=GU hs.1 eo.map
 have hk1:=hm.k1
 have hk2:=hm.k2
 have hl4:=hm.l2
 have h32:=aD hl eo.held
 obtain⟨e1,e2,e3⟩:=Rk x hs
 obtain⟨q1,q2⟩:=Wd (x,k) hl
 obtain⟨c1,c2⟩:=Wk x hs
 obtain⟨d1,d2⟩:=im x hs
 have ag:=Wl eo hs k h k0 k1
 obtain⟨⟨s1,s2,s3,s4⟩,⟨s5,s6,s7,s8⟩,_⟩:=jT eo hs k h k0 k1
 have hf15:x.2.2.2.1<=15:=by
  have h2:2^x.2.1.length<=2^4:=Nat.pow_le_pow_right (by omega) hl4;have:=eo.f1;omega
 obtain⟨t1,t2,t3,t4⟩:=zV x (Gb x k h) ag.1 eo.f0 hf15 eo.on0 eo.on1
 obtain⟨_,_,_,ea⟩:=nq hm (Ea (x.2.2.2.1,x.2.2.2.2.1)) k k0 k1
 obtain⟨la1,la2,_,_⟩:=iI hm (Ea (x.2.2.2.1,x.2.2.2.2.1)) k k0 k1
 have hv:QZ ((x.1,x.2.1),Ea (x.2.2.2.1,x.2.2.2.2.1),k)=BU ((x.1,x.2.1),Ea (x.2.2.2.1,x.2.2.2.2.1),k):=by
  rw[Um ((x.1,x.2.1),Ea (x.2.2.2.1,x.2.2.2.2.1),k)];simp only;rw[eo.map,A4,A4,AF,Aq,CK,DQ (by omega),DQ (by omega)];simp only[GA,Bool.or_self,CQ]
 have S2:Ck (x,k,h)=HU x k:=by
  unfold Ck HU;simp only[iY,xO _ _ _ _ hs.1]
 have S3:BN (x,k,h)=AX x k h:=by
  unfold BN;simp only[S2,c2,Yh];exact t3
 have I1:Jl (x,k,h)=BU ((x.1,x.2.1),Ea (x.2.2.2.1,x.2.2.2.2.1),k):=hv
 have eg:lGet (lGet x.2.1 (iNat (BU ((x.1,x.2.1),Ea (x.2.2.2.1,x.2.2.2.2.1),k))) []) (iNat k) (0,0,0,0)=HU x k:=by
  rw[A8,A8,Az,Az];exact ea.symm
 have I2:EF (x,k,h)=DA (HU x k):=by
  unfold EF;simp only[I1,eg,ln]
 have I3:EE (x,k,h)=DK (HU x k):=by
  unfold EE;simp only[I1,eg,Zar]
 have I4:BM (x,k,h)=AX x k h:=by
  unfold BM;simp only[I2,I3,d2,Yh];exact t4
 have H:lApp (AX x k h).2.2.2.2.2.1 [(k,(AX x k h).1)]=Cq x k h:=by rw[BD,s8];rfl
 have E:∀ z:BZ,((AX x k h).2.1,(AX x k h).2.2.1,(AX x k h).2.2.2.1,(AX x k h).2.2.2.2.1,Cq x k h,(AX x k h).2.2.2.2.2.2)=Ej x k h:=λ _=>by
  unfold Ej;rw[s5,s6,s7]
 have hP:(Cq x k h).length<=1048576:=by unfold Cq;simp;omega
 obtain⟨r1,r2,r3,r4⟩:=MQ x.2.2.2.2.1 hl
 obtain⟨u1,u2,u3,u4⟩:=MQ (Cq x k h) hP
 rw[r3] at r4
 rw[u3] at u4
 have S4:QL (x,k,h)=BS (Cq x k h):=by unfold QL;simp only[S3,H]
 have S5:QH (x,k,h)=Fp (Cq x k h,lGet x.2.2.1 (iNat (AX x k h).1.2.2.2) []):=by unfold QH;simp only[S3,H]
 have I5:QN (x,k,h)=BS (Cq x k h):=by unfold QN;simp only[I4,H,u3]
 have mac:bAnd (iEq (AX x k h).1.1 9) (iLt (AX x k h).1.2.2.2 (lLen x.2.2.1))=true->((0:Int)<=(AX x k h).1.2.2.2/\(AX x k h).1.2.2.2<(x.2.2.1.length:Int))/\iNat (AX x k h).1.2.2.2<x.2.2.1.length /\
  NX (Cq x k h,lGet x.2.2.1 (iNat (AX x k h).1.2.2.2) [])/\NY (Cq x k h,lGet x.2.2.1 (iNat (AX x k h).1.2.2.2) [])/\NZ (Cq x k h,lGet x.2.2.1 (iNat (AX x k h).1.2.2.2) [])=Fp (Cq x k h,lGet x.2.2.1 (iNat (AX x k h).1.2.2.2) []) /\
  (Fp (Cq x k h,lGet x.2.2.1 (iNat (AX x k h).1.2.2.2) [])).length<=1048576/\∀ r∈Fp (Cq x k h,lGet x.2.2.1 (iNat (AX x k h).1.2.2.2) []),JW r:=by
  intro hc
  rw[AE,Bo,Aq,As,Ah,Ap,Ap] at hc
  obtain⟨g1,g2⟩:=hc
  have h0:0<=(AX x k h).1.2.2.2:=(Zea s1).1
  have hi:iNat (AX x k h).1.2.2.2<x.2.2.1.length:=by rw[Az];omega
  have hlen:=(hs.2.1.2 _ (DD x.2.2.1 (iNat (AX x k h).1.2.2.2) [] hi)).1
  rw[<- A8] at hlen
  obtain⟨m1,m2,m3,m4,m5⟩:=rD (Cq x k h) (lGet x.2.2.1 (iNat (AX x k h).1.2.2.2) []) hP hlen
  exact⟨⟨h0,g2⟩,hi,m1,m2,m3,m4,m5⟩
 have I6:bSel (bAnd (iEq (AX x k h).1.1 9) (iLt (AX x k h).1.2.2.2 (lLen x.2.2.1))) (QR (x,k,h)) []=Hm x k h:=by
  unfold Hm
  cases hb:bAnd (iEq (AX x k h).1.1 9) (iLt (AX x k h).1.2.2.2 (lLen x.2.2.1)) with
  |false=>rw[CQ,CQ]
  | true=>
    rw[Dn,Dn];unfold QR;simp only[I4,H];exact(mac hb).2.2.2.2.1
 have mS:(Hm x k h).length<=1048576/\∀ r∈Hm x k h,JW r:=by
  unfold Hm
  cases hb:bAnd (iEq (AX x k h).1.1 9) (iLt (AX x k h).1.2.2.2 (lLen x.2.2.1)) with
  |false=>rw[CQ];exact⟨by simp,by simp⟩
  |true=>rw[Dn];exact(mac hb).2.2.2.2.2
 have M:bSel (bAnd (iEq (AX x k h).1.1 9) (iLt (AX x k h).1.2.2.2 (lLen x.2.2.1))) (Fp (Cq x k h,lGet x.2.2.1 (iNat (AX x k h).1.2.2.2) [])) []=Hm x k h:=rfl
 obtain⟨g1,g2,g3,g4⟩:=jf (BS x.2.2.2.2.1) (Hm x k h++[BS (Cq x k h)]) r4 (by have:=mS.1;simp;omega) (by
  intro r hr
  rw[CF,List.mem_singleton] at hr
  rcases hr with hr|rfl
  . exact mS.2 r hr
  . exact u4)
 have hroom1:Aw ((x.2.2.2.2.1.length+[(k,(AX x k h).1)].length)*5):=by unfold Aw;simp only[AG,AL];omega
 have hroom2:Aw (((Hm x k h).length+[BS (Cq x k h)].length)*2):=by have:=mS.1;unfold Aw;simp only[AG,AL];omega
 obtain⟨th1,th2,th3,th4⟩:=jG (HU x k)
 have okl:∀ y,Ed y:=λ y=>by rw[OR];trivial
 have ola:=jA x.1 x.2.1 (Ea (x.2.2.2.1,x.2.2.2.2.1)) k hs.1
 have bs:bOr (bNot true) (bOr (bNot (decide (0<=k)&&decide (k<=iSub .i64 x.1 1))) (iGe (B1 (x,k)) 0))=false:=by
  rw[EH (by unfold AO;omega),A4,A4,AF,AF,CK,JA (by omega),JA (by omega),DQ (by omega)];rfl
 have bi:bOr (bNot true) (bOr (iLt k 0) (bOr (iGe k x.1) (iGe (B1 (x,k)) 0)))=false:=by
  rw[A4,A4,A4,AF,Aq,CK,CK,DQ (by omega),DQ (by omega),DQ (by omega)];rfl
 have S1:Lr (x,k,h)=(decide (0<=k)&&decide (k<=iSub .i64 x.1 1)):=by unfold Lr;rw[Gu]
 refine⟨?_,?_,?_,?_,r4,u4,mS.2,mS.1⟩
 . rw[gE]
   simp only[Wp,<- e3,he,S1,S2,S3,S4,S5,H,M,bs,c2,Yh,iY];refine⟨⟨e1,λ _=>trivial,λ _=>⟨okl _,λ _=>trivial,λ _=>q1⟩⟩,(λ h=>by cases h),λ _=>⟨c1,pV _ _ hl,(iO _ _ _ _ hs.1).1,⟨λ _=>th1,λ _=>th2⟩,t1,by rw[s8];exact hroom1,⟨λ hc=>⟨(mac hc).1,(mac hc).2.1,(mac hc).2.2.1⟩,λ _=>trivial⟩,u1,hroom2,r1,by rw[BD];exact g1,trivial,trivial,trivial⟩⟩
 . rw[il,wK]
   have hrow:=hm.row (BU ((x.1,x.2.1),Ea (x.2.2.2.1,x.2.2.2.2.1),k)).toNat (by omega)
   have okA:QM ((x.1,x.2.1),Ea (x.2.2.2.1,x.2.2.2.2.1),k):=by
    have:=ola.2;rw[fN] at this;refine this.2.2 ?_;simp only;rw[eo.map,A4,A4,AF,Aq,CK,DQ (by omega),DQ (by omega)];rfl
   simp only[he,bi,I1,eg,I2,I3,I4,I5,I6,H,d2,Yh,r3];refine⟨⟨e2,λ _=>trivial,λ _=>⟨λ _=>trivial,λ _=>⟨λ _=>trivial,λ _=>q2⟩⟩⟩,(λ h=>by cases h),λ _=>⟨d1,eC _ _ hl,okA,⟨la1,la2⟩,by rw[Az];omega,⟨k0,?_⟩,?_,⟨λ _=>th3,λ _=>th4⟩,t2,by rw[s8];exact hroom1,⟨λ hc=>⟨(mac hc).1,(mac hc).2.1,(mac hc).2.2.2.1⟩,λ _=>trivial⟩,u2,hroom2,r2,by rw[BD];exact g2,trivial,trivial,trivial⟩⟩
   . rw[A8,Az];omega
   . rw[A8,Az,Az];omega
 . rw[ik]
   simp only[Wp,<- e3,he,S1,S3,S4,S5,H,M,bs,CQ,BD,g3,E x]
 . rw[hZ,wO]
   simp only[he,bi,I4,I5,I6,H,CQ,BD,r3,g4,E x]
end
section
set_option maxRecDepth 20000
theorem Zdi {c:BQ×Int->Bool} {f:BQ×Int->BQ×Int} (x:CX) (hok:∀ i,i<x.length->Le (BP x i) (x.getD i (0,0,0)))
 (hc:∀ (dn:BQ) (i:Nat),i<x.length->Le dn (x.getD i (0,0,0))->c (dn,(i:Int))=true) (hf:∀ (dn:BQ) (i:Nat),i<x.length->f (dn,(i:Int))=(Ey dn (x.getD i (0,0,0)),(i:Int)+1))
 (hn:∀ dn:BQ,c (dn,(x.length:Int))=false):Am c f ([],0)=(BP x x.length,(x.length:Int)):=
 (Jx (p:=λ _=>True) x.length (λ i=>(BP x i,(i:Int))) (x0:=([],0)) rfl (λ i hi=>⟨trivial,hc _ i hi (hok i hi),by rw[hf _ i hi,<- Ph x hi];simp⟩) ⟨trivial,hn _⟩).2
theorem yt(x:CX)(h8:x.length<=8)(h0:BP x x.length=[])(hok:∀ i,i<x.length->Le (BP x i) (x.getD i (0,0,0))):Gh x=true:=by
 rw[Y0,Zdi x hok (λ dn i hi hk=>by
  obtain⟨k1,k2,k3,k4⟩:=hk;simp only[As,A8,Az,Be,ME,LG,Gu,AE,AF,A4,Nc,Aq,Bo,CK];rw[JA (show (i:Int)<(x.length:Int) by omega),k3,JA k1,JA k2];have e:decide ((x.getD i (0,0,0)).1=2)=decide (0<=B5 (dn,(x.getD i (0,0,0)).1,(x.getD i (0,0,0)).2.1,(x.getD i (0,0,0)).2.2)):=decide_eq_decide.2 k4
  rw[e];simp) (λ dn i hi=>by
  simp only[A8,Az,Be,ME,BA,Bo,Ap,BD];rw[Bx (by unfold AO;omega)]
  rfl) (λ dn=>by simp only[As,AE,Aq];rw[DQ (by omega)];rfl)]
 rw[h0,As,As,AE,AE,AF,Aq,Ew,Bo,DQ (show ¬ (x.length:Int)<(x.length:Int) by omega),JA (show (x.length:Int)<=8 by omega)];rfl
def RunOk(x:CX):Prop:=BP x x.length=[]/\∀ i,i<x.length->Le (BP x i) (x.getD i (0,0,0))
theorem my(a b:CX)(h:BP a a.length=[])(i:Nat)(hi:i<=b.length):BP (a++b) (a.length+i)=BP b i:=by
 unfold BP at h ⊢;rw[HG] at h;rw[List.take_append,PO (by omega),List.foldl_append,h,show a.length+i-a.length=i by omega]
theorem RunOk.app{a b:List CS}(ha:RunOk a)(hb:RunOk b):RunOk (a++b):=by
 refine⟨by rw[Cv,my a b ha.1 _ (BI _)];exact hb.1,λ i hi=>?_⟩;rw[Cv] at hi;by_cases h:i<a.length
 . have e:BP (a++b) i=BP a i:=by unfold BP;rw[List.take_append_of_le_length (by omega)]
   rw[e,Eg,Bv h,<- Eg];exact ha.2 i h
 . obtain⟨j,rfl⟩:∃ j,i=a.length+j:=⟨i-a.length,by omega⟩;rw[my a b ha.1 j (by omega),Eg,De (by omega),show a.length+j-a.length=j by omega,<- Eg];exact hb.2 j (by omega)
theorem RunOk.nil:RunOk []:=⟨rfl,λ i h=>by simp at h⟩
theorem ay(s:CS):B5 ([],s)=-1:=by
 rcases WD [] s (by simp) with h|h
 . exact h
 . simp at h;omega
theorem xH(a:Ff)(k c m:Int)(h:(a.2.2.1,a.2.2.2.1)≠(c,m)):B5 ([a],k,c,m)=-1:=by
 rw[Na,Zt _ _ (by simp)]
 have e:CP (λ i=>decide (([a].map Bh).getD i (0,0)=(c,m))) ([a].map Bh).length 0=1:=by
  show CP _ 1 0=1;unfold CP;have:decide (([a].map Bh).getD 0 (0,0)=(c,m))=false:=DQ h;rw[this];rfl
 rw[e,Ae (by simp)]
theorem RunOk.tap(c m:Int)(h:Bt (2,c,m,0)=true):RunOk [(0,c,m)]:=by
 have e0:BP [(0,c,m)] 0=[]:=rfl
 have e1:BP [(0,c,m)] 1=[]:=by show Ey [] (0,c,m)=[];unfold Ey;simp
 refine⟨e1,λ i hi=>?_⟩
 have:i=0:=by simp at hi;omega
 subst this;rw[e0];refine⟨by simp,by simp,h,?_⟩;show (0:Int)=2↔0<=B5 ([],(0,c,m));rw[ay];omega
theorem RunOk.hold(c m c2:Int)(h:Bt (2,c,m,0)=true)(h2:Bt (2,c2,8,0)=true)(hm:m≠8):RunOk [(1,c,m),(0,c2,8),(2,c,m)]:=by
 have e0:BP [(1,c,m),(0,c2,8),(2,c,m)] 0=[]:=rfl
 have e1:BP [(1,c,m),(0,c2,8),(2,c,m)] 1=[mA (1,c,m)]:=by show Ey [] (1,c,m)=_;unfold Ey;simp
 have e2:BP [(1,c,m),(0,c2,8),(2,c,m)] 2=[mA (1,c,m)]:=by
  rw[Ph _ (by simp),e1];show Ey [mA (1,c,m)] (0,c2,8)=_;unfold Ey;simp
 have f2:B5 ([mA (1,c,m)],(2,c,m))=0:=by
  have:=ke [] (2,c,m) (by simp) (by rw[ay];decide);exact this
 have e3:BP [(1,c,m),(0,c2,8),(2,c,m)] 3=[]:=by
  rw[Ph _ (by simp),e2];show Ey [mA (1,c,m)] (2,c,m)=_;unfold Ey;rw[Ae (by simp),Ac rfl,f2];exact iG [] (mA (1,c,m)) (by simp)
 refine⟨e3,λ i hi=>?_⟩
 have hi:i=0\/i=1\/i=2:=by simp at hi;omega
 rcases hi with rfl|rfl|rfl
 . rw[e0];refine⟨by simp,by simp,h,?_⟩;show (1:Int)=2↔0<=B5 ([],(1,c,m));rw[ay];omega
 . rw[e1];refine⟨by simp,by simp,h2,?_⟩;show (0:Int)=2↔0<=B5 ([mA (1,c,m)],(0,c2,8));rw[xH _ _ _ _ (by simp[mA];intro _;exact hm)];omega
 . rw[e2];refine⟨by simp,by simp,h,?_⟩;show (2:Int)=2↔0<=B5 ([mA (1,c,m)],(2,c,m));rw[f2];omega
theorem ZaV(c:CA)(h:B3 c):Ow c/\RunOk (Jp c).1/\(Jp c).1.length<=6/\B3 (c.1,(Jp c).2):=by
 rw[tX,uS];obtain⟨a1,a2,_,a4⟩:=Fz c 3 h;have a4:=a4 (by omega)
 have key:=Pt (c:=QA) (f:=QD c) (p:=YF c)
  (λ st=>B3 (c.1,st.2.2)/\RunOk st.1/\0<=st.2.1/\st.2.1<=2/\(st.1.length:Int)+3*st.2.1<=6) (λ st=>st.2.1.toNat) (λ st hI=>?_) (x0:=([],Ar (c,3))) ⟨a2,RunOk.nil,by simp only;omega,by simp only;omega,by simp only[AL];omega⟩
 . obtain⟨k1,⟨k2,k3,k4,_,k5⟩,_⟩:=key;exact⟨⟨a1,k1⟩,k3,by simp only;omega,k2⟩
 . obtain⟨l,n,q⟩:=st;obtain⟨h1,h2,h3,h4,h5⟩:=hI;simp only at h1 h2 h3 h4 h5;obtain⟨b1,b2,_,b4⟩:=Fz (c.1,q) 56 h1;have b4:=b4 (by omega);obtain⟨p1,p2,p3⟩:=ZbV (c.1,(Ar ((c.1,q),56)).2) [0,0,2,1] (by simp) b2;obtain⟨o1,o2⟩:=W7 (c.1,(Dk ((c.1,(Ar ((c.1,q),56)).2),[0,0,2,1])).2) 2 p2;simp only[QA,QD,YF];generalize Ar ((c.1,q),56)=B at b2 b4 p1 p2 p3 o1 o2 ⊢;generalize Dk ((c.1,B.2),[0,0,2,1])=P at p2 p3 o1 o2 ⊢;generalize Ct ((c.1,P.2),2)=O at o2 ⊢;have eB:iAdd .i64 1 B.1=1+B.1:=Bx (by unfold AO;omega)
   have eL:iSub .i64 (iSub .i64 60 (lLen l)) 10=50-(l.length:Int):=by
    have e1:iSub .i64 60 (l.length:Int)=60-(l.length:Int):=EH (by unfold AO;omega);rw[As,e1,EH (by unfold AO;omega)];omega
   have hP:P.1=0\/P.1=2\/P.1=1:=by simpa using p3
   simp only[eB,eL,CO,BD,Ap,Bl];refine⟨⟨λ _=>⟨b1,p1,o1,λ _=>(by unfold Aw;simp only[AG,AL];omega),λ _=>(by unfold Aw;simp only[AG,AL];omega)⟩,λ _=>trivial⟩,λ hn=>?_⟩;have es:iSub .i64 n 1=n-1:=EH (by unfold AO;omega);rw[es];have act1:Bt (2,1+B.1,P.1,0)=true:=(Dp _ _ _ _).2 (by omega)
   have hl:(l.length:Int)<=3:=by omega
   have act2:Bt (2,50-(l.length:Int),8,0)=true:=(Dp _ _ _ _).2 (by omega);refine⟨⟨?_,?_,by omega,by omega,?_⟩,by omega⟩
   . simp only[BA,ite_self];exact o2
   . rw[BA];split
     . exact h2.app (RunOk.tap _ _ act1)
     . exact h2.app (RunOk.hold _ _ _ act1 act2 (by omega))
   . rw[BA];split<;>simp only[Cv,AG,AL]<;>omega
end
section
set_option maxRecDepth 20000
theorem lg(c:CA)(e:BZ):C5 (c,e)=BV c/\Jm (c,e)=Ir c:=by
 rw[tR,fW,sY,gC];exact⟨rfl,rfl⟩
theorem Zba(c:CA)(e:BZ)(n:Int):Oy (c,e,n)=Ct (c,n)/\On (c,e,n)=Ks (c,n):=by
 rw[sL,gq,tP,gk,sw,fG,sB,fD];simp only[λ c=>(lg c e).1,λ c=>(lg c e).2];exact⟨trivial,trivial⟩
def EngG(k:Int)(x:BZ):Prop:=EngOk x/\FZ x/\x.1=k
theorem bO{l:BQ}(h:l.length<=1048576):Pg l:=⟨h,λ _ _=>⟨trivial,trivial⟩⟩
theorem EngG.hl{k:Int}{x:BZ}(h:EngG k x):x.2.2.2.2.1.length<=32:=aD h.2.1.2.2.1.1 h.1.held
theorem EngG.is{k:Int}{x:BZ}(h:EngG k x):D9 x=true:=(VD x h.2.1).2 h.1
theorem EngG.press{k:Int}{x:BZ}(g:EngG k x)(key:Int)(h:Bool)(k0:0<=key)(k1:key<k)(hn:B1 (x,key)<0):EngG k (Ej x key h):=by
 obtain⟨g1,g2,g3⟩:=g;have hl:x.2.2.2.2.1.length<=32:=EngG.hl ⟨g1,g2,g3⟩
 have hne:∀ a∈x.2.2.2.2.1,a.1≠key:=by
  rcases Rm x key g2.2.2.1.1 with⟨_,h2⟩|⟨i,_,h2,_⟩
  . exact h2
  . omega
 refine⟨ZcR g1 g2 key h k0 (by omega) hne,⟨g2.1,g2.2.1,bO ?_,trivial⟩,g3⟩;show (Cq x key h).length<=_;unfold Cq;simp only[Cv,AG,AL];omega
theorem EngG.rel{k:Int}{x:BZ}(g:EngG k x)(i:Nat):EngG k (x.1,x.2.1,x.2.2.1,x.2.2.2.1,x.2.2.2.2.1.eraseIdx i,x.2.2.2.2.2):=by
 obtain⟨g1,g2,g3⟩:=g;have hl:x.2.2.2.2.1.length<=1048576:=g2.2.2.1.1;exact⟨g1.rel hl i,⟨g2.1,g2.2.1,bO (JK (List.eraseIdx_sublist x.2.2.2.2.1 i).length_le hl),trivial⟩,g3⟩
theorem ZbH{k:Int}{x:BZ}(g:EngG k x)(key:Int)(h:Bool)(k0:0<=key)(k1:key<k) :
 LC (x,key,h)/\((Iz (x,key,h)).2.2=true/\EngG k (Iz (x,key,h)).1\/(Iz (x,key,h)).2.2=false/\QK (x,key)/\EngG k (QY (x,key)).1):=by
 have hs:=g.2.1
 have hk:=g.2.2
 rcases Rm x key hs.2.2.1.1 with⟨h1,h2⟩|⟨i,h1,h2,_⟩
 . obtain⟨p1,_,p3,_⟩:=kz x key h hs g.is k0 (by omega) (by omega)
   refine⟨p1,.inl ?_⟩;rw[p3];exact⟨rfl,g.press key h k0 k1 (by omega)⟩
 . obtain⟨p1,_,p3,_⟩:=jR x key h hs (.inr (.inr (.inr (by omega))))
   obtain⟨r1,_,r3,_⟩:=iZ x key hs g.is i h1 h2;refine⟨p1,.inr ?_⟩;rw[p3,r3];exact⟨rfl,r1,g.rel i⟩
theorem Za7(c:CA)(k:Int)(h:B3 c)(k1:1<=k)(k2:k<=32):OH (c,k)/\EngG k (AN (c,k)).1/\B3 (c.1,(AN (c,k)).2):=by
 rw[vU,v7];obtain⟨a1,a2,_,a4⟩:=Fz c 4 h;have a4:=a4 (by omega)
 have key:=Pt (c:=Jo) (f:=Jn (c,k)) (p:=YW (c,k))
  (λ st=>B3 (c.1,st.2.2)/\(∀ m∈st.1,RunOk m/\m.length<=6)/\0<=st.2.1/\(st.1.length:Int)+st.2.1<=3) (λ st=>st.2.1.toNat) (λ st hI=>?_) (x0:=([],Ar (c,4))) ⟨a2,λ m hm=>by simp at hm,by simp only;omega,by simp only[AL];omega⟩
 . obtain⟨q1,⟨q2,q3,q4,q5⟩,_⟩:=key;generalize Am Jo (Jn (c,k)) ([],Ar (c,4))=st at *;obtain⟨d1,d2,d3,d4⟩:=Zbk (c.1,st.2.2) k q2 k1 k2;simp only at d1 d2 d3 d4 ⊢;generalize Iu ((c.1,st.2.2),k)=M at d2 d3 d4 ⊢;obtain⟨⟨kk,L⟩,cu⟩:=M;simp only at d2 d3 d4 ⊢;subst d4;have hk:Gm (kk,L):=Zc9 d3;have hm:MW st.1:=⟨by omega,λ m hm=>⟨by have:=(q3 m hm).2;omega,λ _ _=>trivial⟩⟩;obtain⟨n1,_,_,n4⟩:=vP kk L st.1 hk hm;have hs:FZ (kk,L,st.1,0,[],0,false):=⟨hk,hm,bO (by simp),trivial⟩
   have ok:EngOk (kk,L,st.1,0,[],0,false):=by
    refine⟨l7 d3,by simp only;omega,λ m hm'=>?_,(O3 (by simp)).2 ⟨by simp,by simp⟩,by simp,by simp,by simp,by simp,by simp,?_⟩
    . obtain⟨r1,r2⟩:=q3 m hm';rw[<- ZC m (by omega)];exact yt m (by omega) r1.1 r1.2
    . have:=Nat.two_pow_pos L.length;simp only;omega
   have e1:Oc ((kk,L),st.1)=((kk,L,st.1,0,[],0,false),true):=by
    obtain⟨_,_,c3⟩:=Rk _ hs;have:=(VD _ hs).2 ok;rw[c3] at this;rw[eG];simp only[this,(Wk _ hs).2];rw[show bNot true=false by rw[AF];rfl,CQ]
   refine⟨⟨a1,q1,d1,n1⟩,?_,d2⟩;rw[e1];exact⟨ok,hs,rfl⟩
 . obtain⟨l,n,q⟩:=st;obtain⟨h1,h2,h3,h4⟩:=hI;simp only at h1 h2 h3 h4;obtain⟨b1,b2,b3,b4⟩:=ZaV (c.1,q) h1;simp only[Jo,Jn,YW,CO,BD,Ap];refine⟨⟨λ _=>⟨b1,by unfold Aw;simp only[AG,AL];omega⟩,λ _=>trivial⟩,λ hn=>?_⟩;have es:iSub .i64 n 1=n-1:=EH (by unfold AO;omega);rw[es];refine⟨⟨b4,λ m hm=>?_,by omega,by simp only[Cv,AG,AL];omega⟩,by omega⟩;rw[CF,List.mem_singleton] at hm;rcases hm with hm|rfl
   . exact h2 m hm
   . exact⟨b2,b3⟩
theorem Zau(c:CA)(k:Int)(h:B3 c)(k1:1<=k)(k2:k<=32):Ov (c,k)/\EngG k (MP (c,k)).1/\B3 (c.1,(MP (c,k)).2):=by
 rw[uu,uV];obtain⟨n1,n2,n3⟩:=Za7 c k h k1 k2;simp only[El];generalize AN (c,k)=N at n2 n3 ⊢;obtain⟨e,cu⟩:=N;simp only at n2 n3 ⊢;obtain⟨b1,b2,_,b4⟩:=Fz (c.1,cu) 8 n3;have b4:=b4 (by omega)
 have key:=Pt (c:=Ia) (f:=H9 (c,k)) (p:=YH (c,k))
  (λ st=>B3 (c.1,st.2.2.2.2.2.2.2.2)/\EngG k (st.2.1,st.2.2.1,st.2.2.2.1,st.2.2.2.2.1,st.2.2.2.2.2.1,st.2.2.2.2.2.2.1,st.2.2.2.2.2.2.2.1)/\0<=st.1/\st.1<=8) (λ st=>st.1.toNat) (λ st hI=>?_)
  (x0:=((Ar ((c.1,cu),8)).1,e.1,e.2.1,e.2.2.1,e.2.2.2.1,e.2.2.2.2.1,e.2.2.2.2.2.1,e.2.2.2.2.2.2,(Ar ((c.1,cu),8)).2)) ⟨b2,n2,by simp only;omega,by simp only;omega⟩
 . obtain⟨q1,⟨q2,q3,_⟩,_⟩:=key;exact⟨⟨n1,b1,q1⟩,q3,q2⟩
 . obtain⟨n,kk,L,mc,fx,hd,on,cp,q⟩:=st;obtain⟨h1,h2,h3,h4⟩:=hI;simp only at h1 h2 h3 h4;obtain⟨p1,p2,_,p4⟩:=Fz (c.1,q) k h1;have p4:=p4 (by omega);obtain⟨o1,o2⟩:=W7 (c.1,(Ar ((c.1,q),k)).2) 2 p2;obtain⟨oq1,oq2⟩:=Zba (c.1,(Ar ((c.1,q),k)).2) (0,[],[],0,[],0,false) 2;obtain⟨s1,s2⟩:=ZbH h2 (Ar ((c.1,q),k)).1 (Ct ((c.1,(Ar ((c.1,q),k)).2),2)).1 p4.1 p4.2;simp only[Ia,H9,YH,MF,T5,Lo,E0,oq1,oq2,CO,Ap];generalize Ar ((c.1,q),k)=B at *;generalize Ct ((c.1,B.2),2)=O at *
   have es:0<n->iSub .i64 n 1=n-1:=λ _=>EH (by unfold AO;omega)
   rcases s2 with⟨t1,t2⟩|⟨t1,t2,t3⟩
   . rw[t1]
     have e0:bNot true=false:=by rw[AF];rfl
     simp only[e0,CQ];refine⟨⟨λ _=>⟨p1,o1,s1,(λ h=>by cases h),λ _=>trivial⟩,λ _=>trivial⟩,λ hn=>?_⟩;rw[es hn];exact⟨⟨o2,t2,by omega,by omega⟩,by omega⟩
   . rw[t1]
     have e0:bNot false=true:=by rw[AF];rfl
     simp only[e0,Dn];refine⟨⟨λ _=>⟨p1,o1,s1,λ _=>t2,λ _=>trivial⟩,λ _=>trivial⟩,λ hn=>?_⟩;rw[es hn];exact⟨⟨o2,t3,by omega,by omega⟩,by omega⟩
theorem vZ(x:Bd)(k:Int)(h:x.length<=1048576)(k1:1<=k)(k2:k<=32):TF (x,k)/\EngG k (CI (x,k)):=by
 rw[qa,qB];obtain⟨a1,a2⟩:=ko x 7 h;obtain⟨b1,b2,_⟩:=Zau (Jq (x,7)) k a2 k1 k2;exact⟨⟨a1,b1⟩,b2⟩
end
section
set_option maxRecDepth 20000
def dM(x:BZ)(key:Int)(h:Bool):List Dx:=Mx (BS x.2.2.2.2.1) (Hm x key h++[BS (Cq x key h)])
theorem n9{k:Int}{x:BZ}(g:EngG k x)(key:Int)(h:Bool)(k0:0<=key)(k1:key<k) :
 LC (x,key,h)/\MN (x,key,h)/\Ls (x,key) /\
 (((∀ a∈x.2.2.2.2.1,a.1≠key)/\B1 (x,key)<0/\EngG k (Ej x key h)/\Iz (x,key,h)=(Ej x key h,dM x key h,true)/\KH (x,key,h)=(Ej x key h,dM x key h,true)) \/
  (∃ j:Nat,j<x.2.2.2.2.1.length/\B1 (x,key)=(j:Int)/\Iz (x,key,h)=(Yf,[],false)/\KH (x,key,h)=(Yf,[],false))):=by
 have hs:=g.2.1
 have hk:=g.2.2
 obtain⟨_,h0⟩:=Wd (x,key) hs.2.2.1.1
 rcases Rm x key hs.2.2.1.1 with⟨h1,h2⟩|⟨i,h1,h2,_⟩
 . obtain⟨p1,p2,p3,p4,_⟩:=kz x key h hs g.is k0 (by omega) (by omega)
   exact⟨p1,p2,h0,.inl ⟨h2,by omega,g.press key h k0 k1 (by omega),p3,p4⟩⟩
 . obtain⟨p1,p2,p3,p4⟩:=jR x key h hs (.inr (.inr (.inr (by omega))))
   exact⟨p1,p2,h0,.inr ⟨i,h1,h2,p3,p4⟩⟩
theorem oh{l:BQ}{a:Int×Int×Int×Int×Int}(hl:l.length<=1048576):iSub .i64 (lLen (l++[a])) 1=(l.length:Int):=by
 have e:(l++[a]).length=l.length+1:=by simp
 rw[As,e,EH (by unfold AO;omega)];omega
theorem lD{l:BQ}{a:Int×Int×Int×Int×Int}(hl:l.length<=1048576):lGet (l++[a]) (iNat (iSub .i64 (lLen (l++[a])) 1)) (0,0,0,0,0)=a:=by
 rw[oh hl,A8,Az,Be];simp[List.getD]
theorem mT{l:BQ}{a:Int×Int×Int×Int×Int}(hl:l.length<=1048576) :
 (0<=iSub .i64 (lLen (l++[a])) 1/\iSub .i64 (lLen (l++[a])) 1<((l++[a]).length:Int))/\iNat (iSub .i64 (lLen (l++[a])) 1)<(l++[a]).length:=by
 have e:(l++[a]).length=l.length+1:=by simp
 rw[oh hl,Az,Be,e];omega
theorem EngG.caps{k:Int}{x:BZ}(g:EngG k x)(b:Bool):EngG k (x.1,x.2.1,x.2.2.1,x.2.2.2.1,x.2.2.2.2.1,x.2.2.2.2.2.1,b):=by
 obtain⟨⟨a1,a2,a3,a4,a5,a6,a7,a8,a9,a10⟩,g2,g3⟩:=g;exact⟨⟨a1,a2,a3,a4,a5,a6,a7,a8,a9,a10⟩,g2,g3⟩
theorem EngG.act{k:Int}{x:BZ}(g:EngG k x)(key:Int)(h:Bool)(k0:0<=key)(k1:key<k):Bt (Gb x key h)=true:=(Wl g.1 g.2.1 key h k0 (by have:=g.2.2;omega)).1
theorem zx{k:Int}{x:BZ}(g:EngG k x)(key:Int)(h:Bool)(hn:∀ a∈x.2.2.2.2.1,a.1≠key)(gp:EngG k (Ej x key h)) :
 QS (Ej x key h,key)/\∃ l,Q2 (Ej x key h,key)=((x.1,x.2.1,x.2.2.1,(AX x key h).2.2.2.2.1,x.2.2.2.2.1,(AX x key h).2.2.2.2.2.2),l,true):=by
 have eH:(Ej x key h).2.2.2.2.1=x.2.2.2.2.1++[(key,(AX x key h).1)]:=rfl
 rcases Rm (Ej x key h) key gp.2.1.2.2.1.1 with⟨_,h2⟩|⟨j,h1,h2,h3⟩
 . rw[eH] at h2;exact absurd rfl (h2 (key,(AX x key h).1) (by simp))
 . obtain⟨_,r1,_,r3⟩:=iZ _ key gp.2.1 gp.is j h1 h2
   refine⟨r1,Mx (BS (Ej x key h).2.2.2.2.1) [BS ((Ej x key h).2.2.2.2.1.eraseIdx j)],?_⟩
   have hj:j=x.2.2.2.2.1.length:=by
    rw[eH] at h1 h3;simp only[Cv,AG,AL] at h1
    refine Classical.byContradiction λ hne=>?_
    have hlt:j<x.2.2.2.2.1.length:=by omega
    rw[show (x.2.2.2.2.1++[(key,(AX x key h).1)]).getD j (0,0,0,0,0)=x.2.2.2.2.1.getD j (0,0,0,0,0) by simp only[List.getD];rw[Bv hlt]] at h3;exact hn _ (DD x.2.2.2.2.1 j _ hlt) h3
   rw[r3]
   have e2:(Ej x key h).2.2.2.2.1.eraseIdx j=x.2.2.2.2.1:=by
    rw[eH,hj,List.eraseIdx_append_of_length_le (BI _)];simp
   rw[e2];rfl
end
section
set_option maxRecDepth 8000
def uN:DCode:=(.seq [0] (.region [oa 0 2 (.mv An)]) (.seq [0] (.seq [21,0] (.region [on 0 20 0,oF 1 21 KL [(.t 20)]]) (.cond (.t 21) (.seq [2] (.region [oa 0 2 (.mv AS)]) .ret) .skip)) (.seq [3,0] (.region [on 0 22 0,oF 1 23 Kh [(.t 22),(.c (.int .i64 5))],oa 2 3 (.allocB 0 [Ab,.nils,.nils,Ab,.nils,Ab,Cr]),os 3 (.storeB 0 7 (.t 3) (.t 23))]) (.seq [4,3] (.region [⟨0,some 24,.fzb (.t 3) (.mv (.t 0)),none,[]⟩,oF 1 25 Kf [(.t 24),(.c (.int .i64 17)),(.c (.int .i64 5))],om 2 4 25]) (.seq [5,4,3] (.region [oa 10 5 (.allocH [Ab,Ab,Ab,Ab]),oa 0 26 (.fieldA 0 (.t 3)),xA 1 27 (.loadB 0 (some 2) (.t 26)) (rg 1),oa 2 28 (.fieldA 3 (.t 3)),xA 3 29 (.loadB 0 none (.t 28)) [2],oa 4 30 (.fieldA 4 (.t 3)),xA 5 31 (.loadB 0 none (.t 30)) [4],om 7 33 4,xF 6 32 Ig [(.t 29),(.t 31)] [2,3,4,5],xF 8 34 Km [(.t 27),(.t 32),(.t 33)] (rg 8),xF 9 35 IB [(.t 34)] (rg 9),xS 11 (.storeH 4 (.t 5) (.t 35)) (rg 11)]) (.seq [8,6,5,4,3] (.region [oa 0 37 (.loadB 0 (some 7) (.t 3)),om 1 38 4,oF 2 39 Iy [(.t 37),(.t 38),An],om 3 36 39,oa 4 40 (.extract (.t 36) 0),oa 5 41 (.extract (.t 36) 1),oa 6 42 (.extract (.t 36) 2),oa 7 6 (.allocB 1 [Ab,.nils,.nils,Ab,.nils,Ab,Cr]),os 8 (.storeB 1 7 (.t 6) (.t 40)),on 9 7 41,om 10 8 42]) (.seq [8,6,5,4,3] (.seq [11,8,6,5,4,3] (.region [oa 0 44 (.loadB 0 (some 7) (.t 3)),om 1 45 4,oF 2 46 IA [(.t 44),(.t 45),An],om 3 43 46,oa 4 47 (.extract (.t 43) 0),oa 5 48 (.extract (.t 43) 1),oa 6 49 (.extract (.t 43) 2),oa 7 9 (.allocB 2 [Ab,.nils,.nils,Ab,.nils,Ab,Cr]),os 8 (.storeB 2 7 (.t 9) (.t 47)),on 9 10 48,om 10 11 49]) (.seq [52,8,6,5,4,3] (.region [om 0 50 8,om 1 51 11,oa 2 52 (.eqB true (.t 50) (.t 51))]) (.cond (.t 52) (.seq [2] (.region [oa 0 2 (.mv An)]) .ret) .skip))) (.seq [6,5,4,3] (.seq [54,6,5,4,3] (.region [om 0 53 8,oa 1 54 (.un .not (.t 53))]) (.cond (.t 54) (.seq [2] (.region [oa 0 55 (.loadB 0 (some 7) (.t 3)),om 1 56 4,oF 2 57 En [(.t 55),(.t 56)],oa 3 58 (.bin .geq (.t 57) AD),om 4 2 58]) .ret) .skip)) (.seq [12,6,5,4,3] (.region [oa 0 59 (.fieldA 4 (.t 6)),oa 1 60 (.loadB 1 none (.t 59)),oa 2 61 (.fieldA 4 (.t 6)),oa 3 62 (.loadB 1 none (.t 61)),oa 4 63 (.len (.t 62)),oa 5 64 (.bin .sub (.t 63) Au),oa 6 65 (.indexA 5 (.t 60) (.t 64)),oa 7 66 (.fieldA 1 (.t 65)),ob 8 67 (.loadH (some 4) (.t 66)),oa 9 12 (.allocB 3 [Ab,Ab,Ab,Ab]),os 10 (.storeB 3 4 (.t 12) (.t 67))]) (.seq [12,6,5,4,3] (.seq [75,12,6,5,4,3] (.region [oa 0 68 (.fieldA 0 (.t 5)),oa 1 69 (.loadH none (.t 68)),oa 2 70 (.bin .eql (.t 69) (.c (.int .i64 2))),om 3 71 70,og 4 72 (.fieldA 1 (.t 5)) 71 true,og 5 73 (.loadH none (.t 72)) 71 true,og 6 74 (.bin .gtr (.t 73) AD) 71 true,oa 7 75 (.pick (.t 71) (.t 74) An)]) (.cond (.t 75) (.seq [2] (.region [oa 0 76 (.fieldA 5 (.t 6)),oa 1 77 (.loadB 1 none (.t 76)),oa 2 78 (.bin .eql (.t 77) AD),om 3 79 78,og 4 80 (.fieldA 1 (.t 12)) 79 true,og 5 81 (.loadB 3 none (.t 80)) 79 true,og 6 82 (.fieldA 1 (.t 5)) 79 true,og 7 83 (.loadH none (.t 82)) 79 true,og 8 84 (.bin .eql (.t 81) (.t 83)) 79 true,oa 9 85 (.pick (.t 79) (.t 84) An),om 10 86 85,og 11 87 (.fieldA 2 (.t 12)) 86 true,og 12 88 (.loadB 3 none (.t 87)) 86 true,og 13 89 (.fieldA 2 (.t 5)) 86 true,og 14 90 (.loadH none (.t 89)) 86 true,og 15 91 (.fieldA 5 (.t 3)) 86 true,og 16 92 (.loadB 0 none (.t 91)) 86 true,og 17 93 (.bin .or (.t 90) (.t 92)) 86 true,og 18 94 (.bin .and (.t 88) (.t 93)) 86 true,og 19 95 (.fieldA 2 (.t 5)) 86 true,og 20 96 (.loadH none (.t 95)) 86 true,og 21 97 (.fieldA 5 (.t 3)) 86 true,og 22 98 (.loadB 0 none (.t 97)) 86 true,og 23 99 (.bin .or (.t 96) (.t 98)) 86 true,og 24 100 (.bin .eql (.t 94) (.t 99)) 86 true,oa 25 101 (.pick (.t 86) (.t 100) An),om 26 2 101]) .ret) .skip)) (.seq [12,6,5,3] (.seq [104,12,6,5,4,3] (.region [oa 0 102 (.fieldA 0 (.t 5)),oa 1 103 (.loadH none (.t 102)),oa 2 104 (.bin .eql (.t 103) (.c (.int .i64 8)))]) (.cond (.t 104) (.seq [15,13,6,5,4,3] (.region [⟨0,some 106,.fzb (.t 6) (.loadB 1 (some 7) (.t 6)),none,[]⟩,om 1 107 4,oF 2 108 Kz [(.t 106),(.t 107)],om 3 105 108,oa 4 109 (.extract (.t 105) 0),oa 5 110 (.extract (.t 105) 1),oa 6 111 (.extract (.t 105) 2),oa 7 13 (.allocB 4 [Ab,.nils,.nils,Ab,.nils,Ab,Cr]),os 8 (.storeB 4 7 (.t 13) (.t 109)),on 9 14 110,om 10 15 111]) (.seq [18,16,15,6,5,3] (.region [oa 0 113 (.loadB 4 (some 7) (.t 13)),om 1 114 4,oF 2 115 Iy [(.t 113),(.t 114),An],om 3 112 115,oa 4 116 (.extract (.t 112) 0),oa 5 117 (.extract (.t 112) 1),oa 6 118 (.extract (.t 112) 2),oa 7 16 (.allocB 5 [Ab,.nils,.nils,Ab,.nils,Ab,Cr]),os 8 (.storeB 5 7 (.t 16) (.t 116)),on 9 17 117,om 10 18 118]) (.seq [19,18,16,15,6,5,3] (.region [oa 0 119 (.fieldA 4 (.t 16)),oa 1 120 (.loadB 5 none (.t 119)),oa 2 121 (.fieldA 4 (.t 16)),oa 3 122 (.loadB 5 none (.t 121)),oa 4 123 (.len (.t 122)),oa 5 124 (.bin .sub (.t 123) Au),oa 6 125 (.indexA 5 (.t 120) (.t 124)),oa 7 126 (.fieldA 1 (.t 125)),ob 8 127 (.loadH (some 4) (.t 126)),oa 9 19 (.allocB 6 [Ab,Ab,Ab,Ab]),os 10 (.storeB 6 4 (.t 19) (.t 127))]) (.seq [2] (.region [om 0 128 15,om 1 129 128,og 2 130 (.mv (.t 18)) 129 true,oa 3 131 (.pick (.t 129) (.t 130) An),om 4 132 131,og 5 133 (.fieldA 5 (.t 6)) 132 true,og 6 134 (.loadB 1 none (.t 133)) 132 true,og 7 135 (.fieldA 2 (.t 5)) 132 true,og 8 136 (.loadH none (.t 135)) 132 true,og 9 137 (.bin .and (.t 134) (.t 136)) 132 true,og 10 138 (.bin .eql (.t 137) AD) 132 true,og 11 139 (.mv (.t 138)) 132 true,og 12 140 (.fieldA 5 (.t 6)) 139 false,og 13 141 (.loadB 1 none (.t 140)) 139 false,og 14 142 (.fieldA 2 (.t 5)) 139 false,og 15 143 (.loadH none (.t 142)) 139 false,og 16 144 (.bin .and (.t 141) (.t 143)) 139 false,og 17 145 (.fieldA 2 (.t 5)) 139 false,og 18 146 (.loadH none (.t 145)) 139 false,og 19 147 (.bin .eql (.t 144) (.t 146)) 139 false,og 20 148 (.pick (.t 139) AS (.t 147)) 132 true,oa 21 149 (.pick (.t 132) (.t 148) An),om 22 150 149,og 23 151 (.fieldA 5 (.t 6)) 150 true,og 24 152 (.loadB 1 none (.t 151)) 150 true,og 25 153 (.fieldA 5 (.t 3)) 150 true,og 26 154 (.loadB 0 none (.t 153)) 150 true,og 27 155 (.bin .neq (.t 152) (.t 154)) 150 true,oa 28 156 (.pick (.t 150) (.t 155) An),om 29 157 156,og 30 158 (.loadB 6 (some 4) (.t 19)) 157 true,og 31 159 (.loadH (some 4) (.t 5)) 157 true,og 32 160 (.eqA 4 true (.t 158) (.t 159)) 157 true,og 33 161 (.mv (.t 160)) 157 true,og 34 162 (.fieldA 5 (.t 3)) 161 false,og 35 163 (.loadB 0 none (.t 162)) 161 false,og 36 164 (.fieldA 2 (.t 5)) 161 false,og 37 165 (.loadH none (.t 164)) 161 false,og 38 166 (.bin .and (.t 163) (.t 165)) 161 false,og 39 167 (.bin .neq (.t 166) AD) 161 false,og 40 168 (.mv (.t 167)) 161 false,og 41 169 (.fieldA 5 (.t 3)) 168 true,og 42 170 (.loadB 0 none (.t 169)) 168 true,og 43 171 (.fieldA 2 (.t 5)) 168 true,og 44 172 (.loadH none (.t 171)) 168 true,og 45 173 (.bin .and (.t 170) (.t 172)) 168 true,og 46 174 (.fieldA 2 (.t 5)) 168 true,og 47 175 (.loadH none (.t 174)) 168 true,og 48 176 (.bin .neq (.t 173) (.t 175)) 168 true,og 49 177 (.pick (.t 168) (.t 176) An) 161 false,og 50 178 (.pick (.t 161) AS (.t 177)) 157 true,og 51 179 (.mv (.t 178)) 157 true,og 52 180 (.fieldA 5 (.t 16)) 179 false,og 53 181 (.loadB 5 none (.t 180)) 179 false,og 54 182 (.fieldA 5 (.t 3)) 179 false,og 55 183 (.loadB 0 none (.t 182)) 179 false,og 56 184 (.bin .eql (.t 181) (.t 183)) 179 false,og 57 185 (.pick (.t 179) AS (.t 184)) 157 true,oa 58 186 (.pick (.t 157) (.t 185) An),om 59 2 186]) .ret)))) .skip)) (.seq [2] (.region [oa 0 187 (.fieldA 5 (.t 6)),oa 1 188 (.loadB 1 none (.t 187)),oa 2 189 (.fieldA 5 (.t 3)),oa 3 190 (.loadB 0 none (.t 189)),oa 4 191 (.bin .eql (.t 188) (.t 190)),om 5 192 191,og 6 193 (.loadB 3 (some 4) (.t 12)) 192 true,og 7 194 (.loadH (some 4) (.t 5)) 192 true,og 8 195 (.eqA 4 false (.t 193) (.t 194)) 192 true,oa 9 196 (.pick (.t 192) (.t 195) An),om 10 2 196]) .ret))))))))))))
def Hr:Fn:=⟨⟨1,197,7,true,[.tmp 2],uN⟩,[.one .frz (.sl (.one (.int .u8)))],.one (.one .own (.bool))⟩
theorem ue:Hr.A:=AR ⟨yg,qe,qt,fb,rq,gT,ia,gG,UJ,sR,ia,trivial⟩
def Vx:Bd->Bool:=Hr.V
def UK:Bd->Prop:=Hr.O
end
section
set_option maxRecDepth 100000
def CD(x:Bd):=KH ((CI (x,5)),(EZ (x,17,5)),false)
def Ul(x:Bd):=Iz ((CI (x,5)),(EZ (x,17,5)),false)
def YS(x:Bd):=Ea ((CI (x,5)).2.2.2.1,(CI (x,5)).2.2.2.2.1)
def Ub(x:Bd):=Q2 ((CD x).1,(EZ (x,17,5)))
def Co(x:Bd):=Hp (((CI (x,5)).1,(CI (x,5)).2.1),(YS x),(EZ (x,17,5)))
def C4(x:Bd):=KH ((Ub x).1,(EZ (x,17,5)),false)
theorem vD (x):Vx x=(bOr (OZ x) (bAnd (bNot (bNot (bIff (CD x).2.2 (Ul x).2.2))) (bSel (bNot (CD x).2.2) (iGe (B1 ((CI (x,5)),(EZ (x,17,5)))) 0) (bSel (bAnd (iEq (Cc (Co x)).1 2) (iGt (Cc (Co x)).2.1 0)) (bAnd (iEq (CD x).1.2.2.2.2.2.1 0) (bAnd (iEq (lGet (CD x).1.2.2.2.2.1 (iNat (iSub .i64 (lLen (CD x).1.2.2.2.2.1) 1)) (0,0,0,0,0)).2.2.1 (Cc (Co x)).2.1) (iEq (iAnd .i64 (lGet (CD x).1.2.2.2.2.1 (iNat (iSub .i64 (lLen (CD x).1.2.2.2.2.1) 1)) (0,0,0,0,0)).2.2.2.1 (iOr .i64 (Cc (Co x)).2.2.1 (CI (x,5)).2.2.2.2.2.1)) (iOr .i64 (Cc (Co x)).2.2.1 (CI (x,5)).2.2.2.2.2.1)))) (bSel (iEq (Cc (Co x)).1 8) (bAnd (Ub x).2.2 (bAnd (C4 x).2.2 (bSel (iEq (iAnd .i64 (CD x).1.2.2.2.2.2.1 (Cc (Co x)).2.2.1) 0) (bAnd (iNe (CD x).1.2.2.2.2.2.1 (CI (x,5)).2.2.2.2.2.1) (bOr (bNot (bAnd (iEq (lGet (C4 x).1.2.2.2.2.1 (iNat (iSub .i64 (lLen (C4 x).1.2.2.2.2.1) 1)) (0,0,0,0,0)).2.1 (Cc (Co x)).1) (bAnd (iEq (lGet (C4 x).1.2.2.2.2.1 (iNat (iSub .i64 (lLen (C4 x).1.2.2.2.2.1) 1)) (0,0,0,0,0)).2.2.1 (Cc (Co x)).2.1) (bAnd (iEq (lGet (C4 x).1.2.2.2.2.1 (iNat (iSub .i64 (lLen (C4 x).1.2.2.2.2.1) 1)) (0,0,0,0,0)).2.2.2.1 (Cc (Co x)).2.2.1) (iEq (lGet (C4 x).1.2.2.2.2.1 (iNat (iSub .i64 (lLen (C4 x).1.2.2.2.2.1) 1)) (0,0,0,0,0)).2.2.2.2 (Cc (Co x)).2.2.2))))) (bSel (iNe (iAnd .i64 (CI (x,5)).2.2.2.2.2.1 (Cc (Co x)).2.2.1) 0) (bOr (iNe (iAnd .i64 (CI (x,5)).2.2.2.2.2.1 (Cc (Co x)).2.2.1) (Cc (Co x)).2.2.1) (iEq (C4 x).1.2.2.2.2.2.1 (CI (x,5)).2.2.2.2.2.1)) (iEq (C4 x).1.2.2.2.2.2.1 (CI (x,5)).2.2.2.2.2.1)))) (bAnd (iEq (iAnd .i64 (CD x).1.2.2.2.2.2.1 (Cc (Co x)).2.2.1) (Cc (Co x)).2.2.1) (bAnd (iNe (CD x).1.2.2.2.2.2.1 (CI (x,5)).2.2.2.2.2.1) (bOr (bNot (bAnd (iEq (lGet (C4 x).1.2.2.2.2.1 (iNat (iSub .i64 (lLen (C4 x).1.2.2.2.2.1) 1)) (0,0,0,0,0)).2.1 (Cc (Co x)).1) (bAnd (iEq (lGet (C4 x).1.2.2.2.2.1 (iNat (iSub .i64 (lLen (C4 x).1.2.2.2.2.1) 1)) (0,0,0,0,0)).2.2.1 (Cc (Co x)).2.1) (bAnd (iEq (lGet (C4 x).1.2.2.2.2.1 (iNat (iSub .i64 (lLen (C4 x).1.2.2.2.2.1) 1)) (0,0,0,0,0)).2.2.2.1 (Cc (Co x)).2.2.1) (iEq (lGet (C4 x).1.2.2.2.2.1 (iNat (iSub .i64 (lLen (C4 x).1.2.2.2.2.1) 1)) (0,0,0,0,0)).2.2.2.2 (Cc (Co x)).2.2.2))))) (bSel (iNe (iAnd .i64 (CI (x,5)).2.2.2.2.2.1 (Cc (Co x)).2.2.1) 0) (bOr (iNe (iAnd .i64 (CI (x,5)).2.2.2.2.2.1 (Cc (Co x)).2.2.1) (Cc (Co x)).2.2.1) (iEq (C4 x).1.2.2.2.2.2.1 (CI (x,5)).2.2.2.2.2.1)) (iEq (C4 x).1.2.2.2.2.2.1 (CI (x,5)).2.2.2.2.2.1)))))))) (bAnd (iEq (CD x).1.2.2.2.2.2.1 (CI (x,5)).2.2.2.2.2.1) (bAnd (iEq (lGet (CD x).1.2.2.2.2.1 (iNat (iSub .i64 (lLen (CD x).1.2.2.2.2.1) 1)) (0,0,0,0,0)).2.1 (Cc (Co x)).1) (bAnd (iEq (lGet (CD x).1.2.2.2.2.1 (iNat (iSub .i64 (lLen (CD x).1.2.2.2.2.1) 1)) (0,0,0,0,0)).2.2.1 (Cc (Co x)).2.1) (bAnd (iEq (lGet (CD x).1.2.2.2.2.1 (iNat (iSub .i64 (lLen (CD x).1.2.2.2.2.1) 1)) (0,0,0,0,0)).2.2.2.1 (Cc (Co x)).2.2.1) (iEq (lGet (CD x).1.2.2.2.2.1 (iNat (iSub .i64 (lLen (CD x).1.2.2.2.2.1) 1)) (0,0,0,0,0)).2.2.2.2 (Cc (Co x)).2.2.2)))))))))):=(Hr.v x).trans (by kernel_rfl)
theorem u5 (x):UK x=((VP x)/\(((OZ x)=true->True)/\((OZ x)=false->((TF (x,5))/\((TM (x,17,5))/\((QF ((CI (x,5)).2.2.2.1,(CI (x,5)).2.2.2.2.1))/\((Ue (((CI (x,5)).1,(CI (x,5)).2.1),(YS x),(EZ (x,17,5))))/\((Q8 (Co x))/\((MN ((CI (x,5)),(EZ (x,17,5)),false))/\((LC ((CI (x,5)),(EZ (x,17,5)),false))/\(((bNot (bIff (CD x).2.2 (Ul x).2.2))=true->True)/\((bNot (bIff (CD x).2.2 (Ul x).2.2))=false->(((bNot (CD x).2.2)=true->(Ls ((CI (x,5)),(EZ (x,17,5)))))/\((bNot (CD x).2.2)=false->((((0:Int)<=(iSub .i64 (lLen (CD x).1.2.2.2.2.1) 1))/\((iSub .i64 (lLen (CD x).1.2.2.2.2.1) 1)<(((List.length (CD x).1.2.2.2.2.1):Int))))/\(((iNat (iSub .i64 (lLen (CD x).1.2.2.2.2.1) 1))<(List.length (CD x).1.2.2.2.2.1))/\(((bAnd (iEq (Cc (Co x)).1 2) (iGt (Cc (Co x)).2.1 0))=true->True)/\((bAnd (iEq (Cc (Co x)).1 2) (iGt (Cc (Co x)).2.1 0))=false->(((iEq (Cc (Co x)).1 8)=true->((QS ((CD x).1,(EZ (x,17,5))))/\((MN ((Ub x).1,(EZ (x,17,5)),false))/\((((0:Int)<=(iSub .i64 (lLen (C4 x).1.2.2.2.2.1) 1))/\((iSub .i64 (lLen (C4 x).1.2.2.2.2.1) 1)<(((List.length (C4 x).1.2.2.2.2.1):Int))))/\((iNat (iSub .i64 (lLen (C4 x).1.2.2.2.2.1) 1))<(List.length (C4 x).1.2.2.2.2.1))))))/\((iEq (Cc (Co x)).1 8)=false->True)))))))))))))))))))):=(Hr.o x).trans (by kernel_rfl)
attribute [irreducible] Vx UK
end
section
set_option maxRecDepth 20000
def Dd(o m:Nat):Nat:=if o &&& m=m then EW o m else o ||| m
theorem nM(o m:Nat)(ho:o<=15)(hm:m<=15):Dd o m<=15:=by
 unfold Dd;have:=bU o m;have:=Nat.or_lt_two_pow (x:=o) (y:=m) (n:=4) (by omega) (by omega);split<;>omega
theorem Zc6:∀ o m:Fin 16,1<=m.val->Dd o.val m.val≠o.val/\(Dd o.val m.val &&& m.val=0\/Dd o.val m.val &&& m.val=m.val) /\
 (¬ (o.val &&& m.val=0)->o.val &&& m.val=m.val->Dd (Dd o.val m.val) m.val=o.val)/\(o.val &&& m.val=0->Dd (Dd o.val m.val) m.val=o.val):=by decide +kernel
theorem ZcZ:∀ v:Fin 16,(v.val &&& v.val=v.val)/\(EW v.val 2=0->2 &&& v.val=v.val):=by decide +kernel
theorem Zb9(w:Bool)(x:BZ)(k c m p:Int)(h:k≠2\/¬ 0<c)(h8:k≠8) :
 (C3 w x (k,c,m,p)).1=(k,c,m,p)/\(C3 w x (k,c,m,p)).2.2.2.2.2.2.1=x.2.2.2.2.2.1:=by
 unfold C3
 by_cases k2:k=2
 . have hc:¬ 0<c:=by rcases h with h|h;exact absurd k2 h;exact h
   subst k2;simp[hc]
 . simp only[Ae k2,Ae h8]
   repeat' split
   all_goals exact⟨rfl,rfl⟩
theorem oJ(w:Bool)(x:BZ)(c m p:Int):C3 w x (8,c,m,p)=((8,c,m,p),x.1,x.2.1,x.2.2.1,x.2.2.2.1,x.2.2.2.2.1,((Dd x.2.2.2.2.2.1.toNat m.toNat:Nat):Int),x.2.2.2.2.2.2):=by
 unfold C3 Dd;simp only[show ¬ (8:Int)=2 by decide,show ¬ (8:Int)=4 by decide,show ¬ (8:Int)=5 by decide,AP,AK]
theorem ZdX(w:Bool)(x:BZ)(c m p:Int)(hc:0<c):C3 w x (2,c,m,p)=((2,c,((JC w c m.toNat x.2.2.2.2.2.1.toNat x.2.2.2.2.2.2:Nat):Int),p),x.1,x.2.1,x.2.2.1,x.2.2.2.1,x.2.2.2.2.1,0,(x.2.2.2.2.2.2&&w)):=by
 unfold C3;simp only[AK,Ac hc]
theorem xu(x:Bd)(hw:TuX.wf Hr.h x):UK x/\Vx x=true:=by
 rw[u5,vD];obtain⟨b1,b2⟩:=Zdf x;by_cases hl:1048576<x.length
 . rw[b1,JA hl];exact⟨⟨b2,λ _=>trivial,(λ h=>by cases h)⟩,by rw[A4];rfl⟩
 rw[b1,DQ hl];obtain⟨m1,g⟩:=vZ x 5 (by omega) (by omega) (by omega);obtain⟨n1,n2,n3⟩:=wu x 17 5 (by omega) (by omega);simp only[CD,Ul,YS,Ub,Co,C4];generalize CI (x,5)=e at *;generalize EZ (x,17,5)=k at *;have o0:=g.1.on0;have o1:=g.1.on1;have ea:Hp ((e.1,e.2.1),Ea (e.2.2.2.1,e.2.2.2.2.1),k)=HU e k:=rfl
 have eP:Gb e k false=DA (HU e k):=by unfold Gb;rw[CQ]
 simp only[ea,ln,<- eP];have hl':e.2.2.2.2.1.length<=1048576:=g.2.1.2.2.1.1;have okL:=eC e.2.2.2.1 e.2.2.2.2.1 hl';have okA:=(iO e.1 e.2.1 (Ea (e.2.2.2.1,e.2.2.2.2.1)) k g.2.1.1).2;have okT:=(jG (HU e k)).2.2.2;obtain⟨p1,p2,p3,p4⟩:=n9 g k false n2 n3;have ha:=g.act k false n2 n3;rcases p4 with⟨hne,_,gp,q3,q4⟩|⟨j,_,q1,q2,q3⟩
 . have eH : (Ej e k false).2.2.2.2.1=e.2.2.2.2.1++[(k,(AX e k false).1)]:=rfl;have eO:(Ej e k false).2.2.2.2.2.1=(AX e k false).2.2.2.2.2.2.1:=rfl;obtain⟨l1,l2⟩:=mT (a:=(k,(AX e k false).1)) hl';obtain⟨rk,rl,rv⟩:=zx g k false hne gp
   have bi:bNot (bIff true true)=false:=by rw[AF,Nc];rfl
   have bt:bNot true=false:=by rw[AF];rfl
   have bf:bNot false=true:=by rw[AF];rfl
   simp only[q3,q4,eH,eO,lD hl',bi,bt,bf,CQ,rv]
   have top:∀ X:Bool,X=true->bOr false (bAnd true X)=true:=λ X h=>by rw[h,A4,AE];rfl
   have eS:AX e k false=C3 (EY (Gb e k false).2.1) e (Gb e k false):=rfl;obtain⟨⟨kd,c,m,p⟩,hA⟩:∃ a,Gb e k false=a:=⟨_,rfl⟩;rw[hA] at ha eS;simp only[hA];have h:=(Dp kd c m p).1 ha;by_cases k8:kd=8
   . subst k8
     have h8:c=0/\1<=m/\m<=15/\p=0:=by omega
     rw[oJ] at eS;obtain⟨M,rfl⟩:=Int.eq_ofNat_of_zero_le (show 0<=m by omega);obtain⟨O,hO⟩:=Int.eq_ofNat_of_zero_le o0
     have hO15:O<=15:=by omega
     simp only[hO,Be] at eS;have lo:=nM O M hO15 (by omega);have lo2:=nM (Dd O M) M lo (by omega);obtain⟨t1,t2,t3,t4⟩:=Zc6 ⟨O,by omega⟩ ⟨M,by omega⟩ (by simp only;omega);simp only at t1 t2 t3 t4;simp only[eS]
     have gy:EngG 5 (e.1,e.2.1,e.2.2.1,e.2.2.2.1,e.2.2.2.2.1,((Dd O M:Nat):Int),e.2.2.2.2.2.2):=by
      obtain⟨⟨a1,a2,a3,a4,a5,a6,a7,a8,a9,a10⟩,g2,g3⟩:=g;exact⟨⟨a1,a2,a3,a4,a5,by simp only;omega,by simp only;omega,a8,a9,a10⟩,g2,g3⟩
     have hAy:Gb (e.1,e.2.1,e.2.2.1,e.2.2.2.1,e.2.2.2.2.1,((Dd O M:Nat):Int),e.2.2.2.2.2.2) k false=(8,c,(M:Int),p):=hA;obtain⟨_,y2,_,y4⟩:=n9 gy k false n2 n3
     have yv:∃ l,KH ((e.1,e.2.1,e.2.2.1,e.2.2.2.1,e.2.2.2.2.1,((Dd O M:Nat):Int),e.2.2.2.2.2.2),k,false)=((e.1,e.2.1,e.2.2.1,e.2.2.2.1,e.2.2.2.2.1++[(k,8,c,(M:Int),p)],((Dd (Dd O M) M:Nat):Int),e.2.2.2.2.2.2),l,true):=by
      rcases y4 with⟨_,_,_,_,y5⟩|⟨j,y5,y6,_,_⟩
      . refine⟨dM (e.1,e.2.1,e.2.2.1,e.2.2.2.1,e.2.2.2.2.1,((Dd O M:Nat):Int),e.2.2.2.2.2.2) k false,y5.trans ?_⟩
        have eSy:AX (e.1,e.2.1,e.2.2.1,e.2.2.2.1,e.2.2.2.2.1,((Dd O M:Nat):Int),e.2.2.2.2.2.2) k false=C3 (EY c) (e.1,e.2.1,e.2.2.1,e.2.2.2.1,e.2.2.2.2.1,((Dd O M:Nat):Int),e.2.2.2.2.2.2) (8,c,(M:Int),p):=by unfold AX;rw[hAy]
        rw[oJ] at eSy;simp only[Be] at eSy;unfold Ej Cq;rw[eSy]
      . exfalso;rcases Rm (e.1,e.2.1,e.2.2.1,e.2.2.2.1,e.2.2.2.2.1,((Dd O M:Nat):Int),e.2.2.2.2.2.2) k hl' with⟨z1,_⟩|⟨i,z1,_,z3⟩
        . omega
        . exact hne _ (DD e.2.2.2.2.1 i _ z1) z3
     obtain⟨yl,yv⟩:=yv;obtain⟨w1,w2⟩:=mT (a:=(k,8,c,(M:Int),p)) hl';rw[eS] at l1 l2;refine⟨⟨b2,(λ h=>by cases h),λ _=>⟨m1,n1,okL,okA,okT,p2,p1,(λ h=>by cases h),λ _=>⟨(λ h=>by cases h),λ _=>⟨l1,l2,λ _=>trivial,λ _=>⟨λ _=>⟨rk,y2,by rw[yv];exact⟨w1,w2⟩⟩,λ _=>trivial⟩⟩⟩⟩⟩,top _ ?_⟩;simp only[yv,lD hl',hO];have c1:iAnd .i64 ((Dd O M:Nat):Int) (M:Int)=((Dd O M &&& M:Nat):Int):=RW (by omega) (by omega);have c2:iAnd .i64 (O:Int) (M:Int)=((O &&& M:Nat):Int):=RW (by omega) (by omega)
     have z0:∀ n:Nat,((n:Int)=0)=(n=0):=λ n=>by apply propext;omega
     have zz:∀ n m:Nat,((n:Int)=(m:Int))=(n=m):=λ n m=>by apply propext;omega
     simp only[c1,c2,BA,AE,A4,AF,Bo,Db,CO,z0,zz,show ¬ (8:Int)=2 by decide,decide_true,decide_false,Sy,Nw,AJ,AP,AK,Dc,GA,Bool.false_or];by_cases d0:O &&& M=0
     . have e0:=t4 d0;rcases t2 with d1|d1
       . simp[d0,d1,t1,e0]
       . by_cases d2:Dd O M &&& M=0
         . simp[d0,d2,t1,e0]
         . simp[d0,d2,d1,t1,e0]
     . by_cases d3:O &&& M=M
       . have e0:=t3 d0 d3;rcases t2 with d1|d1
         . simp[d0,d1,t1,e0]
         . by_cases d2:Dd O M &&& M=0
           . simp[d0,d2,t1,e0]
           . simp[d0,d2,d1,t1,e0]
       . rcases t2 with d1|d1
         . simp[d0,d1,t1,d3]
         . by_cases d2:Dd O M &&& M=0
           . simp[d0,d2,t1,d3]
           . simp[d0,d2,d1,t1,d3]
   . have e8:iEq kd 8=false:=by rw[Bo,DQ k8]
     refine⟨⟨b2,(λ h=>by cases h),λ _=>⟨m1,n1,okL,okA,okT,p2,p1,(λ h=>by cases h),λ _=>⟨(λ h=>by cases h),λ _=>⟨l1,l2,λ _=>trivial,λ _=>⟨(λ h8=>by rw[e8] at h8;cases h8),λ _=>trivial⟩⟩⟩⟩⟩,top _ ?_⟩;by_cases hk:kd=2/\0<c
     . obtain⟨k2,hc⟩:=hk;subst k2
       have h2:0<=m/\m<=15:=by omega
       rw[ZdX _ _ _ _ _ hc] at eS;obtain⟨M,rfl⟩:=Int.eq_ofNat_of_zero_le h2.1;obtain⟨O,hO⟩:=Int.eq_ofNat_of_zero_le o0
       have hO15:O<=15:=by omega
       simp only[hO,Be] at eS;have hor:iOr .i64 (M:Int) (O:Int)=((M ||| O:Nat):Int):=Sw (by omega) (by omega);have hlt:=Nat.or_lt_two_pow (x:=M) (y:=O) (n:=4) (by omega) (by omega);have km:=jB (EY c) c e.2.2.2.2.2.2 (m:=M) (on:=O) (by omega) (by omega);have hand:iAnd .i64 ((JC (EY c) c M O e.2.2.2.2.2.2:Nat):Int) ((M ||| O:Nat):Int)=((JC (EY c) c M O e.2.2.2.2.2.2 &&& (M ||| O):Nat):Int):=RW (by omega) (by omega);obtain⟨v1,v2⟩:=ZcZ ⟨M ||| O,hlt⟩;simp only at v1 v2
       have hk2:JC (EY c) c M O e.2.2.2.2.2.2 &&& (M ||| O)=M ||| O:=by
        unfold JC;split
        . rename_i hh;exact v2 hh.2.2
        . exact v1
       simp only[eS,hO,hc,hor,hand,hk2,BA,AE,Bo,CO,decide_true,Dc,AK]
     . obtain⟨s1,s2⟩:=Zb9 (EY c) e kd c m p (by by_cases k2:kd=2;exact .inr (λ hc=>hk ⟨k2,hc⟩);exact .inl k2) k8
       have e2:bAnd (iEq kd 2) (iGt c 0)=false:=by
        rw[AE,Bo,CO];by_cases k2:kd=2
        . rw[DQ (λ hc=>hk ⟨k2,hc⟩),Bool.and_false]
        . rw[DQ k2,Sy]
       rw[<- eS] at s1 s2;simp only[e2,e8,CQ,s1,s2];simp only[AE,Bo,decide_true,Dc]
 . simp only[q2,q3,q1]
   have bi:bNot (bIff false false)=false:=by rw[AF,Nc];rfl
   have bf:bNot false=true:=by rw[AF];rfl
   have bg:iGe (j:Int) 0=true:=by rw[CK,JA (by omega)]
   simp only[bi,bf,bg,Dn];refine⟨⟨b2,(λ h=>by cases h),λ _=>⟨m1,n1,okL,okA,okT,p2,p1,(λ h=>by cases h),λ _=>⟨λ _=>p3,(λ h=>by cases h)⟩⟩⟩,by rw[A4,AE];rfl⟩
end
end
end Go.Ag
