/- Part 7 of what FnExactParseKeymap needs. No conditions. -/
import Derived.Test.YtijikmakanpmlaaGreatDoorLibF
namespace Go.Ag
set_option linter.unusedSimpArgs false
set_option linter.unusedVariables false
noncomputable section
section
set_option maxRecDepth 20000
theorem SK(u:Nat)(h:10≤u):Lib.decDigits u=Lib.decDigits (u / 10)++[UInt8.ofNat (48+u % 10)]:=by
 rw[Lib.decDigits,dif_neg (by omega)]
theorem Z2(d:Nat)(h:d<10):Lib.digitVal (UInt8.ofNat (48+d))=some d:=by
 unfold Lib.digitVal
 have:(UInt8.ofNat (48+d)).toNat=48+d:=by
  rw[UInt8.toNat_ofNat'];exact Nat.mod_eq_of_lt (by omega)
 rw[this,Ab (by omega)];congr 1;omega
theorem UM:∀ (l r:List UInt8) (a:Nat),Lib.decFrom a (l++r)=(Lib.decFrom a l).bind fun n=>Lib.decFrom n r
 |[],_,_=>rfl
 | b::l,r,a=>by
   rw[BW,Lib.decFrom,Lib.decFrom]
   cases Lib.digitVal b with
   |none=>rfl
   |some d=>exact UM l r _
theorem Rj:∀ (m u:Nat),u<10^m→Lib.decFrom 0 (Lib.decDigits u)=some u
 | 0,u,h=>by
   have:u=0:=by simpa using h
   subst this;rw[JD 0 (by decide)];rfl
 | m+1,u,h=>by
   by_cases hu:u<10
   · rw[JD u hu];simp only[Lib.decFrom,Z2 u hu,IZ,Bv]
   · rw[SK u (by omega),UM,Rj m (u / 10) (by rw[Nat.pow_succ] at h;omega)];simp only[ER,Lib.decFrom,Z2 (u % 10) (by omega)];congr 1;omega
theorem MK:∀ (m u:Nat),u<10^m→0<m→1≤(Lib.decDigits u).length∧(Lib.decDigits u).length≤m
 |0,_,_,h=>absurd h (by decide)
 | m + 1,u,h,_=>by
   by_cases hu:u<10
   · rw[JD u hu];simp
   · rw[SK u (by omega)]
     have hm:0<m:=by
      rcases K9 m with rfl|h'
      · simp at h;omega
      · exact h'
     have:=MK m (u / 10) (by rw[Nat.pow_succ] at h;omega) hm;simp;omega
theorem OW:∀ (m u:Nat),u<10^m→∀ b∈Lib.decDigits u,48≤b.toNat∧b.toNat≤57
 | 0,u,h,b,hb=>by
   have:u=0:=by simpa using h
   subst this;rw[JD 0 (by decide)] at hb;simp only[List.mem_singleton] at hb;subst hb;decide
 | m + 1,u,h,b,hb=>by
   have key:∀ d,d<10→48≤(UInt8.ofNat (48+d)).toNat∧(UInt8.ofNat (48+d)).toNat≤57:=fun d hd=>by
    have:(UInt8.ofNat (48+d)).toNat=48+d:=by
     rw[UInt8.toNat_ofNat'];exact Nat.mod_eq_of_lt (by omega)
    rw[this];omega
   by_cases hu:u<10
   · rw[JD u hu] at hb;simp only[List.mem_singleton] at hb;subst hb;exact key u hu
   · rw[SK u (by omega),B6] at hb;rcases hb with hb|hb
     · exact OW m (u / 10) (by rw[Nat.pow_succ] at h;omega) b hb
     · simp only[List.mem_singleton] at hb;subst hb;exact key _ (by omega)
theorem sM(k:Nat):(-(k:Int)).tdiv 10=-((k / 10:Nat):Int):=by
 rw[Int.neg_tdiv,Int.tdiv_eq_ediv_of_nonneg (by omega)];omega
theorem tV(k:Nat):(-(k:Int)).tmod 10=-((k % 10:Nat):Int):=by
 rw[Int.neg_tmod,Int.tmod_eq_emod_of_nonneg (by omega)];omega
theorem uC(x:Int):bSel (iLt (iRem x 10) 0) (iNeg .i64 (iRem x 10)) (iRem x 10)=((x.natAbs % 10:Nat):Int):=by
 rw[Td];rcases Int.le_total 0 x with h|h
 · obtain⟨k,rfl⟩:∃ k:Nat,x=k:=⟨x.toNat,by omega⟩;rw[Int.tmod_eq_emod_of_nonneg (by omega),Bp,Ar,Ad (by simp;omega)];simp only[Int.natAbs_natCast];omega
 · obtain⟨k,rfl⟩:∃ k:Nat,x=-(k:Int):=⟨x.natAbs,by omega⟩;rw[tV,Bp,Ar]
   have e:(-(k:Int)).natAbs=k:=by omega
   rw[e];by_cases h0:k % 10=0
   · rw[h0];simp
   · rw[Ab (by simp;omega),dg (by unfold A5;omega)];omega
theorem uL(x:Int)(h:A5 x):(iQuo .i64 x 10).natAbs=x.natAbs / 10∧A5 (iQuo .i64 x 10):=by
 rw[Xo];rcases Int.le_total 0 x with hx|hx
 · obtain⟨k,rfl⟩:∃ k:Nat,x=k:=⟨x.toNat,by omega⟩;rw[Int.tdiv_eq_ediv_of_nonneg (by omega),wrap_i64 (by unfold A5 at *;omega)];unfold A5 at *;omega
 · obtain⟨k,rfl⟩:∃ k:Nat,x=-(k:Int):=⟨x.natAbs,by omega⟩;rw[sM,wrap_i64 (by unfold A5 at *;omega)];unfold A5 at *;omega
theorem cD:∀ (m:Nat) (x:Int) (s:List UInt8),x.natAbs<10^m→s.length+m≤100→A5 x →
 ∃ y,LoopTo F3 Ij Ik (s,x) y∧y.1=(if x=0 then s else Lib.decDigits x.natAbs++s)
 | 0,x,s,h,hl,hi=>by
   have hx:x=0:=by simp at h;exact h
   subst hx;refine⟨(s,0),.stop ?_ ?_,by simp⟩
   · simp only[Ik,CU];exact⟨fun h=>(by simp at h),fun _=>trivial⟩
   · simp[F3,CU]
 | m + 1,x,s,h,hl,hi=>by
   by_cases hx:x=0
   · subst hx;refine⟨(s,0),.stop ?_ ?_,by simp⟩
     · simp only[Ik,CU];exact⟨fun h=>(by simp at h),fun _=>trivial⟩
     · simp[F3,CU]
   · have e1:rowS [iConv .u8 (iAdd .i64 48 (bSel (iLt (iRem x 10) 0) (iNeg .i64 (iRem x 10)) (iRem x 10)))]=[UInt8.ofNat (48+x.natAbs % 10)]:=by
      rw[uC,Cx (by unfold A5;omega),eJ (by omega) (by omega),Wu]
      have:((48:Int)+((x.natAbs % 10:Nat):Int)).toNat=48+x.natAbs % 10:=by omega
      simp only[Bs,HI,this]
     obtain⟨q1,q2⟩:=uL x hi
     have e2:Ij (s,x)=(UInt8.ofNat (48+x.natAbs % 10)::s,iQuo .i64 x 10):=by
      simp only[Ij,e1,JM];rfl
     have c1:F3 (s,x)=true:=by simp[F3,CU,hx]
     have p1:Ik (s,x):=by
      simp only[Ik,e1];refine⟨fun _=>⟨by decide,?_,by decide⟩,fun _=>trivial⟩;simp;omega
     obtain⟨y,y1,y2⟩:=cD m (iQuo .i64 x 10) (UInt8.ofNat (48+x.natAbs % 10)::s) (by rw[q1];rw[Nat.pow_succ] at h;omega) (by simp;omega) q2;refine⟨y,.go p1 c1 (by rw[e2];exact y1),?_⟩;rw[y2,Ad hx,q1];by_cases h10:x.natAbs<10
     · have:iQuo .i64 x 10=0:=by omega
       rw[Ab this,JD _ h10,Nat.mod_eq_of_lt h10];rfl
     · rw[Ad (by omega),SK x.natAbs (by omega)];simp
theorem Zv(n:Int)(h:n.natAbs<10^18):GB n∧De n=Lib.itoa n:=by
 rw[YJ,YH]
 have hi:A5 n:=by unfold A5;omega
 obtain⟨y,y1,y2⟩:=cD 18 n [] h (by simp) hi;have hv:=y1.val;by_cases h0:n=0
 · subst h0
   have e:iEq (0:Int) 0=true:=by rw[CV];rfl
   rw[e,Bq];refine⟨⟨fun _=>trivial,fun h=>(by cases h)⟩,?_⟩;unfold Lib.itoa;rw[Ad (by decide),show (0:Int).toNat=0 from rfl,JD 0 (by decide)];rfl
 · have e:iEq n 0=false:=by rw[CV];exact C5 h0
   rw[Ad h0,JZ] at y2;obtain⟨l1,l2⟩:=MK 18 n.natAbs h (by decide);rw[e,Bh,hv,y2];refine⟨⟨fun h=>(by cases h),fun _=>⟨⟨_,y1⟩,fun _=>?_,fun _=>trivial⟩⟩,?_⟩
   · simp;omega
   · unfold Lib.itoa;rw[Bp,Ar,JM];by_cases hn:n<0
     · rw[Ab (Cq hn),Ab hn];rfl
     · rw[Ad (by simpa using hn),Ad hn,show n.natAbs=n.toNat by omega]
theorem mM(n:Int)(h:n.natAbs<10^18):It n∧Fw n=Lib.itoa n:=by
 rw[YD,YC,Un,Us];exact⟨by omega,rfl⟩
theorem Mn(n:Int)(h:n.natAbs<10^9):1≤(Lib.itoa n).length∧(Lib.itoa n).length≤10∧Lib.atoi (Lib.itoa n)=some n:=by
 obtain⟨l1,l2⟩:=MK 9 n.natAbs h (by decide);have hd:=Rj 9 n.natAbs h;unfold Lib.itoa;by_cases hn:n<0
 · rw[Ab hn];refine⟨by simp,by simp;omega,?_⟩;simp only[Lib.atoi,beq_self_eq_true,AE,Lib.decNat];rw[Ad (by simp;intro hh;rw[hh] at l1;simp at l1),hd];simp only[BM];congr 1;omega
 · rw[Ad hn,show n.toNat=n.natAbs by omega];refine⟨l1,by omega,?_⟩;have hs:=OW 9 n.natAbs h
   cases hl:Lib.decDigits n.natAbs with
   |nil=>rw[hl] at l1;simp at l1
   | cons b r=>
     rw[hl] at hs hd;have hb:=hs b (by simp)
     have n1:(b == 45)=false:=by
      rw[Hz];intro e;subst e;exact absurd hb.1 (by decide)
     have n2:(b == 43)=false:=by
      rw[Hz];intro e;subst e;exact absurd hb.1 (by decide)
     simp only[Lib.atoi,n1,n2,Lib.decNat,List.isEmpty_cons,AF,AU,hd,BM];congr 1;omega
theorem UA(s:List UInt8):KC s∧(F5 s=(0,false)∧(∀ n:Int,n.natAbs<10^9→Lib.itoa n≠s)∨∃ n:Int,n.natAbs<10^9∧Lib.itoa n=s∧F5 s=(n,true)):=by
 rw[lj,lu];simp only[Ca,Bp,Ar,DZ,Ap,JT,AB,Y3,Y9];by_cases hl:s.length<1∨10<s.length
 · have e:(decide ((s.length:Int)<1)||decide (10<(s.length:Int)))=true:=by
    rw[Cs,A6,A6];omega
   rw[e];refine⟨⟨fun _=>trivial,fun h=>(by cases h)⟩,.inl ⟨rfl,fun n hn e=>?_⟩⟩;have:=Mn n hn;rw[e] at this;omega
 · have e:(decide ((s.length:Int)<1)||decide (10<(s.length:Int)))=false:=by
    rw[CK,BL,BL];omega
   rw[e]
   cases ha:Lib.atoi s with
   | none=>
     simp only[Option.isSome_none,Bool.not_false,Bool.true_or,AE,AF,AU];refine⟨⟨fun h=>(by cases h),fun _=>⟨by omega,fun _=>trivial,fun h=>(by cases h)⟩⟩,.inl ⟨by first|rfl|trivial,fun n hn e=>?_⟩⟩;have:=(Mn n hn).2.2;rw[e,ha] at this;cases this
   | some n=>
     simp only[Option.isSome_some,G2,Bool.false_or,Dh,AF,AU];by_cases hr:n < -999999999∨999999999<n
     · have hc:(decide (n < -999999999)||(decide (999999999<n)||decide (Fw n≠s)))=true:=by
        rcases hr with hr|hr
        · simp[hr]
        · simp[hr]
       rw[Ab (by simpa using hc)];refine⟨⟨fun h=>(by cases h),fun _=>⟨by omega,fun h=>(by cases h),fun _=>⟨fun _=>trivial,fun h1=>⟨fun _=>trivial,fun h2=>?_⟩⟩⟩⟩,.inl ⟨rfl,fun k hk e=>?_⟩⟩
       · simp at h1 h2;omega
       · have:=(Mn k hk).2.2;rw[e,ha] at this;cases this;omega
     · obtain⟨f1,f2⟩:=mM n (by omega);rw[f2]
       have h1:decide (n < -999999999)=false:=by simp;omega
       have h2:decide (999999999<n)=false:=by simp;omega
       simp only[h1,h2,Bool.false_or];refine⟨⟨fun h=>(by cases h),fun _=>⟨by omega,fun h=>(by cases h),fun _=>⟨fun h=>(by cases h),fun _=>⟨fun h=>(by cases h),fun _=>f1⟩⟩⟩⟩,?_⟩;by_cases he:Lib.itoa n=s
       · exact .inr ⟨n,by omega,he,by simp[he]⟩
       · refine .inl ⟨by simp[he],fun k hk e=>?_⟩;have:=(Mn k hk).2.2;rw[e,ha] at this;cases this;exact he e
def Cb:List UInt8→List UInt8
 |[]=>[]
 |b::r=>if b.toNat=45 then r else b::r
theorem WM(s:List UInt8):bSel (bAnd (iGt (lLen s) 0) (iEq (sGet s 0) 45)) (lSub s (iNat 1) (lN s)) s=Cb s:=by
 rw[Bp,Az,DZ,CV,Ap,O9,HD,AL,Ng]
 cases s with
 |nil=>rfl
 | cons b r=>
   have e1:decide (0<((b::r).length:Int))=true:=Cq (by simp);rw[e1,JY];by_cases h:b.toNat=45
   · rw[Ab (by simp[h])];simp[Cb,h]
   · rw[Ad (by simp;omega)];simp[Cb,h]
theorem qc(s:List UInt8)(h9:(Cb s).length≤9):LoopOk (Ex s) (E4 s) (QH s) (0,0) ∧
 ∃ k m:Nat,Am (Ex s) (E4 s) (0,0)=((m:Int),(k:Int))∧k≤(Cb s).length∧Lib.decFrom 0 ((Cb s).take k)=some m∧m<10^k∧(k<(Cb s).length→Lib.decFrom 0 (Cb s)=none):=by
 have key:=IQ (c:=Ex s) (f:=E4 s) (p:=QH s)
  (fun st=>∃ k m:Nat,st=((m:Int),(k:Int))∧k≤(Cb s).length∧Lib.decFrom 0 ((Cb s).take k)=some m∧m<10^k)
  (fun st=>(Cb s).length-st.2.toNat) (fun st hI=>?_) (x0:=(0,0)) ⟨0,0,rfl,Ge _,rfl,by decide⟩
 · obtain⟨k1,⟨k,m,e,h1,h2,h3⟩,k2⟩:=key
   refine⟨k1,k,m,e,h1,h2,h3,fun hk=>?_⟩;rw[e] at k2;simp only[Ex,WM] at k2;generalize Cb s=t at *;rw[Az,AB,Ca,Ar,Ar,DZ,Ap,O9,Bg,Cq (show (k:Int)<(t.length:Int) by omega),JY] at k2
   have hd:Lib.digitVal (t.getD k 0)=none:=by
    unfold Lib.digitVal;rw[Ad];intro hh;simp only[E0,Cs,A6] at k2;omega
   have e2:t=t.take k++t.getD k 0::t.drop (k+1):=by
    rw[BT,Ax hk,Dh]
    conv=>lhs;rw[← List.take_append_drop k t,JR hk]
   rw[e2,UM,h2,ER,Lib.decFrom,hd]
 · obtain⟨k,m,rfl,h1,h2,h3⟩:=hI
   simp only[Ex,E4,QH,WM];generalize Cb s=t at *
   have hp:(m:Int)<1000000000:=by
    have:10^k≤10^9:=Nat.pow_le_pow_right (by decide) (by omega);omega
   simp only[Az,AB,Ca,Ar,DZ,Ap,O9,Bg,A6,BL];refine⟨⟨fun hk=>⟨⟨⟨by omega,by omega⟩,fun _=>trivial,fun _=>⟨by omega,by omega⟩⟩,fun _=>trivial,fun _=>⟨by omega,by omega⟩⟩,fun _=>trivial⟩,fun hc=>?_⟩;rw[Ai,A6] at hc;obtain⟨hk,hd⟩:=hc
   have hkl:k<t.length:=by omega
   have hd':48≤(t.getD k 0).toNat∧(t.getD k 0).toNat≤57:=by simp only[CW,CK,BL] at hd;omega
   rw[sT (by unfold A5;omega),sA (by omega) (by omega),Cx (by unfold A5;omega),VI (by unfold A5;omega),Cx (by unfold A5;omega)];refine⟨⟨k+1,m*10+((t.getD k 0).toNat-48),?_,by omega,?_,?_⟩,?_⟩
   · rw[Ak];omega
   · refine Lib.decFrom_take t k 0 m (t.getD k 0) _ h2 ?_ ?_
     · rw[BT,Ax hkl];rfl
     · unfold Lib.digitVal;rw[Ab hd']
   · rw[Nat.pow_succ];omega
   · show t.length-((k:Int)+1).toNat<t.length-(k:Int).toNat;omega
theorem V4(n:Int)(h:n.natAbs<10^9):Cb (Lib.itoa n)=Lib.decDigits n.natAbs∧((Cb (Lib.itoa n)).length<(Lib.itoa n).length↔n<0):=by
 obtain⟨l1,_⟩:=MK 9 n.natAbs h (by decide);unfold Lib.itoa;by_cases hn:n<0
 · rw[Ab hn];exact⟨rfl,by simp[Cb,hn]⟩
 · rw[Ad hn,show n.toNat=n.natAbs by omega];have hs:=OW 9 n.natAbs h
   cases hl:Lib.decDigits n.natAbs with
   |nil=>rw[hl] at l1;simp at l1
   | cons b r=>
     rw[hl] at hs;have hb:=hs b (by simp)
     have:Cb (b::r)=b::r:=by show (if b.toNat=45 then r else b::r)=b::r;rw[Ad (by omega)]
     rw[this];exact⟨rfl,by simp[hn]⟩
theorem Ra(s:List UInt8):Ky s∧(BR s=(0,false)∧(∀ n:Int,n.natAbs<10^9→Lib.itoa n≠s)∨∃ n:Int,n.natAbs<10^9∧Lib.itoa n=s∧BR s=(n,true)):=by
 rw[lK,lW];simp only[WM]
 have h0:((iGt (lLen s) 0=true→(0:Int)≤0∧(0:Int)<(s.length:Int))∧(iGt (lLen s) 0=false→True))∧((bAnd (iGt (lLen s) 0) (iEq (sGet s 0) 45))=true→(0:Int)≤1∧iNat 1≤lN s∧lN s≤s.length)∧((bAnd (iGt (lLen s) 0) (iEq (sGet s 0) 45))=false→True):=by
  rw[Az,DZ,Ap,AL,Ng];simp only[A6,Ai];refine⟨⟨fun h=>⟨by decide,h⟩,fun _=>trivial⟩,fun h=>⟨by decide,?_,AH _⟩,fun _=>trivial⟩;have:=h.1;show 1≤s.length;omega
 have no:∀ {P:Prop},(∀ n:Int,n.natAbs<10^9→Lib.itoa n=s→P)→∀ n:Int,n.natAbs<10^9→Lib.itoa n=s→P:=fun h=>h
 by_cases hl:(Cb s).length<1∨9<(Cb s).length
 · have e:bOr (iLt (lLen (Cb s)) 1) (iGt (lLen (Cb s)) 9)=true:=by
    rw[Ca,Ar,DZ,Ap,Cs,A6,A6];omega
   rw[e,Bq];refine⟨⟨h0,fun _=>trivial,fun h=>(by cases h)⟩,.inl ⟨rfl,fun n hn e=>?_⟩⟩;have h1:=(V4 n hn).1;have h2:=MK 9 n.natAbs hn (by decide);rw[e] at h1;rw[h1] at hl;omega
 · have e:bOr (iLt (lLen (Cb s)) 1) (iGt (lLen (Cb s)) 9)=false:=by
    rw[Ca,Ar,DZ,Ap,CK,BL,BL];omega
   obtain⟨k1,k,m,k2,k3,k4,k5,k6⟩:=qc s (by omega);rw[e,Bh,k2];by_cases hk:k<(Cb s).length
   · have e3:iLt ((k:Int)) (lLen (Cb s))=true:=by rw[Ar,Ap];exact Cq (by omega)
     rw[e3,Bq];refine⟨⟨h0,fun h=>(by cases h),fun _=>⟨k1,fun _=>trivial,fun h=>(by cases h)⟩⟩,.inl ⟨rfl,fun n hn e=>?_⟩⟩;have h1:=(V4 n hn).1;have h2:=Rj 9 n.natAbs hn;rw[e] at h1;rw[← h1,k6 hk] at h2;cases h2
   · have e3:iLt ((k:Int)) (lLen (Cb s))=false:=by rw[Ar,Ap];exact C5 (by omega)
     have hkl:k=(Cb s).length:=by omega
     rw[hkl,I7] at k4;have hm:m<10^9:=HK k5 (Nat.pow_le_pow_right (by decide) (by omega))
     have hn:bSel (iLt (lLen (Cb s)) (lLen s)) (iNeg .i64 (m:Int)) (m:Int)=if (Cb s).length<s.length then -(m:Int) else m:=by
      rw[Bp,Ar,Ap,Ap,dg (by unfold A5;omega)];by_cases hh:(Cb s).length<s.length
      · rw[Ab (Cq (by omega)),Ab hh]
      · rw[Ad (by simp;omega),Ad hh]
     rw[e3,Bh,hn];generalize hN:(if (Cb s).length<s.length then -(m:Int) else (m:Int))=N
     have hNa:N.natAbs=m:=by subst hN;split<;>omega
     obtain⟨f1,f2⟩:=Zv N (by omega);rw[f2];refine⟨⟨h0,fun h=>(by cases h),fun _=>⟨k1,fun h=>(by cases h),fun _=>f1⟩⟩,?_⟩;rw[Bp,JT];by_cases he:Lib.itoa N=s
     · exact .inr ⟨N,by omega,he,by simp[he]⟩
     · refine .inl ⟨by simp[he],fun n hn e=>he ?_⟩;have h1:=V4 n hn;have h2:=Rj 9 n.natAbs hn;rw[e] at h1;rw[← h1.1,k4] at h2
       have h3:m=n.natAbs:=by simpa using h2
       have:N=n:=by
        subst hN;by_cases hh:n<0
        · rw[Ab (h1.2.2 hh)];omega
        · rw[Ad (fun hq=>hh (h1.2.1 hq))];omega
       rw[this];exact e
theorem cR{a b:Int}(ha:a.natAbs<10^9)(hb:b.natAbs<10^9)(h:Lib.itoa a=Lib.itoa b):a=b:=by
 have h1:=(Mn a ha).2.2;rw[h,(Mn b hb).2.2] at h1;exact(by simpa using h1:b=a).symm
theorem ZS(s:List UInt8):Ky s∧KC s∧F5 s=BR s:=by
 obtain⟨a1,a2⟩:=Ra s;obtain⟨b1,b2⟩:=UA s;refine⟨a1,b1,?_⟩;rcases a2 with⟨a2,a3⟩|⟨n,n1,n2,n3⟩
 · rcases b2 with⟨b2,_⟩|⟨k,k1,k2,_⟩
   · rw[a2,b2]
   · exact absurd k2 (a3 k k1)
 · rcases b2 with⟨_,b3⟩|⟨k,k1,k2,k3⟩
   · exact absurd n2 (b3 n n1)
   · rw[n3,k3,cR k1 n1 (k2.trans n2.symm)]
end
section
set_option maxRecDepth 20000
theorem aO(x:List UInt8):Cv x=if Dc x<56 then (Dc x:Int)+1 else 0:=by
 have hl:Cp.length=56:=rfl;have h56:=Xv x;rw[Zh]
 have L1:=Eg (c:=Iz x) (f:=Kz) (p:=Kx) (Dc x) (fun k=>(k:Int)+1) (x0:=1) rfl (fun k hk=>by
  have i1:iLe ((k:Int)+1) 56=true:=by rw[CS];exact Cq (by omega)
  have i2:sEq (BE ((k:Int)+1)) x=false:=by rw[Mj k (by omega),B8];simpa using Xu x hk
  simp only[Iz,Kz,Kx,i1,i2,Az,AB]
  exact⟨⟨fun _=>(Oj _).1,fun h=>(by cases h)⟩,rfl,by rw[Cx (by unfold A5;omega)];simp⟩) (by
  simp only[Iz,Kx,Az,AB];refine⟨⟨fun _=>(Oj _).1,fun _=>trivial⟩,?_⟩;rcases Bc (Dc x) 56 with h|h
  · rw[Mj _ h,W3 x h,B8];simp
  · have i1:iLe ((Dc x:Int)+1) 56=false:=by rw[CS];exact C5 (by omega)
    rw[i1];rfl)
 rw[L1.2,CS,Bp];rcases Bc (Dc x) 56 with h|h
 · rw[Ab (Cq (by omega)),Ab h]
 · rw[Ad (by simp;omega),Ad (by omega)]
theorem qF:((List.range 56).all fun k=>Cp.findIdx (· == Cp.getD k []) == k)=true:=by kernel_rfl
theorem nS(k:Int)(h1:1≤k)(h2:k≤56):Cv (BE k)=k:=by
 obtain⟨j,rfl⟩:∃ j:Nat,k=(j:Int)+1:=⟨(k-1).toNat,by omega⟩
 have hj:j<56:=by omega
 have:=CE.1 qF j (List.mem_range.2 hj)
 have e:Dc (Cp.getD j [])=j:=by unfold Dc;exact eq_of_beq this
 rw[Mj j hj,aO,e,Ab hj]
theorem Hu(k:Int)(h0:0≤k)(h1:k≤56):Cv (BE k)=k:=by
 by_cases h:k=0
 · subst h
   have e:BE 0=[]:=by
    rw[QS,Hr];simp only[AB,Az,Bp,C9,CS];rfl
   have c:Dc []=56:=by unfold Dc;exact(by kernel_rfl:Cp.findIdx (· == [])=56)
   rw[e,aO,c];rfl
 · exact nS k (by omega) h1
def Gt(m:Nat):Nat→List UInt8
 |0=>[]
 |k+1=>if m.testBit k then Gt m k++[([67,83,65,71]:List UInt8).getD k 0] else Gt m k
theorem vp{m k:Nat}(hm:m<16)(hk:k<4):XZ (m:Int) k=m.testBit k:=by
 have h:m / 2^k≤m:=Nat.div_le_self _ _;have e:iAnd .i64 ((m / 2^k:Nat):Int) 1=((m / 2^k &&& 1:Nat):Int):=vO (b:=1) (by omega) (by omega);unfold XZ;rw[u3 _ _ (by omega),e,CV,Nat.and_one_is_mod,Nat.testBit_eq_decide_div_mod_eq];exact decide_eq_decide.2 (by omega)
theorem gh{m:Nat}(hm:m<16):∀ k,k≤4→fm (m:Int) k=Gt m k
 |0,_=>rfl
 | k+1,h=>by
   unfold fm Gt
   rw[vp hm (by omega),gh hm k (by omega)]
theorem VT{m:Nat}(hm:m<16):B3 (m:Int)=Gt m 4:=by
 rw[(VJ _).2.2.2];split
 · exact gh hm 4 (AH _)
 · have:m=0:=by omega
   subst this;rfl
theorem uR:∀ a,a<16→∀ b,b<16→Gt a 4=Gt b 4→a=b:=by decide
theorem mB{m:Nat}(hm:m<16):DQ (B3 (m:Int))=(m:Int):=by
 rw[VT hm,YF]
 have L:=Eg (c:=Gv (Gt m 4)) (f:=Ii) (p:=fun _=>True) (if m=0 then 15 else m-1) (fun k=>(k:Int)+1) (x0:=1) rfl (fun k hk=>by
  have hk15:k+1<16:=by split at hk<;>omega
  have hne:k+1≠m:=by split at hk<;>omega
  have i1:iLe ((k:Int)+1) 15=true:=by rw[CS];exact Cq (by omega)
  have e:B3 ((k:Int)+1)=Gt (k+1) 4:=VT (m:=k+1) hk15
  have i2:sEq (B3 ((k:Int)+1)) (Gt m 4)=false:=by
   rw[e,B8]
   have:Gt (k+1) 4≠Gt m 4:=fun h=>hne (uR _ hk15 _ hm h)
   simpa using this
  refine⟨trivial,by simp only[Gv,i1,i2,Az,AB];rfl,?_⟩;unfold Ii
  rw[Cx (by unfold A5;omega)];simp) ⟨trivial,by
  by_cases h0:m=0
  · subst h0;simp only[Gv,Az,AE]
    have i1:iLe (((15:Nat):Int)+1) 15=false:=by rw[CS];rfl
    rw[i1];rfl
  · simp only[Gv,Az,Ad h0]
    have e:((m-1:Nat):Int)+1=(m:Int):=by omega
    rw[e,VT hm,B8,AB];simp⟩
 rw[L.2,CS,Bp];by_cases h0:m=0
 · subst h0;rfl
 · rw[Ad h0,Ab (Cq (by omega))];omega
theorem fW(m:Int):∀ k,k≤4→∀ b∈fm m k,b∈([67,83,65,71]:List UInt8)
 |0,_,b,hb=>by simp[fm] at hb
 | k + 1,h,b,hb=>by
   have i:=fW m k (by omega) b
   unfold fm at hb
   split at hb
   · rw[B6,List.mem_singleton] at hb
     rcases hb with h1|h1
     · exact i h1
     · rcases (show k=0∨k=1∨k=2∨k=3 by omega) with rfl|rfl|rfl|rfl<;>(subst h1;decide)
   · exact i hb
theorem de(m:Int):∀ b∈B3 m,b∈([67,83,65,71]:List UInt8):=by
 rw[(VJ m).2.2.2];split
 · exact fW m 4 (AH _)
 · intro b hb;simp at hb
theorem UY(k:Int):BE k=[]∨(1≤k∧k≤56∧BE k∈Cp):=by
 by_cases h:1≤k∧k≤56
 · obtain⟨j,rfl⟩:∃ j:Nat,k=(j:Int)+1:=⟨(k-1).toNat,by omega⟩;right;refine⟨h.1,h.2,?_⟩
   have hj:j<Cp.length:=by show j<56;omega
   rw[Mj j (by omega),BT,Ax hj];exact DB _
 · left;rw[QS,Hr]
   have e:(decide (1≤k)&&decide (k≤56))=false:=by
    rw[Jb,BL,BL];omega
   simp only[AB,Az,Bp,C9,CS,e];rfl
theorem so(k:Int):∀ b∈BE k,b ∉ ([32,45,47,58,61,124]:List UInt8):=by
 have key:∀ w∈Cp,∀ b∈w,b ∉ ([32,45,47,58,61,124]:List UInt8):=by decide
 rcases UY k with h|⟨_,_,h⟩
 · rw[h];intro b hb;simp at hb
 · exact key _ h
end
section
set_option maxRecDepth 20000
abbrev F0:=Int×Int×Int×Int
theorem RM(k c m n:Int)(h:Cc (k,c,m,n)=true) :
 ((k=0∨k=1∨k=10)∧c=0∧m=0∧n=0)∨(k=2∧n=0∧0≤c∧c≤56∧0≤m∧m≤15∧(c≠0∨m≠0))∨((k=3∨k=4)∧c=0∧m=0∧1≤n∧n≤3)∨((k=5∨k=9)∧c=0∧m=0∧0≤n∧n≤3) ∨
 (k=6∧n=0∧1≤c∧c≤56∧1≤m∧m≤15)∨(k=7∧m=0∧1≤c∧c≤56∧1≤n∧n≤3)∨(k=8∧c=0∧n=0∧1≤m∧m≤15):=by
 obtain⟨hk,_⟩:=Vh k c m n h
 rw[Um] at h
 simp only[Hr,Bp,Ca,Az,CV,C9,CS] at h
 rcases (show k=0∨k=1∨k=2∨k=3∨k=4∨k=5∨k=6∨k=7∨k=8∨k=9∨k=10 by omega) with rfl|rfl|rfl|rfl|rfl|rfl|rfl|rfl|rfl|rfl|rfl<;>simp at h
 all_goals first|omega|(obtain⟨h1,h2⟩:=h;split at h2<;>omega)
theorem Rf(p t:List UInt8)(h:(p++t).length≤1048576):Kt (p++t,p)∧Ew (p++t,p)=(t,true):=by
 rw[Cz] at h
 have e1:Kl (p++t,p)=true:=by
  rw[X5,C9,Ap,Ap,B8,HD,AL,Az];simp;omega
 have o1:Nx (p++t,p):=by
  rw[X8,C9,Ap,Ap,AL];simp
 rw[Yk,Yl,X6,X7,e1,AB,Ap,AL,Ng,HD,G2,Bh];refine⟨⟨o1,fun h=>(by cases h),fun _=>⟨by omega,by simp,AH _⟩⟩,?_⟩;simp only[Bg];rw[List.drop_left,Ll (by simp)]
theorem UD(s p:List UInt8)(h:¬ p <+: s):Kt (s,p)∧Ew (s,p)=(s,false):=by
 have e1:Kl (s,p)=false:=by
  rw[X5,C9,Ap,Ap,B8,HD,AL,Az,Jb,BL,Hz];simp only[Bg,MX,Nat.sub_zero];by_cases hl:p.length≤s.length
  · right;intro e;exact h (e▸List.take_prefix _ _)
  · left;omega
 have o1:Nx (s,p):=by
  rw[X8,C9,Ap,Ap,AL];simp only[A6,BL,Bg];exact⟨fun h=>⟨by omega,by omega,by omega⟩,fun _=>trivial⟩
 rw[Yk,Yl,X6,X7,e1,AB,Bool.not_false,Bq];exact⟨⟨o1,fun _=>trivial,fun h=>(by cases h)⟩,rfl⟩
theorem ZN(s p:List UInt8)(h:s.length≤1048576):Kt (s,p):=by
 by_cases hp:p <+: s
 · obtain⟨t,rfl⟩:=hp;exact(Rf p t h).1
 · exact(UD s p hp).1
theorem gz(s:List UInt8)(b:UInt8)(h:s.length≤1048576):KI (s,[b]):=by
 rcases cW s b with h1|⟨x,y,rfl,h2⟩
 · exact(R6 s b h1).1
 · exact(W4 x y b h2 h).1
def wd(i:Nat):List UInt8:=([[109,111,58],[116,103,58],[116,111,58],[109,97,99,114,111,58]]:List (List UInt8)).getD i []
theorem SI(i:Nat)(h:i<4):N8 (lGet [3,4,5,9] i 0)∧GO (lGet [3,4,5,9] i 0)=wd i:=by
 rw[Zj,Zq,BS];rcases (show i=0∨i=1∨i=2∨i=3 by omega) with rfl|rfl|rfl|rfl<;>simp only[Bp,CV]<;>exact⟨by simp,rfl⟩
theorem U1(s:List UInt8)(h:s.length≤1048576):LoopOk (Fp s) F2 (Qq s) 0 ∧
 ∃ k:Nat,k≤4∧Am (Fp s) F2 0=(k:Int)∧(∀ j,j<k→¬ wd j <+: s)∧(k<4→wd k <+: s):=by
 have key:=IQ (c:=Fp s) (f:=F2) (p:=Qq s)
  (fun st=>∃ k:Nat,st=(k:Int)∧k≤4∧∀ j,j<k→¬ wd j <+: s) (fun st=>4-st.toNat) (fun st hI=>?_) (x0:=0) ⟨0,rfl,by decide,fun j hj=>absurd hj (by omega)⟩
 · obtain⟨k1,⟨k,e,h1,h2⟩,k2⟩:=key
   refine⟨k1,k,h1,e,h2,fun hk=>?_⟩;rw[e] at k2;simp only[Fp,Az,AB,Ar,Ap,AL,Bg] at k2;rw[(SI k hk).2] at k2;apply Classical.byContradiction;intro hn;rw[(UD s _ hn).2] at k2;simp at k2;omega
 · obtain⟨k,rfl,h1,h2⟩:=hI
   simp only[Fp,F2,Qq,Az,AB,Ar,Ap,AL,Bg];have hl:(([3,4,5,9]:List Int).length:Int)=4:=rfl;have hl':([3,4,5,9]:List Int).length=4:=rfl;rw[hl];refine⟨⟨fun hk=>?_,fun _=>trivial⟩,fun hc=>?_⟩
   · have hk:k<4:=by simp only[A6] at hk;omega
     obtain⟨w1,w2⟩:=SI k hk;rw[w2];exact⟨⟨by omega,by omega⟩,by omega,w1,ZN _ _ h,fun _=>(UA _).1,fun _=>trivial⟩
   · rw[Ai,A6] at hc;obtain⟨hk,hc⟩:=hc
     have hk:k<4:=by omega
     rw[Cx (by unfold A5;omega)];refine⟨⟨k+1,by omega,by omega,fun j hj=>?_⟩,by omega⟩;by_cases hjk:j<k
     · exact h2 j hjk
     · have:j=k:=by omega
       subst this;rintro⟨t,rfl⟩;rw[(SI j hk).2,(Rf _ t h).2] at hc;cases hc
theorem sG(s:List UInt8)(h:s.length≤1048576):Qw s:=by
 rw[jz]
 have pm:∀ x,Kw x:=fun x=>(Of x).2.1
 have co:∀ x,Ju x:=fun x=>(OB x).2.1
 have pi:∀ x,KC x:=fun x=>(UA x).1
 exact⟨fun _=>trivial,fun _=>⟨fun _=>trivial,fun _=>⟨fun _=>trivial,fun _=>⟨(U1 s h).1,fun _=>trivial,fun _=>⟨ZN _ _ h,fun _=>pm _,fun _=>⟨gz _ _ h,
  fun _=>⟨pi _,fun _=>co _,fun _=>⟨pm _,co _⟩⟩,fun _=>⟨gz _ _ h,fun _=>⟨pm _,co _⟩,fun _=>co _⟩⟩⟩⟩⟩⟩⟩
theorem mO(s:List UInt8)(h:s.length≤1048576):LS s:=by
 rw[j6];exact⟨sG s h,T0 _,fun _=>trivial,fun _=>(GD _).2.1⟩
def Jc:List UInt8:=[110,111,110,101]
def He:List UInt8:=[112,97,115,115]
def FL:List UInt8:=[99,97,112,115]
theorem Sp(i:Nat)(h:i<4):(58:UInt8)∈wd i:=by
 rcases (show i=0∨i=1∨i=2∨i=3 by omega) with rfl|rfl|rfl|rfl<;>decide
theorem bD(s:List UInt8)(h:s.length≤1048576)(hc:∀ j,j<4→¬ wd j <+: s):Am (Fp s) F2 0=4:=by
 obtain⟨_,k,k1,k2,_,k4⟩:=U1 s h;rw[k2];rcases Bc k 4 with hk|hk
 · exact absurd (k4 hk) (hc k hk)
 · have:k=4:=by omega
   subst this;rfl
theorem qC(s:List UInt8)(h:s.length≤1048576)(i:Nat)(hi:i<4)(h1:wd i <+: s)(h2:∀ j,j<i→¬ wd j <+: s):Am (Fp s) F2 0=(i:Int):=by
 obtain⟨_,k,k1,k2,k3,k4⟩:=U1 s h;rw[k2]
 have:k=i:=by
  rcases Nat.lt_trichotomy k i with hk|hk|hk
  · exact absurd (k4 (by omega)) (h2 k hk)
  · exact hk
  · exact absurd h1 (k3 i hk)
 rw[this]
theorem bl{s p:List UInt8}{b:UInt8}(h1:b∈p)(h2:b ∉ s):¬ p <+: s:=fun h=>h2 (h.subset h1)
theorem Ci{a b:List UInt8}(h:a≠b):sEq a b=false:=by rw[B8];exact Hz.2 h
theorem U8(s:List UInt8)(h:s.length≤1048576)(h58:(58:UInt8) ∉ s)(n1:s≠Jc)(n2:s≠He)(n3:s≠FL) :
 Dm s=(bSel (BV (s,[(47:UInt8)])).2.2 (bSel (F5 (BV (s,[(47:UInt8)])).1).2 (7,(GM (BV (s,[(47:UInt8)])).2.1),0,(F5 (BV (s,[(47:UInt8)])).1).1) (6,(GM (BV (s,[(47:UInt8)])).2.1),(Js (BV (s,[(47:UInt8)])).1),0)) (bSel (BV (s,[(45:UInt8)])).2.2 (2,(GM (BV (s,[(45:UInt8)])).2.1),(Js (BV (s,[(45:UInt8)])).1),0) (2,(GM s),0,0))):=by
 have e1:sEq s [(110:UInt8),111,110,101]=false:=Ci n1
 have e2:sEq s [(112:UInt8),97,115,115]=false:=Ci n2
 have e3:sEq s [(99:UInt8),97,112,115]=false:=Ci n3
 have e4:=bD s h (fun j hj=>bl (Sp j hj) h58)
 have e5:(Ew (s,[(111:UInt8),110,99,101,58])).2=false:=by rw[(UD s _ (bl (b:=58) (by decide) h58)).2]
 have e6:iLt 4 (lLen [(3:Int),4,5,9])=false:=by rw[Ar,Ap];rfl
 rw[LQ,e1,e2,e3,e4,e5,e6]
 simp only[Bh]
theorem Cr{s t:List UInt8}{b:UInt8}(h1:b∈s)(h2:b ∉ t):s≠t:=fun e=>h2 (e▸h1)
theorem Z3(x y:List UInt8)(h:(x++47::y).length≤1048576)(h58:(58:UInt8) ∉ x++47::y)(h47:(47:UInt8) ∉ x) :
 Dm (x++47::y)=bSel (BR x).2 (7,Cv y,0,(BR x).1) (6,Cv y,DQ x,0):=by
 have hm:(47:UInt8)∈x++47::y:=by simp
 rw[U8 _ h h58 (Cr hm (by decide)) (Cr hm (by decide)) (Cr hm (by decide)),(W4 x y 47 h47 h).2,Bq]
 simp only[(ZS x).2.2,(OB y).2.2,(Of x).2.2]
theorem o7(x y:List UInt8)(h:(x++45::y).length≤1048576)(h58:(58:UInt8) ∉ x++45::y)(h47:(47:UInt8) ∉ x++45::y)(h45:(45:UInt8) ∉ x) :
 Dm (x++45::y)=(2,Cv y,DQ x,0):=by
 have hm:(45:UInt8)∈x++45::y:=by simp
 rw[U8 _ h h58 (Cr hm (by decide)) (Cr hm (by decide)) (Cr hm (by decide)),(R6 _ 47 h47).2,Bh,(W4 x y 45 h45 h).2,Bq]
 simp only[(OB y).2.2,(Of x).2.2]
theorem oh(s:List UInt8)(h:s.length≤1048576)(h58:(58:UInt8) ∉ s)(h47:(47:UInt8) ∉ s)(h45:(45:UInt8) ∉ s)(n1:s≠Jc)(n2:s≠He)(n3:s≠FL) :
 Dm s=(2,Cv s,0,0):=by
 rw[U8 s h h58 n1 n2 n3,(R6 _ 47 h47).2,Bh,(R6 _ 45 h45).2,Bh,(OB s).2.2]
theorem qa(i:Nat)(hi:i<4)(t:List UInt8)(h:(wd i++t).length≤1048576):Dm (wd i++t)=(([3,4,5,9]:List Int).getD i 0,0,0,(BR t).1):=by
 have hm:(58:UInt8)∈wd i++t:=by rw[B6];exact .inl (Sp i hi)
 have e1:sEq (wd i++t) [(110:UInt8),111,110,101]=false:=Ci (Cr hm (by decide));have e2:sEq (wd i++t) [(112:UInt8),97,115,115]=false:=Ci (Cr hm (by decide));have e3:sEq (wd i++t) [(99:UInt8),97,112,115]=false:=Ci (Cr hm (by decide))
 have e4:=qC (wd i++t) h i hi ⟨t,rfl⟩ (fun j hj hp=>by
  rcases (show i=0∨i=1∨i=2∨i=3 by omega) with rfl|rfl|rfl|rfl
  · omega
  · have:j=0:=by omega
    subst this;simp[wd] at hp
  · rcases (show j=0∨j=1 by omega) with rfl|rfl<;>simp[wd] at hp
  · rcases (show j=0∨j=1∨j=2 by omega) with rfl|rfl|rfl<;>simp[wd] at hp)
 have e6:iLt (i:Int) (lLen [(3:Int),4,5,9])=true:=by rw[Ar,Ap];exact Cq (by show (i:Int)<4;omega)
 rw[LQ,e1,e2,e3,e4,e6,AL,Bg,(SI i hi).2,(Rf (wd i) t h).2,Bq];simp only[Bh,BS,(ZS t).2.2]
theorem pe(t:List UInt8)(h:([111,110,99,101,58]++t:List UInt8).length≤1048576):Dm ([111,110,99,101,58]++t)=(8,0,DQ t,0):=by
 have hm:(58:UInt8)∈([111,110,99,101,58]++t:List UInt8):=by simp
 have e1:sEq ([111,110,99,101,58]++t) [(110:UInt8),111,110,101]=false:=Ci (Cr hm (by decide));have e2:sEq ([111,110,99,101,58]++t) [(112:UInt8),97,115,115]=false:=Ci (Cr hm (by decide));have e3:sEq ([111,110,99,101,58]++t) [(99:UInt8),97,112,115]=false:=Ci (Cr hm (by decide))
 have e4:=bD ([111,110,99,101,58]++t) h (fun j hj hp=>by
  rcases (show j=0∨j=1∨j=2∨j=3 by omega) with rfl|rfl|rfl|rfl<;>simp[wd] at hp)
 have e6:iLt 4 (lLen [(3:Int),4,5,9])=false:=by rw[Ar,Ap];rfl
 rw[LQ,e1,e2,e3,e4,e6,(Rf [111,110,99,101,58] t h).2,Bq];simp only[Bh,(Of t).2.2]
theorem cO(m:Int):BR (B3 m)=(0,false):=by
 rcases (Ra (B3 m)).2 with⟨h,_⟩|⟨n,n1,n2,_⟩
 · exact h
 · obtain⟨l1,_⟩:=MK 9 n.natAbs n1 (by decide);exfalso
   cases hl:Lib.decDigits n.natAbs with
   |nil=>rw[hl] at l1;simp at l1
   | cons b r=>
     have hb:=OW 9 n.natAbs n1 b (by rw[hl];simp)
     have hm:b∈B3 m:=by
      rw[← n2];unfold Lib.itoa;split
      · rw[hl];simp
      · rw[show n.toNat=n.natAbs by omega,hl];simp
     have:=de m b hm;simp only[BO,List.not_mem_nil,or_false] at this;rcases this with rfl|rfl|rfl|rfl<;>exact absurd hb.2 (by decide)
theorem Rv(n:Int)(h:n.natAbs<10^9):BR (Lib.itoa n)=(n,true):=by
 rcases (Ra (Lib.itoa n)).2 with⟨_,h2⟩|⟨k,k1,k2,k3⟩
 · exact absurd rfl (h2 n h)
 · rw[k3,cR k1 h k2]
theorem RI(k c m n:Int)(h:Cc (k,c,m,n)=true) :
 (k=0∧AG (k,c,m,n)=Jc)∨(k=1∧AG (k,c,m,n)=He)∨(k=10∧AG (k,c,m,n)=FL) ∨
 (k=2∧m=0∧AG (k,c,m,n)=BE c)∨(k=2∧m≠0∧AG (k,c,m,n)=B3 m++45::BE c) ∨
 (∃ i,i<4∧k=([3,4,5,9]:List Int).getD i 0∧AG (k,c,m,n)=wd i++Lib.itoa n) ∨
 (k=6∧AG (k,c,m,n)=B3 m++47::BE c)∨(k=7∧AG (k,c,m,n)=Lib.itoa n++47::BE c)∨(k=8∧AG (k,c,m,n)=[111,110,99,101,58]++B3 m):=by
 obtain⟨hk,hn⟩:=Vh k c m n h
 rw[TW,h,AB]
 have hi:k=3∨k=4∨k=5∨k=7∨k=9→De n=Lib.itoa n:=fun hk=>(Zv n (by have:=hn hk;omega)).2
 simp only[G2,Bh,CV,Bp,JM]
 rcases (show k=0∨k=1∨k=2∨k=3∨k=4∨k=5∨k=6∨k=7∨k=8∨k=9∨k=10 by omega) with rfl|rfl|rfl|rfl|rfl|rfl|rfl|rfl|rfl|rfl|rfl
 · exact .inl ⟨rfl,by simp[Jc]⟩
 · exact .inr (.inl ⟨rfl,by simp[He]⟩)
 · by_cases hm:m=0
   · exact .inr (.inr (.inr (.inl ⟨rfl,hm,by simp[hm]⟩)))
   · exact .inr (.inr (.inr (.inr (.inl ⟨rfl,hm,by simp[hm]⟩))))
 · exact .inr (.inr (.inr (.inr (.inr (.inl ⟨0,by decide,rfl,by rw[hi (by omega)];simp[wd]⟩)))))
 · exact .inr (.inr (.inr (.inr (.inr (.inl ⟨1,by decide,rfl,by rw[hi (by omega)];simp[wd]⟩)))))
 · exact .inr (.inr (.inr (.inr (.inr (.inl ⟨2,by decide,rfl,by rw[hi (by omega)];simp[wd]⟩)))))
 · exact .inr (.inr (.inr (.inr (.inr (.inr (.inl ⟨rfl,by simp⟩))))))
 · exact .inr (.inr (.inr (.inr (.inr (.inr (.inr (.inl ⟨rfl,by rw[hi (by omega)];simp⟩)))))))
 · exact .inr (.inr (.inr (.inr (.inr (.inr (.inr (.inr ⟨rfl,by simp⟩)))))))
 · exact .inr (.inr (.inr (.inr (.inr (.inl ⟨3,by decide,rfl,by rw[hi (by omega)];simp[wd]⟩)))))
 · exact .inr (.inr (.inl ⟨rfl,by simp[FL]⟩))
end
section
set_option maxRecDepth 20000
theorem O3(a:F0):(AG a).length≤20:=(GD a).2.2.2
theorem C3{b:UInt8}(hb:b∈([32,45,47,58,61,124]:List UInt8))(k:Int):b ∉ BE k:=fun h=>so k b h hb
theorem Fb{b:UInt8}(hb:b ∉ ([67,83,65,71]:List UInt8))(m:Int):b ∉ B3 m:=fun h=>hb (de m b h)
theorem KY{b:UInt8}(hb:b.toNat<48∨57<b.toNat)(n:Int)(h0:0≤n)(h1:n≤3):b ∉ Lib.itoa n:=fun h=>by
 unfold Lib.itoa at h
 rw[Ad (by omega)] at h
 have:=OW 9 n.toNat (by omega) b h
 omega
theorem Wv(c:Int)(h1:1≤c)(h2:c≤56):BE c≠[]∧BE c≠Jc∧BE c≠He∧BE c≠FL:=by
 have key:∀ w∈Cp,w≠[]∧w≠Jc∧w≠He∧w≠FL:=by decide
 have hb:=Hu c (by omega) h2;rcases UY c with h|⟨_,_,h⟩
 · exfalso;have h0:=Hu 0 (by decide) (by decide)
   have e:BE 0=[]:=by
    rcases UY 0 with h|⟨h,_⟩
    · exact h
    · omega
   rw[e] at h0;rw[h,h0] at hb;omega
 · exact key _ h
theorem Xk(a:F0)(h:Cc a=true):AG a≠[]:=by
 obtain⟨k,c,m,n⟩:=a;have hc:=RM k c m n h;rcases RI k c m n h with⟨_,e⟩|⟨_,e⟩|⟨_,e⟩|⟨h1,h2,e⟩|⟨_,_,e⟩|⟨i,hi,_,e⟩|⟨_,e⟩|⟨_,e⟩|⟨_,e⟩<;>rw[e]
 · decide
 · decide
 · decide
 · exact(Wv c (by omega) (by omega)).1
 · simp
 · have:=Sp i hi;intro h0;have:wd i=[]:=(List.append_eq_nil_iff.1 h0).1;rw[this] at *;simp_all
 · simp
 · simp
 · simp
theorem ML(m:Int)(h0:0≤m)(h1:m≤15):DQ (B3 m)=m:=by
 obtain⟨k,rfl⟩:∃ k:Nat,m=k:=⟨m.toNat,by omega⟩;exact mB (by omega)
theorem G5{b:UInt8}{x y:List UInt8}(c:UInt8)(h1:b ∉ x)(h2:b≠c)(h3:b ∉ y):b ∉ x++c::y:=by
 simp[h1,h2,h3]
theorem U6(a:F0)(h:Cc a=true):Dm (AG a)=a:=by
 obtain⟨k,c,m,n⟩:=a;have hc:=RM k c m n h;have hl:(AG (k,c,m,n)).length≤1048576:=BU (O3 _) (by decide);rcases RI k c m n h with⟨h1,e⟩|⟨h1,e⟩|⟨h1,e⟩|⟨h1,h2,e⟩|⟨h1,h2,e⟩|⟨i,hi,h1,e⟩|⟨h1,e⟩|⟨h1,e⟩|⟨h1,e⟩<;>rw[e] at hl ⊢
 · have e1:sEq Jc [(110:UInt8),111,110,101]=true:=by rw[B8];rfl
   obtain⟨rfl,rfl,rfl⟩:c=0∧m=0∧n=0:=by omega
   rw[LQ,e1,Bq,h1]
 · have e1:sEq He [(110:UInt8),111,110,101]=false:=by rw[B8];rfl
   have e2:sEq He [(112:UInt8),97,115,115]=true:=by rw[B8];rfl
   obtain⟨rfl,rfl,rfl⟩:c=0∧m=0∧n=0:=by omega
   rw[LQ,e1,e2,Bh,Bq,h1]
 · have e1:sEq FL [(110:UInt8),111,110,101]=false:=by rw[B8];rfl
   have e2:sEq FL [(112:UInt8),97,115,115]=false:=by rw[B8];rfl
   have e3:sEq FL [(99:UInt8),97,112,115]=true:=by rw[B8];rfl
   obtain⟨rfl,rfl,rfl⟩:c=0∧m=0∧n=0:=by omega
   rw[LQ,e1,e2,e3,Bh,Bh,Bq,h1]
 · obtain⟨q1,q2,q3,q4⟩:=Wv c (by omega) (by omega);rw[oh _ hl (C3 (by decide) c) (C3 (by decide) c) (C3 (by decide) c) q2 q3 q4,Hu c (by omega) (by omega)]
   obtain rfl:n=0:=by omega
   rw[h1,h2]
 · rw[o7 _ _ hl (G5 45 (Fb (by decide) m) (by decide) (C3 (by decide) c)) (G5 45 (Fb (by decide) m) (by decide) (C3 (by decide) c)) (Fb (by decide) m),Hu c (by omega) (by omega),ML m (by omega) (by omega)]
   obtain rfl:n=0:=by omega
   rw[h1]
 · have hk:c=0∧m=0∧0≤n∧n≤3:=by
    rcases (show i=0∨i=1∨i=2∨i=3 by omega) with rfl|rfl|rfl|rfl<;>(have h1:k=_:=h1;simp at h1;omega)
   obtain⟨rfl,rfl,h3,h4⟩:=hk;rw[qa i hi _ hl,Rv n (by omega),← h1]
 · rw[Z3 _ _ hl (G5 47 (Fb (by decide) m) (by decide) (C3 (by decide) c)) (Fb (by decide) m),cO,Bh,Hu c (by omega) (by omega),ML m (by omega) (by omega)]
   obtain rfl:n=0:=by omega
   rw[h1]
 · rw[Z3 _ _ hl (G5 47 (KY (by decide) n (by omega) (by omega)) (by decide) (C3 (by decide) c)) (KY (by decide) n (by omega) (by omega)),Rv n (by omega),Bq,Hu c (by omega) (by omega)]
   obtain rfl:m=0:=by omega
   rw[h1]
 · rw[pe _ hl,ML m (by omega) (by omega)]
   obtain⟨rfl,rfl⟩:c=0∧n=0:=by omega
   rw[h1]
def gS(x:List UInt8):F0:=
 bSel (sEq x [(110:UInt8),111,110,101]) (0,0,0,0) (bSel (sEq x [(112:UInt8),97,115,115]) (1,0,0,0) (bSel (sEq x [(99:UInt8),97,112,115]) (10,0,0,0)
 (bSel (iEq (lLen (Al (x,58))) 2) (Ed (8,(lGet (Al (x,58)) (iNat 0) []),(lGet (Al (x,58)) (iNat 1) [])))
 (bSel (iEq (lLen (Al (x,47))) 2) (bSel (BR (lGet (Al (x,47)) (iNat 0) [])).2 (7,Cv (lGet (Al (x,47)) (iNat 1) []),0,(BR (lGet (Al (x,47)) (iNat 0) [])).1) (6,Cv (lGet (Al (x,47)) (iNat 1) []),DQ (lGet (Al (x,47)) (iNat 0) []),0))
 (bSel (iEq (lLen (Al (x,45))) 2) (2,Cv (lGet (Al (x,45)) (iNat 1) []),DQ (lGet (Al (x,45)) (iNat 0) []),0) (2,Cv x,0,0))))))
theorem tR(x:List UInt8):E5 x=bSel (bOr (sEq x []) (sNe (AG (gS x)) x)) ((0,0,0,0),false) (gS x,true):=by
 rw[kc];unfold gS;generalize sEq x [(110:UInt8),111,110,101]=b1;generalize sEq x [(112:UInt8),97,115,115]=b2;generalize sEq x [(99:UInt8),97,112,115]=b3;generalize iEq (lLen (Al (x,58))) 2=b4;generalize iEq (lLen (Al (x,47))) 2=b5;generalize iEq (lLen (Al (x,45))) 2=b6;generalize BR (lGet (Al (x,47)) (iNat 0) [])=b7;obtain⟨n7,b7⟩:=b7;cases b1
 · cases b2
   · cases b3
     · cases b4
       · cases b5
         · cases b6<;>simp only[Bh,Bq]
         · cases b7<;>simp only[Bh,Bq]
       · simp only[Bh,Bq]
     · simp only[Bh,Bq]
   · simp only[Bh,Bq]
 · simp only[Bq]
theorem Nf{y c:UInt8}(h:y≠c):((y.toNat:Nat):Int)≠((c.toNat:Nat):Int):=fun e=>h (UInt8.toNat_inj.1 (by omega))
theorem KN{x:List UInt8}(c:UInt8)(h:c ∉ x)(hl:x.length≤1048576):Al (x,(c.toNat:Int))=[x]:=by
 rw[(Ms x _ hl).2]
 exact Mi x _ fun b hb=>Nf (c:=c) fun e=>h (e▸hb)
theorem OH{x y:List UInt8}(c:UInt8)(h1:c ∉ x)(h2:c ∉ y)(hl:(x++c::y).length≤1048576):Al (x++c::y,(c.toNat:Int))=[x,y]:=by
 rw[(Ms _ _ hl).2,OL x c y _ (fun b hb=>Nf (c:=c) fun e=>h1 (e▸hb)) rfl,Mi y _ fun b hb=>Nf (c:=c) fun e=>h2 (e▸hb)]
theorem n1(a:List UInt8):iEq (lLen [a]) 2=false:=by rw[CV,Ap];rfl
theorem n2(a b:List UInt8):iEq (lLen [a,b]) 2=true:=by rw[CV,Ap];rfl
theorem g0(a b:List UInt8):lGet [a,b] (iNat 0) []=a:=by rw[BS,AL];rfl
theorem g1(a b:List UInt8):lGet [a,b] (iNat 1) []=b:=by rw[BS,AL];rfl
theorem vF(a:F0)(h:Cc a=true):gS (AG a)=a:=by
 obtain⟨k,c,m,n⟩:=a;have hc:=RM k c m n h;have hl:(AG (k,c,m,n)).length≤1048576:=BU (O3 _) (by decide);rcases RI k c m n h with⟨h1,e⟩|⟨h1,e⟩|⟨h1,e⟩|⟨h1,h2,e⟩|⟨h1,h2,e⟩|⟨i,hi,h1,e⟩|⟨h1,e⟩|⟨h1,e⟩|⟨h1,e⟩<;>rw[e] at hl ⊢<;>unfold gS
 · have e1:sEq Jc [(110:UInt8),111,110,101]=true:=by rw[B8];rfl
   obtain⟨rfl,rfl,rfl⟩:c=0∧m=0∧n=0:=by omega
   rw[e1,Bq,h1]
 · have e1:sEq He [(110:UInt8),111,110,101]=false:=by rw[B8];rfl
   have e2:sEq He [(112:UInt8),97,115,115]=true:=by rw[B8];rfl
   obtain⟨rfl,rfl,rfl⟩:c=0∧m=0∧n=0:=by omega
   rw[e1,e2,Bh,Bq,h1]
 · have e1:sEq FL [(110:UInt8),111,110,101]=false:=by rw[B8];rfl
   have e2:sEq FL [(112:UInt8),97,115,115]=false:=by rw[B8];rfl
   have e3:sEq FL [(99:UInt8),97,112,115]=true:=by rw[B8];rfl
   obtain⟨rfl,rfl,rfl⟩:c=0∧m=0∧n=0:=by omega
   rw[e1,e2,e3,Bh,Bh,Bq,h1]
 · obtain⟨q1,q2,q3,q4⟩:=Wv c (by omega) (by omega);have s1:=KN 58 (C3 (by decide) c) hl;have s2:=KN 47 (C3 (by decide) c) hl;have s3:=KN 45 (C3 (by decide) c) hl;have q2:sEq (BE c) [(110:UInt8),111,110,101]=false:=Ci q2;have q3:sEq (BE c) [(112:UInt8),97,115,115]=false:=Ci q3;have q4:sEq (BE c) [(99:UInt8),97,112,115]=false:=Ci q4;rw[q2,q3,q4,show (58:Int)=((58:UInt8).toNat:Int) from rfl,s1,show (47:Int)=((47:UInt8).toNat:Int) from rfl,s2,show (45:Int)=((45:UInt8).toNat:Int) from rfl,s3];simp only[n1,Bh]
   obtain rfl:n=0:=by omega
   rw[Hu c (by omega) (by omega),h1,h2]
 · have hm:(45:UInt8)∈B3 m++45::BE c:=by simp
   have s1:=KN 58 (G5 45 (Fb (by decide) m) (by decide) (C3 (by decide) c)) hl;have s2:=KN 47 (G5 45 (Fb (by decide) m) (by decide) (C3 (by decide) c)) hl;have s3:=OH 45 (Fb (by decide) m) (C3 (by decide) c) hl;rw[Ci (Cr hm (by decide)),Ci (Cr hm (by decide)),Ci (Cr hm (by decide)),show (58:Int)=((58:UInt8).toNat:Int) from rfl,s1,show (47:Int)=((47:UInt8).toNat:Int) from rfl,s2,show (45:Int)=((45:UInt8).toNat:Int) from rfl,s3];simp only[n1,n2,g0,g1,Bh,Bq]
   obtain rfl:n=0:=by omega
   rw[Hu c (by omega) (by omega),ML m (by omega) (by omega),h1]
 · have hk:c=0∧m=0∧0≤n∧n≤3:=by
    rcases (show i=0∨i=1∨i=2∨i=3 by omega) with rfl|rfl|rfl|rfl<;>(have h1:k=_:=h1;simp at h1;omega)
   obtain⟨rfl,rfl,h3,h4⟩:=hk
   have hm:(58:UInt8)∈wd i++Lib.itoa n:=by rw[B6];exact .inl (Sp i hi)
   obtain⟨w,hw,hw2,hw3⟩:∃ w,wd i=w++[58]∧(58:UInt8) ∉ w∧∀ t,Ed (8,w,t)=(([3,4,5,9]:List Int).getD i 0,0,0,(BR t).1):=by
    rcases (show i=0∨i=1∨i=2∨i=3 by omega) with rfl|rfl|rfl|rfl
    · exact⟨[109,111],rfl,by decide,fun t=>by rw[N6];simp only[B8,Bp];rfl⟩
    · exact⟨[116,103],rfl,by decide,fun t=>by rw[N6];simp only[B8,Bp];rfl⟩
    · exact⟨[116,111],rfl,by decide,fun t=>by rw[N6];simp only[B8,Bp];rfl⟩
    · exact⟨[109,97,99,114,111],rfl,by decide,fun t=>by rw[N6];simp only[B8,Bp];rfl⟩
   have e0:wd i++Lib.itoa n=w++58::Lib.itoa n:=by rw[hw];simp
   have s1:=OH 58 hw2 (KY (by decide) n h3 h4) (by rw[← e0];exact hl);rw[Ci (Cr hm (by decide)),Ci (Cr hm (by decide)),Ci (Cr hm (by decide)),e0,show (58:Int)=((58:UInt8).toNat:Int) from rfl,s1];simp only[n2,g0,g1,Bh,Bq,hw3,Rv n (show n.natAbs<10^9 by omega)];rw[← h1]
 · have hm:(47:UInt8)∈B3 m++47::BE c:=by simp
   have s1:=KN 58 (G5 47 (Fb (by decide) m) (by decide) (C3 (by decide) c)) hl;have s2:=OH 47 (Fb (by decide) m) (C3 (by decide) c) hl;rw[Ci (Cr hm (by decide)),Ci (Cr hm (by decide)),Ci (Cr hm (by decide)),show (58:Int)=((58:UInt8).toNat:Int) from rfl,s1,show (47:Int)=((47:UInt8).toNat:Int) from rfl,s2];simp only[n1,n2,g0,g1,Bh,Bq,cO]
   obtain rfl:n=0:=by omega
   rw[Hu c (by omega) (by omega),ML m (by omega) (by omega),h1]
 · have hm:(47:UInt8)∈Lib.itoa n++47::BE c:=by simp
   have s1:=KN 58 (G5 47 (KY (by decide) n (by omega) (by omega)) (by decide) (C3 (by decide) c)) hl;have s2:=OH 47 (KY (by decide) n (by omega) (by omega)) (C3 (by decide) c) hl;rw[Ci (Cr hm (by decide)),Ci (Cr hm (by decide)),Ci (Cr hm (by decide)),show (58:Int)=((58:UInt8).toNat:Int) from rfl,s1,show (47:Int)=((47:UInt8).toNat:Int) from rfl,s2];simp only[n1,n2,g0,g1,Bh,Bq,Rv n (show n.natAbs<10^9 by omega)]
   obtain rfl:m=0:=by omega
   rw[Hu c (by omega) (by omega),h1]
 · have hm:(58:UInt8)∈([111,110,99,101,58]++B3 m:List UInt8):=by simp
   have e0:([111,110,99,101,58]++B3 m:List UInt8)=[111,110,99,101]++58::B3 m:=rfl;have s1:=OH (x:=[111,110,99,101]) 58 (by decide) (Fb (b:=58) (by decide) m) (by rw[← e0];exact hl);rw[Ci (Cr hm (by decide)),Ci (Cr hm (by decide)),Ci (Cr hm (by decide)),e0,show (58:Int)=((58:UInt8).toNat:Int) from rfl,s1];simp only[n2,g0,g1,Bh,Bq]
   obtain⟨rfl,rfl⟩:c=0∧n=0:=by omega
   rw[N6];simp only[B8,Bp,ML m (by omega) (by omega)];rw[h1];rfl
theorem uY(a:F0)(h:Cc a=false):AG a=[]:=by
 rw[TW,h,AB,Bool.not_false,Bq]
theorem lO(s:List UInt8)(h:s.length≤1048576):NK s:=by
 have pm:∀ x,Kv x:=fun x=>(Of x).1
 have co:∀ x,Jv x:=fun x=>(OB x).1
 have pi:∀ x,Ky x:=fun x=>(Ra x).1
 have fa:∀ x,LP x:=fun x=>(GD x).1
 have sp:∀ c:Int,Iu (s,c):=fun c=>(Ms s c h).1
 have l5:∀ x,Q2 x:=fun x=>by
  rw[mu];exact⟨pi _,fun _=>trivial,fun _=>⟨fun _=>trivial,fun _=>⟨fun _=>trivial,fun _=>⟨fun _=>trivial,fun _=>pm _⟩⟩⟩⟩
 have two:∀ l:List (List UInt8),iEq (lLen l) 2=true→l.length=2:=fun l hl=>by
  rw[CV,Ap,A6] at hl;omega
 rw[jH];refine⟨co _,sp _,sp _,sp _,⟨fun _=>trivial,fun _=>⟨fun _=>trivial,fun _=>⟨fun _=>trivial,fun _=>⟨fun hl=>?_,fun _=>⟨fun hl=>?_,fun _=>⟨fun hl=>?_,fun _=>trivial⟩⟩⟩⟩⟩⟩,fun _=>trivial,fun _=>fa _⟩
 · have:=two _ hl;simp only[AL];exact⟨⟨by omega,by omega⟩,by show 0<_;omega,⟨by omega,by omega⟩,by show 1<_;omega,l5 _⟩
 · have:=two _ hl;simp only[AL];exact⟨⟨by omega,by omega⟩,by show 0<_;omega,pi _,⟨by omega,by omega⟩,by show 1<_;omega,⟨by omega,by omega⟩,by show 0<_;omega,co _,pm _,fun _=>⟨⟨by omega,by omega⟩,by show 1<_;omega,co _⟩,fun _=>trivial⟩
 · have:=two _ hl;simp only[AL];exact⟨⟨by omega,by omega⟩,by show 1<_;omega,⟨by omega,by omega⟩,by show 0<_;omega,co _,pm _⟩
theorem L6(s:List UInt8)(h:s.length≤1048576):NK s∧LS s∧Ir s=E5 s ∧
 ((∃ a:F0,Cc a=true∧AG a=s∧E5 s=(a,true))∨((∀ a:F0,Cc a=true→AG a≠s)∧E5 s=((0,0,0,0),false))):=by
 refine⟨lO s h,mO s h,?_⟩
 rw[tR,jR,← Ov,(GD _).2.2.1]
 by_cases hx:∃ a:F0,Cc a=true∧AG a=s
 · obtain⟨a,a1,rfl⟩:=hx
   have e1:sEq (AG a) []=false:=Ci (Xk a a1)
   have e2:sNe (AG a) (AG a)=false:=by rw[JT];simp
   rw[vF a a1,U6 a a1,a1,e1,e2,AB,Ca,Ca,G2,Bool.or_false,Bh];exact⟨rfl,.inl ⟨a,a1,rfl,rfl⟩⟩
 · have no:∀ a:F0,Cc a=true→AG a≠s:=fun a h1 h2=>hx ⟨a,h1,h2⟩
   have e1:bOr (sEq s []) (sNe (AG (gS s)) s)=true:=by
    rw[Ca,B8,JT];by_cases hs:s=[]
    · subst hs;rfl
    · have:AG (gS s)≠s:=by
       cases hv:Cc (gS s) with
       |true=>exact no _ hv
       |false=>rw[uY _ hv];exact FG hs
      simp[this]
   have e2:bOr (bNot (Cc (Dm s))) (sNe (AG (Dm s)) s)=true:=by
    rw[Ca,AB,JT]
    cases hv:Cc (Dm s) with
    |true=>simp[no _ hv]
    |false=>rfl
   rw[e1,e2,Bq,Bq];exact⟨rfl,.inr ⟨no,rfl⟩⟩
end
section
set_option maxRecDepth 20000
theorem Hv(w:List UInt8)(l:List (List UInt8))(sep:List UInt8)(h:l≠[]):AQ (w::l) sep=w++(sep++AQ l sep):=by
 cases l with
 |nil=>exact absurd rfl h
 |cons a r=>simp[AQ,List.intercalate,List.intersperse]
theorem UG(b:UInt8):∀ (l:List (List UInt8)),l≠[]→(∀ w∈l,b ∉ w)→A4 (AQ l [b]) (b.toNat:Int)=l
 |[],h,_=>absurd rfl h
 | [a],_,h=>by
   have ha:=h a (by simp)
   have e:AQ [a] [b]=a:=by simp[AQ,List.intercalate]
   rw[e]
   exact Mi a _ fun y hy=>Nf (c:=b) fun e=>ha (e▸hy)
 | a::c::r,_,h=>by
   have ha:=h a (by simp);have i:=UG b (c::r) (by simp) (fun w hw=>h w (by simp[hw]));rw[Hv _ _ _ (by simp)];show A4 (a++b::AQ (c::r) [b]) _=_;rw[OL a b _ _ (fun y hy=>Nf (c:=b) fun e=>ha (e▸hy)) rfl,i]
theorem Pr(a:F0)(h:Cc a=true){b:UInt8}(hb:b∈([32,61,124]:List UInt8)):b ∉ AG a:=by
 obtain⟨k,c,m,n⟩:=a;have hc:=RM k c m n h
 have hb1:b∈([32,45,47,58,61,124]:List UInt8):=by
  simp only[BO,List.not_mem_nil,or_false] at hb ⊢;rcases hb with rfl|rfl|rfl<;>decide
 have hb2:b ∉ ([67,83,65,71]:List UInt8):=by
  simp only[BO,List.not_mem_nil,or_false] at hb;rcases hb with rfl|rfl|rfl<;>decide
 have hb3:b.toNat<48∨57<b.toNat:=by
  simp only[BO,List.not_mem_nil,or_false] at hb;rcases hb with rfl|rfl|rfl<;>decide
 have hb4:b≠45∧b≠47:=by
  simp only[BO,List.not_mem_nil,or_false] at hb;rcases hb with rfl|rfl|rfl<;>decide
 have hb5:b ∉ Jc∧b ∉ He∧b ∉ FL∧b ∉ ([111,110,99,101,58]:List UInt8)∧∀ i,i<4→b ∉ wd i:=by
  simp only[BO,List.not_mem_nil,or_false] at hb;rcases hb with rfl|rfl|rfl<;>(refine⟨by decide,by decide,by decide,by decide,fun i hi=>?_⟩;rcases (show i=0∨i=1∨i=2∨i=3 by omega) with rfl|rfl|rfl|rfl<;>decide)
 rcases RI k c m n h with⟨h1,e⟩|⟨h1,e⟩|⟨h1,e⟩|⟨h1,h2,e⟩|⟨h1,h2,e⟩|⟨i,hi,h1,e⟩|⟨h1,e⟩|⟨h1,e⟩|⟨h1,e⟩<;>rw[e]
 · exact hb5.1
 · exact hb5.2.1
 · exact hb5.2.2.1
 · exact C3 hb1 c
 · exact G5 45 (Fb hb2 m) hb4.1 (C3 hb1 c)
 · have hn:0≤n∧n≤3:=by
    rcases (show i=0∨i=1∨i=2∨i=3 by omega) with rfl|rfl|rfl|rfl<;>(have h1:k=_:=h1;simp at h1;omega)
   rw[B6];rintro(q|q)
   · exact hb5.2.2.2.2 i hi q
   · exact KY hb3 n hn.1 hn.2 q
 · exact G5 47 (Fb hb2 m) hb4.2 (C3 hb1 c)
 · exact G5 47 (KY hb3 n (by omega) (by omega)) hb4.2 (C3 hb1 c)
 · rw[B6];rintro(q|q)
   · exact hb5.2.2.2.1 q
   · exact Fb hb2 m q
theorem YG(a:F0)(h:Cc a=true):LS (Jo a)∧Ir (Jo a)=(a,true):=by
 rw[(GD a).2.2.1];obtain⟨_,o2,e,hh⟩:=L6 (AG a) (BU (O3 _) (by decide));refine⟨o2,?_⟩;rw[e];rcases hh with⟨b,b1,b2,b3⟩|⟨no,_⟩
 · rw[b3,← U6 b b1,b2,U6 a h]
 · exact absurd rfl (no a h)
end
section
set_option maxRecDepth 8000
def jf:DCode:=(.seq [1] (.region [oa 0 1 (.boxB 0 2 (.t 0)),oa 1 2 (.mv (.c (.str [])))]) (.seq [1] (.seq [11,1] (.region [oa 0 9 (.loadB 0 (some 2) (.t 1)),oF 1 10 GH [(.t 9)],oa 2 11 (.un .not (.t 10))]) (.cond (.t 11) (.seq [2] (.region [oa 0 2 (.mv (.c (.str [])))]) .ret) .skip)) (.seq [3,1] (.region [oa 0 3 (.mv (.c .nils))]) (.seq [3] (.seq [15,14,13,3] (.region [oa 0 12 (.fieldA 1 (.t 1)),oa 1 13 (.loadB 0 none (.t 12)),oa 2 14 (.len (.t 13)),oi 3 15 0]) (.block 0 (.loop [3,13,14,15] 1 (.seq [16,15,14,13,3] (.region [oa 0 16 (.bin .lss (.t 15) (.t 14))]) (.seq [15,14,13,3] (.cond (.t 16) .skip (.exit 0)) (.seq [15,14,13,3] (.block 1 (.seq [15,14,13,5,3] (.region [oa 0 17 (.indexA 1 (.t 13) (.t 15)),oa 1 18 (.loadH none (.t 17)),on 2 5 18]) (.seq [15,14,13,6,5,3] (.region [oa 0 6 (.mv (.c .nils))]) (.seq [15,14,13,6,3] (.seq [21,20,19,15,14,13,6,3] (.region [on 0 19 5,oa 1 20 (.len (.t 19)),oi 2 21 0]) (.block 2 (.loop [3,6,13,14,15,19,20,21] 1 (.seq [22,21,20,19,15,14,13,6,3] (.region [oa 0 22 (.bin .lss (.t 21) (.t 20))]) (.seq [21,20,19,15,14,13,6,3] (.cond (.t 22) .skip (.exit 2)) (.seq [21,20,19,15,14,13,6,3] (.block 3 (.seq [21,20,19,15,14,13,8,6,3] (.region [oa 0 23 (.indexA 4 (.t 19) (.t 21)),ob 1 24 (.loadH (some 4) (.t 23)),oa 2 8 (.allocB 1 [(.int .i64 0),(.int .i64 0),(.int .i64 0),(.int .i64 0)]),os 3 (.storeB 1 4 (.t 8) (.t 24))]) (.region [om 0 25 6,oa 1 26 (.loadB 1 (some 4) (.t 8)),oF 2 27 Fq [(.t 26)],⟨3,some 28,.a false (.litSlice 1 1 [(.str [])] [(0,1,(.t 27))]) (some (.one (.str))),none,[]⟩,oa 4 29 (.app 1 (.t 25) (.t 28)),om 5 6 29]))) (.region [oa 0 30 (.bin .add (.t 21) (.c (.int .i64 1))),om 1 21 30]))))))) (.region [om 0 31 3,on 1 32 6,oF 2 33 GG [(.t 32),(.c (.str [32]))],⟨3,some 34,.a false (.litSlice 1 1 [(.str [])] [(0,1,(.t 33))]) (some (.one (.str))),none,[]⟩,oa 4 35 (.app 1 (.t 31) (.t 34)),om 5 3 35]))))) (.region [oa 0 36 (.bin .add (.t 15) (.c (.int .i64 1))),om 1 15 36]))))))) (.seq [2] (.region [on 0 37 3,oF 1 38 GG [(.t 37),(.c (.str [32,124,32]))],om 2 2 38]) .ret)))))
def Gw:Fn:=⟨⟨1,39,2,true,[.tmp 2],jf⟩,[.agg [(.frz,.int .i64),(.frz,.sl (.one (.sl AR)))]],.one (.one .own (.str))⟩
theorem jg:Gw.A:=Be ⟨YU,Yi,YK,YK,trivial⟩
def F4:Int×(List (List (Int×Int×Int×Int)))→List UInt8:=Gw.V
def NH:Int×(List (List (Int×Int×Int×Int)))→Prop:=Gw.O
theorem jo:Gw.B:=Bj ⟨YM,Yj,YL,YL,trivial⟩ (by kernel_rfl) (fun x=>by kernel_rfl)
end
section
set_option maxRecDepth 100000
def Kr(x:Int×(List (List (Int×Int×Int×Int))))(x0:((List (List UInt8))×Int)):Bool:=(bAnd (iLt x0.2 (lLen x.2)) (KE x))
def Ks(x:Int×(List (List (Int×Int×Int×Int))))(x1:((List (List UInt8))×Int)):Bool:=(iLt x1.2 x.1)
def Ko(x:Int×(List (List (Int×Int×Int×Int))))(x0:((List (List UInt8))×Int))(x1:((List (List UInt8))×Int)):((List (List UInt8))×Int):=((lApp x1.1 [(AG (lGet (lGet x.2 (iNat x0.2) []) (iNat x1.2) (0,0,0,0)))]),(iAdd .i64 x1.2 1))
def LM(x:Int×(List (List (Int×Int×Int×Int))))(x0:((List (List UInt8))×Int)):((List (List UInt8))×Int):=((lApp x0.1 [(KD ((Am (Ks x) (Ko x x0) ([],0)).1,[(32:UInt8)]))]),(iAdd .i64 x0.2 1))
def TU(x:Int×(List (List (Int×Int×Int×Int))))(x0:((List (List UInt8))×Int))(x1:((List (List UInt8))×Int)):Prop:=(((iLt x1.2 x.1)=true→((((0:Int)≤x0.2)∧(x0.2<(((List.length x.2):Int))))∧(((iNat x0.2)<(List.length x.2))∧((((0:Int)≤x1.2)∧(x1.2<(((List.length (lGet x.2 (iNat x0.2) [])):Int))))∧(((iNat x1.2)<(List.length (lGet x.2 (iNat x0.2) [])))∧((LP (lGet (lGet x.2 (iNat x0.2) []) (iNat x1.2) (0,0,0,0)))∧(AW (((List.length x1.1)+(List.length [(AG (lGet (lGet x.2 (iNat x0.2) []) (iNat x1.2) (0,0,0,0)))]))*1))))))))∧((iLt x1.2 x.1)=false→True))
def NC(x:Int×(List (List (Int×Int×Int×Int))))(x0:((List (List UInt8))×Int)):Prop:=((((iLt x0.2 (lLen x.2))=true→(NY x))∧((iLt x0.2 (lLen x.2))=false→True))∧(((bAnd (iLt x0.2 (lLen x.2)) (KE x))=true→((LoopOk (Ks x) (Ko x x0) (TU x x0) ([],0))∧((L4 ((Am (Ks x) (Ko x x0) ([],0)).1,[(32:UInt8)]))∧(AW (((List.length x0.1)+(List.length [(KD ((Am (Ks x) (Ko x x0) ([],0)).1,[(32:UInt8)]))]))*1)))))∧((bAnd (iLt x0.2 (lLen x.2)) (KE x))=false→True)))
@[irreducible] def Yq(x:Int×(List (List (Int×Int×Int×Int)))):List UInt8:=(KD ((Am (Kr x) (LM x) ([],0)).1,[(32:UInt8),124,32]))
@[irreducible] def Ym(x:Int×(List (List (Int×Int×Int×Int)))):Prop:=((LoopOk (Kr x) (LM x) (NC x) ([],0))∧(L4 ((Am (Kr x) (LM x) ([],0)).1,[(32:UInt8),124,32])))
def NA(x:Int×(List (List (Int×Int×Int×Int))))(x0:((List (List UInt8))×Int)):Bool:=(iLt x0.2 (lLen x.2))
def Km(x:Int×(List (List (Int×Int×Int×Int))))(x0:((List (List UInt8))×Int))(x1:((List (List UInt8))×Int)):Bool:=(iLt x1.2 (lLen (lGet x.2 (iNat x0.2) [])))
def Kq(x:Int×(List (List (Int×Int×Int×Int))))(x0:((List (List UInt8))×Int))(x1:((List (List UInt8))×Int)):((List (List UInt8))×Int):=((lApp x1.1 [(Jo (lGet (lGet x.2 (iNat x0.2) []) (iNat x1.2) (0,0,0,0)))]),(iAdd .i64 x1.2 1))
def NB(x:Int×(List (List (Int×Int×Int×Int))))(x0:((List (List UInt8))×Int)):((List (List UInt8))×Int):=((lApp x0.1 [(KG ((Am (Km x x0) (Kq x x0) ([],0)).1,[(32:UInt8)]))]),(iAdd .i64 x0.2 1))
def TV(x:Int×(List (List (Int×Int×Int×Int))))(x0:((List (List UInt8))×Int))(x1:((List (List UInt8))×Int)):Prop:=(((iLt x1.2 (lLen (lGet x.2 (iNat x0.2) [])))=true→((((0:Int)≤x1.2)∧(x1.2<(((List.length (lGet x.2 (iNat x0.2) [])):Int))))∧(((iNat x1.2)<(List.length (lGet x.2 (iNat x0.2) [])))∧((NG (lGet (lGet x.2 (iNat x0.2) []) (iNat x1.2) (0,0,0,0)))∧(AW (((List.length x1.1)+(List.length [(Jo (lGet (lGet x.2 (iNat x0.2) []) (iNat x1.2) (0,0,0,0)))]))*1))))))∧((iLt x1.2 (lLen (lGet x.2 (iNat x0.2) [])))=false→True))
def TT(x:Int×(List (List (Int×Int×Int×Int))))(x0:((List (List UInt8))×Int)):Prop:=(((iLt x0.2 (lLen x.2))=true→((((0:Int)≤x0.2)∧(x0.2<(((List.length x.2):Int))))∧(((iNat x0.2)<(List.length x.2))∧((LoopOk (Km x x0) (Kq x x0) (TV x x0) ([],0))∧((L5 ((Am (Km x x0) (Kq x x0) ([],0)).1,[(32:UInt8)]))∧(AW (((List.length x0.1)+(List.length [(KG ((Am (Km x x0) (Kq x x0) ([],0)).1,[(32:UInt8)]))]))*1)))))))∧((iLt x0.2 (lLen x.2))=false→True))
theorem jx (x):F4 x=(bSel (bNot (E6 x)) [] (KG ((Am (NA x) (NB x) ([],0)).1,[(32:UInt8),124,32]))):=(Gw.v x).trans (by kernel_rfl)
theorem jt (x):NH x=((NZ x)∧(((bNot (E6 x))=true→True)∧((bNot (E6 x))=false→((LoopOk (NA x) (NB x) (TT x) ([],0))∧(L5 ((Am (NA x) (NB x) ([],0)).1,[(32:UInt8),124,32])))))):=(Gw.o x).trans (by kernel_rfl)
attribute [irreducible] F4 NH
end
section
set_option maxRecDepth 8000
def jY:DCode:=(.seq [2,0] (.region [oa 0 2 (.allocB 0 [(.int .i64 0),.nils]),oa 1 3 (.mv (.c (.bool false)))]) (.seq [4,2,0] (.region [oa 0 4 (.allocB 1 [(.int .i64 0),.nils])]) (.seq [4,2,0] (.seq [15,14,13,4,2,0] (.region [om 0 12 0,oc 1 13 ID KF QU [(.t 12),(.c (.str [32,124,32]))],oa 2 14 (.len (.t 13)),oi 3 15 0]) (.block 0 (.loop [0,2,4,13,14,15] 1 (.seq [16,15,14,13,4,2,0] (.region [oa 0 16 (.bin .lss (.t 15) (.t 14))]) (.seq [15,14,13,4,2,0] (.cond (.t 16) .skip (.exit 0)) (.seq [15,14,13,4,2,0] (.block 1 (.seq [15,14,13,6,4,2,0] (.region [oa 0 17 (.indexA 1 (.t 13) (.t 15)),oa 1 18 (.loadH none (.t 17)),om 2 6 18]) (.seq [15,14,13,7,6,4,2,0] (.region [oa 0 7 (.mv (.c .nils))]) (.seq [15,14,13,7,4,2,0] (.seq [22,21,20,15,14,13,7,4,2,0] (.region [om 0 19 6,oF 1 20 Iw [(.t 19),(.c (.int .u8 32))],oa 2 21 (.len (.t 20)),oi 3 22 0]) (.block 2 (.loop [0,2,4,7,13,14,15,20,21,22] 1 (.seq [23,22,21,20,15,14,13,7,4,2,0] (.region [oa 0 23 (.bin .lss (.t 22) (.t 21))]) (.seq [22,21,20,15,14,13,7,4,2,0] (.cond (.t 23) .skip (.exit 2)) (.seq [22,21,20,15,14,13,7,4,2,0] (.block 3 (.seq [22,21,20,15,14,13,9,7,4,2,0] (.region [oa 0 24 (.indexA 1 (.t 20) (.t 22)),oa 1 25 (.loadH none (.t 24)),om 2 9 25]) (.seq [22,21,20,15,14,13,11,10,7,4,2,0] (.region [om 0 27 9,oF 1 28 Iq [(.t 27)],om 2 26 28,oa 3 29 (.extract (.t 26) 0),oa 4 30 (.extract (.t 26) 1),oa 5 10 (.allocB 2 [(.int .i64 0),(.int .i64 0),(.int .i64 0),(.int .i64 0)]),os 6 (.storeB 2 4 (.t 10) (.t 29)),om 7 11 30]) (.seq [22,21,20,15,14,13,10,7,4,2,0] (.seq [43,22,21,20,15,14,13,10,7,4,2,0] (.region [om 0 31 11,oa 1 32 (.un .not (.t 31)),om 2 33 32,⟨3,some 34,.a true (.mv (.t 7)) none,(some (33,false)),[]⟩,og 4 35 (.len (.t 34)) 33 false,og 5 36 (.bin .geq (.t 35) (.c (.int .i64 32))) 33 false,oa 6 37 (.pick (.t 33) (.c (.bool true)) (.t 36)),om 7 38 37,og 8 39 (.fieldA 1 (.t 4)) 38 false,og 9 40 (.loadB 1 none (.t 39)) 38 false,og 10 41 (.len (.t 40)) 38 false,og 11 42 (.bin .geq (.t 41) (.c (.int .i64 4))) 38 false,oa 12 43 (.pick (.t 38) (.c (.bool true)) (.t 42))]) (.cond (.t 43) (.seq [3,2] (.region [oa 0 44 (.build [(.int .i64 0),.nils] []),os 1 (.storeB 0 2 (.t 2) (.t 44)),oa 2 3 (.mv (.c (.bool false)))]) .ret) .skip)) (.region [om 0 45 7,ob 1 46 (.loadB 2 (some 4) (.t 10)),⟨2,some 47,.a false (.litSlice 4 1 [(.int .i64 0),(.int .i64 0),(.int .i64 0),(.int .i64 0)] [(0,4,(.t 46))]) (some AR),none,[]⟩,oa 3 48 (.app 4 (.t 45) (.t 47)),om 4 7 48]))))) (.region [oa 0 49 (.bin .add (.t 22) (.c (.int .i64 1))),om 1 22 49]))))))) (.seq [15,14,13,7,4,2,0] (.region [on 0 50 7,oa 1 51 (.len (.t 50)),oa 2 52 (.fieldA 0 (.t 4)),os 3 (.storeB 1 1 (.t 52) (.t 51))]) (.region [oa 0 53 (.fieldA 1 (.t 4)),ob 1 54 (.loadB 1 none (.t 53)),om 2 55 7,⟨3,some 56,.a false (.litSlice 1 1 [.nils] [(0,1,(.t 55))]) (some (.one (.sl AR))),none,[]⟩,oa 4 57 (.app 1 (.t 54) (.t 56)),oa 5 58 (.fieldA 1 (.t 4)),os 6 (.storeB 1 1 (.t 58) (.t 57))])))))) (.region [oa 0 59 (.bin .add (.t 15) (.c (.int .i64 1))),om 1 15 59]))))))) (.seq [4,2] (.seq [68,4,2] (.region [oa 0 60 (.loadB 1 (some 2) (.t 4)),oF 1 61 GH [(.t 60)],oa 2 62 (.un .not (.t 61)),om 3 63 62,og 4 64 (.loadB 1 (some 2) (.t 4)) 63 false,⟨5,some 65,.call false Gw.S Gw.P Gw.D [(.t 64)],(some (63,false)),[]⟩,og 6 66 (.mv (.t 0)) 63 false,og 7 67 (.bin .neq (.t 65) (.t 66)) 63 false,oa 8 68 (.pick (.t 63) (.c (.bool true)) (.t 67))]) (.cond (.t 68) (.seq [3,2] (.region [oa 0 69 (.build [(.int .i64 0),.nils] []),os 1 (.storeB 0 2 (.t 2) (.t 69)),oa 2 3 (.mv (.c (.bool false)))]) .ret) .skip)) (.seq [3,2] (.region [ob 0 70 (.loadB 1 (some 2) (.t 4)),os 1 (.storeB 0 2 (.t 2) (.t 70)),oa 2 3 (.mv (.c (.bool true)))]) .ret)))))
def Gz:Fn:=⟨⟨1,71,3,false,[.cell 2 (some 2),.tmp 3],jY⟩,[.one .frz (.str)],.tup [.agg [(.own,.int .i64),(.own,.sl (.one (.sl AR)))],.one .own (.bool)]⟩
theorem Yn:Gz.A:=Be ⟨Uj,kS,jF,YU,jg,trivial⟩
def Bl:List UInt8→(Int×(List (List (Int×Int×Int×Int))))×Bool:=Gz.V
def LR:List UInt8→Prop:=Gz.O
theorem Yo:Gz.B:=Bj ⟨Uf,kK,j9,YM,jo,trivial⟩ (by kernel_rfl) (fun x=>by kernel_rfl)
end
section
set_option maxRecDepth 100000
def DK(x:List UInt8)(x0:(Int×(Int×(List (List (Int×(Int×(Int×Int))))))))(x1:((List (Int×(Int×(Int×Int))))×Int)):Bool:=(bAnd (iLt x1.2 (lLen (Dp ((lGet (Bo (x,[(32:UInt8),124,32])) (iNat x0.1) []),32)))) (bNot (bOr (bNot (Ir (lGet (Dp ((lGet (Bo (x,[(32:UInt8),124,32])) (iNat x0.1) []),32)) (iNat x1.2) [])).2) (bOr (iGe (lLen x1.1) 32) (iGe (lLen x0.2.2) 4)))))
def D9(x:List UInt8)(x0:(Int×(Int×(List (List (Int×(Int×(Int×Int))))))))(x1:((List (Int×(Int×(Int×Int))))×Int)):((List (Int×(Int×(Int×Int))))×Int):=((lApp x1.1 [(Ir (lGet (Dp ((lGet (Bo (x,[(32:UInt8),124,32])) (iNat x0.1) []),32)) (iNat x1.2) [])).1]),(iAdd .i64 x1.2 1))
def DN(x:List UInt8)(x0:(Int×(Int×(List (List (Int×(Int×(Int×Int)))))))):Bool:=(bAnd (iLt x0.1 (lLen (Bo (x,[(32:UInt8),124,32])))) (bNot (iLt (Am (DK x x0) (D9 x x0) ([],0)).2 (lLen (Dp ((lGet (Bo (x,[(32:UInt8),124,32])) (iNat x0.1) []),32))))))
def Eb(x:List UInt8)(x0:(Int×(Int×(List (List (Int×(Int×(Int×Int)))))))):(Int×(Int×(List (List (Int×(Int×(Int×Int))))))):=((iAdd .i64 x0.1 1),(lLen (Am (DK x x0) (D9 x x0) ([],0)).1),(lApp x0.2.2 [(Am (DK x x0) (D9 x x0) ([],0)).1]))
def Jn(x:List UInt8)(x0:(Int×(Int×(List (List (Int×(Int×(Int×Int))))))))(x1:((List (Int×(Int×(Int×Int))))×Int)):Prop:=(((iLt x1.2 (lLen (Dp ((lGet (Bo (x,[(32:UInt8),124,32])) (iNat x0.1) []),32))))=true→((((0:Int)≤x1.2)∧(x1.2<(((List.length (Dp ((lGet (Bo (x,[(32:UInt8),124,32])) (iNat x0.1) []),32))):Int))))∧(((iNat x1.2)<(List.length (Dp ((lGet (Bo (x,[(32:UInt8),124,32])) (iNat x0.1) []),32))))∧((LS (lGet (Dp ((lGet (Bo (x,[(32:UInt8),124,32])) (iNat x0.1) []),32)) (iNat x1.2) []))∧(((bOr (bNot (Ir (lGet (Dp ((lGet (Bo (x,[(32:UInt8),124,32])) (iNat x0.1) []),32)) (iNat x1.2) [])).2) (bOr (iGe (lLen x1.1) 32) (iGe (lLen x0.2.2) 4)))=true→True)∧((bOr (bNot (Ir (lGet (Dp ((lGet (Bo (x,[(32:UInt8),124,32])) (iNat x0.1) []),32)) (iNat x1.2) [])).2) (bOr (iGe (lLen x1.1) 32) (iGe (lLen x0.2.2) 4)))=false→(AW (((List.length x1.1)+(List.length [(Ir (lGet (Dp ((lGet (Bo (x,[(32:UInt8),124,32])) (iNat x0.1) []),32)) (iNat x1.2) [])).1]))*4))))))))∧((iLt x1.2 (lLen (Dp ((lGet (Bo (x,[(32:UInt8),124,32])) (iNat x0.1) []),32))))=false→True))
def LN(x:List UInt8)(x0:(Int×(Int×(List (List (Int×(Int×(Int×Int)))))))):Prop:=(((iLt x0.1 (lLen (Bo (x,[(32:UInt8),124,32]))))=true→((((0:Int)≤x0.1)∧(x0.1<(((List.length (Bo (x,[(32:UInt8),124,32]))):Int))))∧(((iNat x0.1)<(List.length (Bo (x,[(32:UInt8),124,32]))))∧((NT ((lGet (Bo (x,[(32:UInt8),124,32])) (iNat x0.1) []),32))∧((LoopOk (DK x x0) (D9 x x0) (Jn x x0) ([],0))∧(((iLt (Am (DK x x0) (D9 x x0) ([],0)).2 (lLen (Dp ((lGet (Bo (x,[(32:UInt8),124,32])) (iNat x0.1) []),32))))=true→True)∧((iLt (Am (DK x x0) (D9 x x0) ([],0)).2 (lLen (Dp ((lGet (Bo (x,[(32:UInt8),124,32])) (iNat x0.1) []),32))))=false→(AW (((List.length x0.2.2)+(List.length [(Am (DK x x0) (D9 x x0) ([],0)).1]))*1)))))))))∧((iLt x0.1 (lLen (Bo (x,[(32:UInt8),124,32]))))=false→True))
theorem Yu (x):Bl x=(bSel (iLt (Am (DN x) (Eb x) (0,0,[])).1 (lLen (Bo (x,[(32:UInt8),124,32])))) ((0,[]),false) (bSel (bOr (bNot (E6 (Am (DN x) (Eb x) (0,0,[])).2)) (sNe (F4 (Am (DN x) (Eb x) (0,0,[])).2) x)) ((0,[]),false) ((Am (DN x) (Eb x) (0,0,[])).2,true))):=(Gz.v x).trans (by kernel_rfl)
theorem Yr (x):LR x=((Ix (x,[(32:UInt8),124,32]))∧((LoopOk (DN x) (Eb x) (LN x) (0,0,[]))∧(((iLt (Am (DN x) (Eb x) (0,0,[])).1 (lLen (Bo (x,[(32:UInt8),124,32]))))=true→True)∧((iLt (Am (DN x) (Eb x) (0,0,[])).1 (lLen (Bo (x,[(32:UInt8),124,32]))))=false→((NZ (Am (DN x) (Eb x) (0,0,[])).2)∧(((bNot (E6 (Am (DN x) (Eb x) (0,0,[])).2))=true→True)∧((bNot (E6 (Am (DN x) (Eb x) (0,0,[])).2))=false→(NH (Am (DN x) (Eb x) (0,0,[])).2)))))))):=(Gz.o x).trans (by kernel_rfl)
attribute [irreducible] Bl LR
end
section
set_option maxRecDepth 20000
theorem R9 {α:Type} {c:List (List UInt8)×Int→Bool} {f:List (List UInt8)×Int→List (List UInt8)×Int} {p:List (List UInt8)×Int→Prop} (l:List α) (d:α) (g:α→List UInt8) (hl:l.length≤1048576)
 (hc:∀ (s:List (List UInt8)) (i:Nat),i≤l.length→c (s,(i:Int))=decide (i<l.length)) (hf:∀ (s:List (List UInt8)) (i:Nat),i<l.length→f (s,(i:Int))=(lApp s [g (l.getD i d)],iAdd .i64 (i:Int) 1))
 (hp:∀ (s:List (List UInt8)) (i:Nat),s.length=i→i≤l.length→p (s,(i:Int))):LoopOk c f p ([],0)∧Am c f ([],0)=(l.map g,(l.length:Int)):=by
 have:=Eg (c:=c) (f:=f) (p:=p) l.length (fun k=>((l.take k).map g,(k:Int))) (x0:=([],0)) (by simp) (fun k hk=>by
  refine⟨hp _ k (by simp;omega) (by omega),by rw[hc _ k (by omega)];simpa using hk,?_⟩;rw[hf _ k hk,FH,Cx (by unfold A5;omega),← RL l d hk,EU]
  rfl) ⟨hp _ _ (by simp) (AH _),by rw[hc _ _ (AH _)];simp⟩
 refine⟨this.1,?_⟩
 rw[this.2,I7]
def B1(l:List (Int×Int×Int×Int)):List UInt8:=AQ (l.map AG) [32]
theorem iw(l:List (Int×Int×Int×Int)):∀ w∈l.map AG,w.length+([32]:List UInt8).length≤21:=fun w hw=>by
 obtain⟨k,_,rfl⟩:=List.mem_map.1 hw
 have:=(GD k).2.2.2
 simp only[Ay,AJ];omega
theorem R7(l:List (Int×Int×Int×Int))(h:l.length≤32):(B1 l).length≤700:=by
 have h1:=OX [32] 21 _ (iw l);rw[A0] at h1;exact BU h1 (BU (Nat.mul_le_mul h (AH 21)) (by decide))
theorem RZ(l:List (Int×Int×Int×Int))(h:l.length≤32):(L4 (l.map AG,[32])∧KD (l.map AG,[32])=B1 l)∧L5 (l.map AG,[32])∧KG (l.map AG,[32])=B1 l:=by
 have wl:∀ w∈l.map AG,w.length+([32]:List UInt8).length≤100:=fun w hw=>BU (iw l w hw) (by decide)
 have ln:(l.map AG).length≤32:=by rw[A0];exact h
 refine⟨cJ _ [32] (BU ln (by decide)) wl,?_,?_⟩
 · rw[YQ,Uo];exact⟨BU ln (by decide),BU (R7 l h) (by decide)⟩
 · rw[YN,Uq];rfl
theorem QC(x:Int×List (List (Int×Int×Int×Int)))(h:GU x):Ym x∧NH x∧F4 x=Yq x∧(E6 x=true→F4 x=AQ (x.2.map B1) [32,124,32]):=by
 obtain⟨k,x⟩:=x;obtain⟨s1,s2⟩:=Q8 (k,x) h;rw[Ym,jt,Yq,jx];have hsv:=Z7 (k,x)
 cases hv:E6 (k,x) with
 | false=>
   rw[hv] at hsv
   have L1:=Eg (c:=Kr (k,x)) (f:=LM (k,x)) (p:=NC (k,x)) 0 (fun _=>([],0)) (x0:=([],0)) rfl (fun k h=>by omega) (by
    simp only[Kr,NC,hsv,Az,Bool.and_false]
    exact⟨⟨⟨fun _=>s1,fun _=>trivial⟩,fun h=>(by cases h),fun _=>trivial⟩,trivial⟩)
   obtain⟨j1,j2⟩:=cJ [] [32,124,32] (by simp) (by simp);rw[L1.2,AB];simp only[Bool.not_false,Bq,j2];exact⟨⟨L1.1,j1⟩,⟨s2,fun _=>trivial,fun h=>(by cases h)⟩,by first|rfl|trivial,by first|(intro h;cases h;done)|trivial|simp⟩
 | true=>
   rw[hv] at hsv;have M:=UP h hv;have k1:=M.k1;have k2:=M.k2;have l2:=M.l2;have hrow:∀ i:Nat,i<x.length→((x.getD i []).length:Int)=k:=M.row
   have R1:∀ (s:List (List UInt8)) (i:Nat),i<x.length→LoopOk (Ks (k,x)) (Ko (k,x) (s,(i:Int))) (TU (k,x) (s,(i:Int))) ([],0)∧Am (Ks (k,x)) (Ko (k,x) (s,(i:Int))) ([],0)=((x.getD i []).map AG,((x.getD i []).length:Int)):=fun s i hi=>by
    have hr:=hrow i hi;have gi:lGet x i []=x.getD i []:=BS _ _ _;refine R9 (x.getD i []) (0,0,0,0) AG (by omega) (fun s j hj=>?_) (fun s j hj=>?_) (fun s j hs hj=>?_)
    · simp only[Ks,Ar];rw[← hr];simp
    · simp only[Ko,AL,Bg,gi,BS]
    · simp only[TU,AL,Bg,gi,BS,Ar,A6,BL,Ay,AJ];exact⟨fun hlt=>⟨⟨by omega,by omega⟩,hi,⟨by omega,by omega⟩,by omega,(GD _).1,IP (by omega)⟩,fun _=>trivial⟩
   have R2:∀ (s:List (List UInt8)) (i:Nat),i<x.length→LoopOk (Km (k,x) (s,(i:Int))) (Kq (k,x) (s,(i:Int))) (TV (k,x) (s,(i:Int))) ([],0)∧Am (Km (k,x) (s,(i:Int))) (Kq (k,x) (s,(i:Int))) ([],0)=((x.getD i []).map AG,((x.getD i []).length:Int)):=fun s i hi=>by
    have hr:=hrow i hi;have gi:lGet x i []=x.getD i []:=BS _ _ _;refine R9 (x.getD i []) (0,0,0,0) AG (by omega) (fun s j hj=>?_) (fun s j hj=>?_) (fun s j hs hj=>?_)
    · simp only[Km,Ar,AL,Bg,gi,Ap];simp
    · simp only[Kq,AL,Bg,gi,BS,(GD _).2.2.1]
    · simp only[TV,AL,Bg,gi,BS,Ar,Ap,A6,BL,Ay,AJ];exact⟨fun hlt=>⟨⟨by omega,by omega⟩,by omega,(GD _).2.1,IP (by omega)⟩,fun _=>trivial⟩
   have rl:∀ i:Nat,i<x.length→(x.getD i []).length≤32:=fun i hi=>by have:=hrow i hi;omega
   have L1:=R9 (c:=Kr (k,x)) (f:=LM (k,x)) (p:=NC (k,x)) x [] B1 (by omega) (fun s i hi=>by
    simp only[Kr,hsv,Az,Jd,Ar,Ap];simp)
    (fun s i hi=>by simp only[LM,(R1 s i hi).2,(RZ _ (rl i hi)).1.2])
    (fun s i hs hi=>by
     simp only[NC,hsv,Az,Jd,Ar,Ap,A6,BL,Ay,AJ];refine⟨⟨fun _=>s1,fun _=>trivial⟩,fun hlt=>?_,fun _=>trivial⟩
     have hlt:i<x.length:=by omega
     rw[(R1 s i hlt).2]
     exact⟨(R1 s i hlt).1,(RZ _ (rl i hlt)).1.1,IP (by omega)⟩)
   have L2:=R9 (c:=NA (k,x)) (f:=NB (k,x)) (p:=TT (k,x)) x [] B1 (by omega) (fun s i hi=>by
    simp only[NA,Ar,Ap];simp)
    (fun s i hi=>by simp only[NB,(R2 s i hi).2,(RZ _ (rl i hi)).2.2])
    (fun s i hs hi=>by
     simp only[TT,Ar,Ap,AL,Bg,A6,BL,Ay,AJ];refine⟨fun hlt=>?_,fun _=>trivial⟩
     have hlt:i<x.length:=by omega
     rw[(R2 s i hlt).2]
     exact⟨⟨by omega,by omega⟩,hlt,(R2 s i hlt).1,(RZ _ (rl i hlt)).2.1,IP (by omega)⟩)
   rw[L1.2,L2.2,AB];simp only[G2,Bh]
   have wl:∀ w∈x.map B1,w.length+([32,124,32]:List UInt8).length≤1000:=fun w hw=>by
    obtain⟨l,hl,rfl⟩:=List.mem_map.1 hw;obtain⟨i,hi,rfl⟩:=MY hl;have:=rl i hi;rw[BT,Ax hi] at this;have:=R7 _ this;simp only[Dh] at this;simp only[Ay,AJ];omega
   have ln:(x.map B1).length≤4:=by rw[A0];exact l2
   obtain⟨j1,j2⟩:=bt (x.map B1) [32,124,32] (BU ln (by decide)) wl
   have jl:(AQ (x.map B1) [32,124,32]).length≤4000:=
    BU (OX [32,124,32] 1000 _ wl) (Nat.mul_le_mul ln (AH _))
   have j3:L5 (x.map B1,[32,124,32]):=by
    rw[YQ,Uo];exact⟨BU ln (by decide),BU jl (by decide)⟩
   have j4:KG (x.map B1,[32,124,32])=AQ (x.map B1) [32,124,32]:=by rw[YN,Uq]
   rw[j2,j4];exact⟨⟨L1.1,j1⟩,⟨s2,fun h=>(by cases h),fun _=>⟨L2.1,j3⟩⟩,rfl,fun _=>rfl⟩
end
section
set_option maxRecDepth 20000
theorem oX{s sep:List UInt8}(h:Lib.index s sep=-1):Lib.split s sep=[s]:=by
 unfold Lib.split;rw[Lib.count_miss h];rfl
theorem sm{s sep:List UInt8}{i:Nat}(hs:sep≠[])(h:Lib.index s sep=i):Lib.split s sep=s.take i::Lib.split (s.drop (i+sep.length)) sep:=by
 unfold Lib.split;rw[Lib.count_hit hs h,Nat.add_comm 1]
 have hm:¬ (Lib.index s sep == -1)=true:=fun e=>by have:=AV.1 e;omega
 rw[Lib.splitK,Ad hm,h];rfl
theorem eQ(b:UInt8)(l:List UInt8)(h:l.head?≠some 124):([32,124,32]:List UInt8).isPrefixOf (b::l)=false:=by
 cases l with
 |nil=>simp[List.isPrefixOf]
 | cons c r=>
   have hc:c≠124:=fun e=>h (by rw[e];rfl)
   have:((124:UInt8) == c)=false:=by rw[Hz];exact fun e=>hc e.symm
   simp only[List.isPrefixOf,this,Lt,Bool.and_false]
theorem cV:∀ a:List UInt8,(124:UInt8) ∉ a→Lib.index a [32,124,32]=-1
 |[],_=>rfl
 | b::l,h=>by
   have hl:l.head?≠some 124:=fun e=>h (List.mem_cons_of_mem _ (List.mem_of_head? e))
   rw[Lib.index,eQ b l hl,cV l fun e=>h (List.mem_cons_of_mem _ e)]
   rfl
theorem gE:∀ (a t:List UInt8),(124:UInt8) ∉ a→Lib.index (a++([32,124,32]++t)) [32,124,32]=(a.length:Int)
 |[],t,_=>rfl
 | b :: l,t,h=>by
   have hl:(l++([32,124,32]++t)).head?≠some 124:=by
    cases l with
    |nil=>simp
    |cons c r=>exact fun e=>h (by rw[BW,List.head?_cons] at e;cases e;simp)
   have i:=gE l t fun e=>h (List.mem_cons_of_mem _ e)
   rw[BW,Lib.index,eQ b _ hl,i,Ad (by simp),Ad (by intro e;have:=AV.1 e;omega)];simp
theorem ZP:∀ (l:List (List UInt8)),l≠[]→(∀ w∈l,(124:UInt8) ∉ w)→Lib.split (AQ l [32,124,32]) [32,124,32]=l
 |[],h,_=>absurd rfl h
 | [a],_,h=>by
   have e:AQ [a] [32,124,32]=a:=by simp[AQ,List.intercalate]
   rw[e];exact oX (cV a (h a (by simp)))
 | a::c::r,_,h=>by
   have i:=ZP (c::r) (by simp) (fun w hw=>h w (by simp[hw]));rw[Hv _ _ _ (by simp),sm (by simp) (gE a _ (h a (by simp))),List.take_left' rfl];congr 1;rw[← List.drop_drop,List.drop_left' rfl];exact i
theorem bM{b:UInt8}{sep:List UInt8}:∀ {l:List (List UInt8)},b∈AQ l sep→b∈sep∨∃ w∈l,b∈w
 |[],h=>by simp[AQ,List.intercalate] at h
 | [a],h=>by
   have e:AQ [a] sep=a:=by simp[AQ,List.intercalate]
   rw[e] at h;exact .inr ⟨a,by simp,h⟩
 | a :: c::r,h=>by
   rw[Hv _ _ _ (by simp),B6,B6] at h;rcases h with h|h|h
   · exact .inr ⟨a,by simp,h⟩
   · exact .inl h
   · rcases bM h with h|⟨w,hw,h⟩
     · exact .inl h
     · exact .inr ⟨w,by simp[hw],h⟩
theorem mT{k:Int}{x:List (List (Int×Int×Int×Int))}(hm:MapOk k x) :
 NH (k,x)∧LR (F4 (k,x))∧Bl (F4 (k,x))=((k,x),true):=by
 have k1:=hm.k1
 have k2:=hm.k2
 have l1:=hm.l1
 have l2:=hm.l2
 have hs:=WU hm
 obtain⟨f1,f2,f3,f4⟩:=QC (k,x) hs
 have f4:=f4 (Sg hm)
 simp only at f4
 refine⟨f2,?_⟩
 have hv:∀ r∈x,(r.length:Int)=k∧∀ a∈r,Cc a=true:=fun r hr=>by
  obtain⟨i,hi,rfl⟩:=List.mem_iff_getElem.1 hr;have:=e9 hm i hi;rw[BT,Ax hi,Dh] at this;exact⟨this.1,fun a ha=>by rw[Ov];exact(this.2 a ha).1⟩
 have no124:∀ w∈x.map B1,(124:UInt8) ∉ w:=fun w hw=>by
  obtain⟨r,hr,rfl⟩:=List.mem_map.1 hw;intro h;rcases bM h with h|⟨w,hw,h⟩
  · exact absurd h (by decide)
  · obtain⟨a,ha,rfl⟩:=List.mem_map.1 hw;exact Pr a ((hv r hr).2 a ha) (by decide) h
 have slen:(AQ (x.map B1) [32,124,32]).length≤4000:=by
  have wl:∀ w∈x.map B1,w.length+([32,124,32]:List UInt8).length≤1000:=fun w hw=>by
   obtain⟨r,hr,rfl⟩:=List.mem_map.1 hw;have:=R7 r (by have:=(hv r hr).1;omega);simp only[Ay,AJ];omega
  have ln:(x.map B1).length≤4:=by rw[A0];exact l2
  exact BU (OX [32,124,32] 1000 _ wl) (Nat.mul_le_mul ln (AH _))
 have sp:Bo (AQ (x.map B1) [32,124,32],[(32:UInt8),124,32])=x.map B1:=by
  rw[QR];exact ZP _ (by intro e;rw[List.map_eq_nil_iff] at e;rw[e] at l1;simp at l1) no124
 rw[f4]
 generalize hS:AQ (x.map B1) [32,124,32]=S at *
 have eR:∀ i:Nat,i<x.length→lGet (x.map B1) (iNat (i:Int)) []=B1 (x.getD i []):=fun i hi=>by
  rw[BS,AL,Bg,BT,Fi,Ax hi,BT,Ax hi];rfl
 have spl:∀ i:Nat,i<x.length→NT (B1 (x.getD i []),32)∧Dp (B1 (x.getD i []),32)=(x.getD i []).map AG:=fun i hi=>by
  obtain⟨r1,r2⟩:=hv _ (EJ x i [] hi);have hl:=R7 (x.getD i []) (by omega);obtain⟨a1,a2⟩:=UN (B1 (x.getD i [])) 32 (by omega);refine⟨a1,?_⟩;rw[a2]
  refine UG 32 _ (fun e=>?_) fun w hw=>?_
  · rw[List.map_eq_nil_iff] at e;rw[e] at r1;simp at r1;omega
  · obtain⟨a,ha,rfl⟩:=List.mem_map.1 hw;exact Pr a (r2 a ha) (by decide)
 have inner:∀ i:Nat,i<x.length→∀ q:Int,LoopOk (DK S ((i:Int),q,x.take i)) (D9 S ((i:Int),q,x.take i)) (Jn S ((i:Int),q,x.take i)) ([],0) ∧
  Am (DK S ((i:Int),q,x.take i)) (D9 S ((i:Int),q,x.take i)) ([],0)=(x.getD i [],k):=by
  intro i hi q
  obtain⟨r1,r2⟩:=hv _ (EJ x i [] hi)
  have eW:=(spl i hi).2
  have wl:lLen ((x.getD i []).map AG)=((x.getD i []).length:Int):=by rw[Ap,A0]
  have tk:(x.take i).length=i:=by rw[HL];omega
  have:=Eg (c:=DK S ((i:Int),q,x.take i)) (f:=D9 S ((i:Int),q,x.take i)) (p:=Jn S ((i:Int),q,x.take i)) (x.getD i []).length (fun j=>((x.getD i []).take j,(j:Int))) (x0:=([],0)) (by simp) (fun j hj=>by
   have s1:iAdd .i64 (j:Int) 1=((j+1:Nat):Int):=by rw[Cx (by unfold A5;omega)];omega
   have va:=r2 _ (EJ (x.getD i []) j (0,0,0,0) hj)
   have eA:lGet ((x.getD i []).map AG) (iNat (j:Int)) []=AG ((x.getD i []).getD j (0,0,0,0)):=by
    rw[BS,AL,Bg,BT,Fi,Ax hj,BT (l:=x.getD i []),Ax hj];rfl
   obtain⟨p1,p2⟩:=YG _ va;rw[(GD _).2.2.1] at p1 p2
   have tj:((x.getD i []).take j).length=j:=by rw[HL];omega
   have nb:bOr (bNot true) (bOr (iGe (lLen ((x.getD i []).take j)) 32) (iGe (lLen (x.take i)) 4))=false:=by
    rw[Ca,Ca,AB,C9,C9,Ap,Ap,tj,tk,C5 (by omega),C5 (by omega)];rfl
   refine⟨?_,?_,?_⟩
   · unfold Jn;simp only[sp,eR i hi,eW,eA,p2,nb];refine⟨fun _=>⟨⟨by omega,by rw[A0];omega⟩,by rw[AL,A0];omega,p1,fun h=>(by cases h),fun _=>?_⟩,fun _=>trivial⟩;unfold AW;simp only[Ay,AJ,tj];omega
   · unfold DK;simp only[sp,eR i hi,eW,eA,p2,nb,wl];rw[Az,AB,Ar,Cq (by omega)];rfl
   · unfold D9;simp only[sp,eR i hi,eW,eA,p2,s1,FH]
     rw[RL _ (0,0,0,0) hj]) (by
   have e0:iLt ((x.getD i []).length:Int) ((x.getD i []).length:Int)=false:=by rw[Ar,C5 (by omega)]
   unfold Jn DK;simp only[sp,eR i hi,eW,wl,e0]
   exact⟨⟨fun h=>(by cases h),fun _=>trivial⟩,by rw[Az];rfl⟩)
  refine⟨this.1,?_⟩
  rw[this.2,I7,r1]
 have sl:lLen (x.map B1)=(x.length:Int):=by rw[Ap,A0]
 have outer:=Eg (c:=DN S) (f:=Eb S) (p:=LN S) x.length (fun i=>((i:Int),(if i=0 then 0 else k),x.take i)) (x0:=(0,0,[])) (by simp) (fun i hi=>by
  have s1:iAdd .i64 (i:Int) 1=((i+1:Nat):Int):=by rw[Cx (by unfold A5;omega)];omega
  obtain⟨r1,r2⟩:=hv _ (EJ x i [] hi)
  have wl:lLen ((x.getD i []).map AG)=k:=by rw[Ap,A0,r1]
  have e0:iLt k k=false:=by rw[Ar,C5 (by omega)]
  have tk:(x.take i).length=i:=by rw[HL];omega
  refine⟨?_,?_,?_⟩
  · unfold LN;simp only[(inner i hi _).2,sp,eR i hi,(spl i hi).2,wl,e0];refine⟨fun _=>⟨⟨by omega,by rw[A0];omega⟩,by rw[AL,A0];omega,(spl i hi).1,(inner i hi _).1,fun h=>(by cases h),fun _=>?_⟩,fun _=>trivial⟩;unfold AW;simp only[Ay,AJ,tk];omega
  · unfold DN;simp only[(inner i hi _).2,sp,eR i hi,(spl i hi).2,wl,e0,sl];rw[Az,AB,Ar,Cq (by omega)];rfl
  · unfold Eb;simp only[(inner i hi _).2,s1,FH,Ap,r1]
    rw[RL _ [] hi,Ad (by omega)]) (by
  have e0:iLt (x.length:Int) (x.length:Int)=false:=by rw[Ar,C5 (by omega)]
  unfold LN DN;simp only[sp,sl,e0]
  exact⟨⟨fun h=>(by cases h),fun _=>trivial⟩,by rw[Az];rfl⟩)
 have e0:iLt (x.length:Int) (x.length:Int)=false:=by rw[Ar,C5 (by omega)]
 have e1:bNot true=false:=by rw[AB];rfl
 have e2:bOr false (sNe S S)=false:=by rw[Ca,JT];simp
 rw[Yr,Yu,outer.2]
 simp only[I7,Ad (show ¬ x.length=0 by omega),sp,sl,e0,Sg hm,f4,e1,e2,Bh]
 refine⟨⟨?_,outer.1,fun h=>(by cases h),fun _=>⟨(Q8 (k,x) hs).2,fun h=>(by cases h),fun _=>f2⟩⟩,by first|rfl|trivial⟩
 rw[QP]
 exact⟨by simp only;omega,by simp⟩
end
section
set_option maxRecDepth 8000
def jO:DCode:=(.seq [2,0] (.region [oa 0 2 (.allocB 0 [(.int .i64 0),.nils]),oa 1 3 (.mv (.c (.bool false)))]) (.seq [4,2,0] (.region [oa 0 10 (.build [(.int .i64 0),.nils] []),oa 1 4 (.allocB 1 [(.int .i64 0),.nils]),os 2 (.storeB 1 2 (.t 4) (.t 10))]) (.seq [5,4,2,0] (.region [⟨0,some 11,.a false (.litSlice 4 0 [] []) (some AR),none,[]⟩,om 1 5 11]) (.seq [6,5,4,2] (.region [om 0 12 0,oF 1 13 DP [(.t 12),(.c (.int .u8 32))],⟨2,some 14,.a false (.litSlice 1 1 [(.str [])] [(0,1,(.c (.str [124])))]) (some (.one (.str))),none,[]⟩,oa 3 15 (.app 1 (.t 13) (.t 14)),on 4 6 15]) (.seq [4,2] (.seq [7,6,5,4,2] (.region [oi 0 7 0]) (.block 0 (.loop [2,4,5,6,7] 1 (.seq [7,6,5,4,2] (.seq [19,7,6,5,4,2] (.region [om 0 16 7,on 1 17 6,oa 2 18 (.len (.t 17)),oa 3 19 (.bin .lss (.t 16) (.t 18))]) (.cond (.t 19) .skip (.exit 0))) (.seq [7,6,5,4,2] (.block 1 (.seq [7,6,5,4,2] (.seq [26,7,6,5,4,2] (.region [on 0 22 6,om 1 23 7,oa 2 24 (.indexA 1 (.t 22) (.t 23)),oa 3 25 (.loadH none (.t 24)),oa 4 26 (.bin .eql (.t 25) (.c (.str [124])))]) (.cond (.t 26) (.seq [7,6,5,4,2] (.region [oa 0 27 (.fieldA 1 (.t 4)),ob 1 28 (.loadB 1 none (.t 27)),⟨2,some 29,.fz (.t 5),none,[]⟩,⟨3,some 30,.a false (.litSlice 1 1 [.nils] [(0,1,(.t 29))]) (some (.one (.slf AR))),none,[]⟩,oa 4 31 (.app 1 (.t 28) (.t 30)),oa 5 32 (.fieldA 1 (.t 4)),os 6 (.storeB 1 1 (.t 32) (.t 31))]) (.seq [7,6,4,2] (.region [on 0 33 5,oa 1 34 (.len (.t 33)),oa 2 35 (.fieldA 0 (.t 4)),os 3 (.storeB 1 1 (.t 35) (.t 34))]) (.seq [7,6,5,4,2] (.region [⟨0,some 36,.a false (.litSlice 4 0 [] []) (some AR),none,[]⟩,om 1 5 36]) (.exit 1)))) .skip)) (.seq [9,8,7,6,5,4,2] (.region [on 0 38 6,om 1 39 7,oa 2 40 (.indexA 1 (.t 38) (.t 39)),oa 3 41 (.loadH none (.t 40)),oF 4 42 Ip [(.t 41)],om 5 37 42,oa 6 43 (.extract (.t 37) 0),oa 7 44 (.extract (.t 37) 1),oa 8 8 (.allocB 2 [(.int .i64 0),(.int .i64 0),(.int .i64 0),(.int .i64 0)]),os 9 (.storeB 2 4 (.t 8) (.t 43)),om 10 9 44]) (.seq [8,7,6,5,4,2] (.seq [46,8,7,6,5,4,2] (.region [om 0 45 9,oa 1 46 (.un .not (.t 45))]) (.cond (.t 46) (.seq [3,2] (.region [oa 0 47 (.build [(.int .i64 0),.nils] []),os 1 (.storeB 0 2 (.t 2) (.t 47)),oa 2 3 (.mv (.c (.bool false)))]) .ret) .skip)) (.region [om 0 48 5,ob 1 49 (.loadB 2 (some 4) (.t 8)),⟨2,some 50,.a false (.litSlice 4 1 [(.int .i64 0),(.int .i64 0),(.int .i64 0),(.int .i64 0)] [(0,4,(.t 49))]) (some AR),none,[]⟩,oa 3 51 (.app 4 (.t 48) (.t 50)),om 4 5 51]))))) (.region [om 0 20 7,oa 1 21 (.bin .add (.t 20) (.c (.int .i64 1))),om 2 7 21])))))) (.seq [4,2] (.seq [54,4,2] (.region [oa 0 52 (.loadB 1 (some 2) (.t 4)),oF 1 53 IC [(.t 52)],oa 2 54 (.un .not (.t 53))]) (.cond (.t 54) (.seq [3,2] (.region [oa 0 55 (.build [(.int .i64 0),.nils] []),os 1 (.storeB 0 2 (.t 2) (.t 55)),oa 2 3 (.mv (.c (.bool false)))]) .ret) .skip)) (.seq [3,2] (.region [ob 0 56 (.loadB 1 (some 2) (.t 4)),os 1 (.storeB 0 2 (.t 2) (.t 56)),oa 2 3 (.mv (.c (.bool true)))]) .ret)))))))
def Il:Fn:=⟨⟨1,57,3,false,[.cell 2 (some 2),.tmp 3],jO⟩,[.one .frz (.str)],.tup [.agg [(.own,.int .i64),(.own,.sl (.one (.slf AR)))],.one .own (.bool)]⟩
theorem jG:Il.A:=Be ⟨NR,jL,lU,trivial⟩
def Dd:List UInt8→(Int×(List (List (Int×Int×Int×Int))))×Bool:=Il.V
def Qz:List UInt8→Prop:=Il.O
theorem jD:Il.B:=Bj ⟨NQ,jP,lI,trivial⟩ (by kernel_rfl) (fun x=>by kernel_rfl)
def iZ:DCode:=(.seq [0] (.region [oa 0 2 (.mv (.c (.bool false)))]) (.seq [0] (.seq [13,0] (.region [om 0 11 0,oa 1 12 (.lenT (.t 11)),oa 2 13 (.bin .gtr (.t 12) (.c (.int .i64 1048576)))]) (.cond (.t 13) (.seq [2] (.region [oa 0 2 (.mv (.c (.bool true)))]) .ret) .skip)) (.seq [4,3,0] (.region [om 0 15 0,oF 1 16 Il [(.t 15)],om 2 14 16,oa 3 17 (.extract (.t 14) 0),oa 4 18 (.extract (.t 14) 1),oa 5 3 (.allocB 0 [(.int .i64 0),.nils]),os 6 (.storeB 0 2 (.t 3) (.t 17)),om 7 4 18]) (.seq [6,5,4,3,0] (.region [om 0 20 0,oF 1 21 Gz [(.t 20)],om 2 19 21,oa 3 22 (.extract (.t 19) 0),oa 4 23 (.extract (.t 19) 1),oa 5 5 (.allocB 1 [(.int .i64 0),.nils]),os 6 (.storeB 1 2 (.t 5) (.t 22)),om 7 6 23]) (.seq [5,4,3,0] (.seq [32,5,4,3,0] (.region [oa 0 24 (.loadB 1 (some 2) (.t 5)),oa 1 25 (.loadB 0 (some 2) (.t 3)),oF 2 26 GJ [(.t 24),(.t 25)],oa 3 27 (.un .not (.t 26)),om 4 28 27,og 5 29 (.mv (.t 6)) 28 false,og 6 30 (.mv (.t 4)) 28 false,og 7 31 (.eqB true (.t 29) (.t 30)) 28 false,oa 8 32 (.pick (.t 28) (.c (.bool true)) (.t 31))]) (.cond (.t 32) (.seq [2] (.region [oa 0 2 (.mv (.c (.bool false)))]) .ret) .skip)) (.seq [7,5,4,3,0] (.region [oi 0 7 1]) (.seq [7,5,4,3,0] (.region [oa 0 33 (.loadB 1 (some 2) (.t 5)),om 1 34 7,⟨2,some 35,.mark Jr Ua (.t 33) (.t 34),none,[]⟩,om 3 7 35]) (.seq [8,7,5,4,3,0] (.region [oi 0 8 1]) (.seq [8,7,5,4,3,0] (.region [oa 0 36 (.loadB 1 (some 2) (.t 5)),om 1 37 8,oF 2 38 GA [(.t 36),(.t 37)],om 3 8 38]) (.seq [8,7,5,4,3,0] (.seq [40,8,7,5,4,3,0] (.region [om 0 39 8,oa 1 40 (.bin .lss (.t 39) (.c (.int .i64 0)))]) (.cond (.t 40) (.seq [2] (.region [oa 0 2 (.mv (.c (.bool false)))]) .ret) .skip)) (.seq [7,5,4,3,0] (.seq [43,7,5,4,3,0] (.region [om 0 41 8,om 1 42 7,oa 2 43 (.bin .neq (.t 41) (.t 42))]) (.cond (.t 43) (.seq [2] (.region [oa 0 2 (.mv (.c (.bool false)))]) .ret) .skip)) (.seq [10,9,7,5,4,3] (.region [om 0 45 0,oF 1 46 Gz [(.t 45)],om 2 44 46,oa 3 47 (.extract (.t 44) 0),oa 4 48 (.extract (.t 44) 1),oa 5 9 (.allocB 2 [(.int .i64 0),.nils]),os 6 (.storeB 2 2 (.t 9) (.t 47)),om 7 10 48]) (.seq [7,5] (.seq [57,7,5] (.region [oa 0 49 (.loadB 2 (some 2) (.t 9)),oa 1 50 (.loadB 0 (some 2) (.t 3)),oF 2 51 GJ [(.t 49),(.t 50)],oa 3 52 (.un .not (.t 51)),om 4 53 52,og 5 54 (.mv (.t 10)) 53 false,og 6 55 (.mv (.t 4)) 53 false,og 7 56 (.eqB true (.t 54) (.t 55)) 53 false,oa 8 57 (.pick (.t 53) (.c (.bool true)) (.t 56))]) (.cond (.t 57) (.seq [2] (.region [oa 0 2 (.mv (.c (.bool false)))]) .ret) .skip)) (.seq [8,7,5] (.region [oi 0 8 1]) (.seq [8,7] (.region [oa 0 58 (.loadB 1 (some 2) (.t 5)),om 1 59 8,oF 2 60 GA [(.t 58),(.t 59)],om 3 8 60]) (.seq [8,7] (.seq [62,8,7] (.region [om 0 61 8,oa 1 62 (.bin .lss (.t 61) (.c (.int .i64 0)))]) (.cond (.t 62) (.seq [2] (.region [oa 0 2 (.mv (.c (.bool false)))]) .ret) .skip)) (.seq [] (.seq [65] (.region [om 0 63 8,om 1 64 7,oa 2 65 (.bin .neq (.t 63) (.t 64))]) (.cond (.t 65) (.seq [2] (.region [oa 0 2 (.mv (.c (.bool false)))]) .ret) .skip)) (.seq [2] (.region [oa 0 2 (.mv (.c (.bool true)))]) .ret))))))))))))))))))
def F1:Fn:=⟨⟨1,66,3,true,[.tmp 2],iZ⟩,[.one .frz (.str)],.one (.one .own (.bool))⟩
theorem iY:F1.A:=Be ⟨jG,Yn,YO,j7,Yz,Yn,YO,Yz,trivial⟩
def Qo:List UInt8→Bool:=F1.V
def Qn:List UInt8→Prop:=F1.O
end
section
set_option maxRecDepth 100000
def DM(x:List UInt8)(x0:((List (Int×(Int×(Int×Int))))×(Int×(Int×(List (List (Int×(Int×(Int×Int))))))))):Bool:=(bAnd (iLt x0.2.1 (lLen (lApp (Al (x,32)) [[(124:UInt8)]]))) (bOr (sEq (lGet (lApp (Al (x,32)) [[(124:UInt8)]]) (iNat x0.2.1) []) [(124:UInt8)]) (bNot (bNot (E5 (lGet (lApp (Al (x,32)) [[(124:UInt8)]]) (iNat x0.2.1) [])).2))))
def Ea(x:List UInt8)(x0:((List (Int×(Int×(Int×Int))))×(Int×(Int×(List (List (Int×(Int×(Int×Int))))))))):((List (Int×(Int×(Int×Int))))×(Int×(Int×(List (List (Int×(Int×(Int×Int)))))))):=((bSel (sEq (lGet (lApp (Al (x,32)) [[(124:UInt8)]]) (iNat x0.2.1) []) [(124:UInt8)]) [] (lApp x0.1 [(E5 (lGet (lApp (Al (x,32)) [[(124:UInt8)]]) (iNat x0.2.1) [])).1])),(iAdd .i64 x0.2.1 1),(bSel (sEq (lGet (lApp (Al (x,32)) [[(124:UInt8)]]) (iNat x0.2.1) []) [(124:UInt8)]) (lLen x0.1) x0.2.2.1),(bSel (sEq (lGet (lApp (Al (x,32)) [[(124:UInt8)]]) (iNat x0.2.1) []) [(124:UInt8)]) (lApp x0.2.2.2 [x0.1]) x0.2.2.2))
def Qr(x:List UInt8)(x0:((List (Int×(Int×(Int×Int))))×(Int×(Int×(List (List (Int×(Int×(Int×Int))))))))):Prop:=(((iLt x0.2.1 (lLen (lApp (Al (x,32)) [[(124:UInt8)]])))=true→((((0:Int)≤x0.2.1)∧(x0.2.1<(((List.length (lApp (Al (x,32)) [[(124:UInt8)]])):Int))))∧(((iNat x0.2.1)<(List.length (lApp (Al (x,32)) [[(124:UInt8)]])))∧(((sEq (lGet (lApp (Al (x,32)) [[(124:UInt8)]]) (iNat x0.2.1) []) [(124:UInt8)])=true→(AW (((List.length x0.2.2.2)+(List.length [x0.1]))*1)))∧((sEq (lGet (lApp (Al (x,32)) [[(124:UInt8)]]) (iNat x0.2.1) []) [(124:UInt8)])=false→((((0:Int)≤x0.2.1)∧(x0.2.1<(((List.length (lApp (Al (x,32)) [[(124:UInt8)]])):Int))))∧(((iNat x0.2.1)<(List.length (lApp (Al (x,32)) [[(124:UInt8)]])))∧((NK (lGet (lApp (Al (x,32)) [[(124:UInt8)]]) (iNat x0.2.1) []))∧(((bNot (E5 (lGet (lApp (Al (x,32)) [[(124:UInt8)]]) (iNat x0.2.1) [])).2)=true→True)∧((bNot (E5 (lGet (lApp (Al (x,32)) [[(124:UInt8)]]) (iNat x0.2.1) [])).2)=false→(AW (((List.length x0.1)+(List.length [(E5 (lGet (lApp (Al (x,32)) [[(124:UInt8)]]) (iNat x0.2.1) [])).1]))*4))))))))))))∧((iLt x0.2.1 (lLen (lApp (Al (x,32)) [[(124:UInt8)]])))=false→True))
theorem jW (x):Dd x=(bSel (iLt (Am (DM x) (Ea x) ([],0,0,[])).2.1 (lLen (lApp (Al (x,32)) [[(124:UInt8)]]))) ((0,[]),false) (bSel (bNot (KE (Am (DM x) (Ea x) ([],0,0,[])).2.2)) ((0,[]),false) ((Am (DM x) (Ea x) ([],0,0,[])).2.2,true))):=(Il.v x).trans (by kernel_rfl)
theorem jI (x):Qz x=((Iu (x,32))∧((AW (((List.length (Al (x,32)))+(List.length [[(124:UInt8)]]))*1))∧((LoopOk (DM x) (Ea x) (Qr x) ([],0,0,[]))∧(((iLt (Am (DM x) (Ea x) ([],0,0,[])).2.1 (lLen (lApp (Al (x,32)) [[(124:UInt8)]])))=true→True)∧((iLt (Am (DM x) (Ea x) ([],0,0,[])).2.1 (lLen (lApp (Al (x,32)) [[(124:UInt8)]])))=false→(NY (Am (DM x) (Ea x) ([],0,0,[])).2.2)))))):=(Il.o x).trans (by kernel_rfl)
theorem iW (x):Qo x=(bOr (iGt (lLen x) 1048576) (bAnd (bNot (bOr (bNot (IB ((Bl x).1,(Dd x).1))) (bNot (bIff (Bl x).2 (Dd x).2)))) (bAnd (bNot (iLt (GC (((Bl x).1.1,(CB (Bl x).1 1).1.2),1)) 0)) (bAnd (bNot (iNe (GC (((Bl x).1.1,(CB (Bl x).1 1).1.2),1)) (CB (Bl x).1 1).2)) (bAnd (bNot (bOr (bNot (IB ((Bl x).1,(Dd x).1))) (bNot (bIff (Bl x).2 (Dd x).2)))) (bAnd (bNot (iLt (GC (((Bl x).1.1,(CB (Bl x).1 1).1.2),1)) 0)) (bNot (iNe (GC (((Bl x).1.1,(CB (Bl x).1 1).1.2),1)) (CB (Bl x).1 1).2)))))))):=(F1.v x).trans (by kernel_rfl)
theorem iX (x):Qn x=(((iGt (lLen x) 1048576)=true→True)∧((iGt (lLen x) 1048576)=false→((Qz x)∧((LR x)∧((N2 ((Bl x).1,(Dd x).1))∧(((bOr (bNot (IB ((Bl x).1,(Dd x).1))) (bNot (bIff (Bl x).2 (Dd x).2)))=true→True)∧((bOr (bNot (IB ((Bl x).1,(Dd x).1))) (bNot (bIff (Bl x).2 (Dd x).2)))=false→((((List.length (Bl x).1.2)=(List.length (Bl x).1.2))∧(DMk.ok (DMk.mk (RT.cons (CT.int IntKind.i64) (RT.one (CT.sl (RT.one (CT.sl (RT.cons (CT.int IntKind.i64) (RT.cons (CT.int IntKind.i64) (RT.cons (CT.int IntKind.i64) (RT.one (CT.int IntKind.i64)))))))))) true LU CB false) (Bl x).1))∧((NN (((Bl x).1.1,(CB (Bl x).1 1).1.2),1))∧(((iLt (GC (((Bl x).1.1,(CB (Bl x).1 1).1.2),1)) 0)=true→True)∧((iLt (GC (((Bl x).1.1,(CB (Bl x).1 1).1.2),1)) 0)=false→(((iNe (GC (((Bl x).1.1,(CB (Bl x).1 1).1.2),1)) (CB (Bl x).1 1).2)=true→True)∧((iNe (GC (((Bl x).1.1,(CB (Bl x).1 1).1.2),1)) (CB (Bl x).1 1).2)=false→((LR x)∧((N2 ((Bl x).1,(Dd x).1))∧(((bOr (bNot (IB ((Bl x).1,(Dd x).1))) (bNot (bIff (Bl x).2 (Dd x).2)))=true→True)∧((bOr (bNot (IB ((Bl x).1,(Dd x).1))) (bNot (bIff (Bl x).2 (Dd x).2)))=false→(NN (((Bl x).1.1,(CB (Bl x).1 1).1.2),1))))))))))))))))))):=(F1.o x).trans (by kernel_rfl)
attribute [irreducible] Dd Qz Qo Qn
end
section
set_option maxRecDepth 20000
theorem aj(b:UInt8):∀ s:List UInt8,AQ (A4 s (b.toNat:Int)) [b]=s
 |[]=>by simp[A4,AQ,List.intercalate]
 | z :: r=>by
   have i:=aj b r
   have hp:=U9 r (b.toNat:Int)
   unfold A4
   by_cases h:z=b
   · subst h
     rw[Ab rfl,Hv _ _ _ (fun e=>by rw[e] at hp;simp at hp),i];rfl
   · rw[Ad (Nf h)]
     cases hs:A4 r (b.toNat:Int) with
     |nil=>rw[hs] at hp;simp at hp
     | cons w ws=>
       rw[hs] at i
       simp only
       cases ws with
       |nil=>simp[AQ,List.intercalate] at i ⊢;exact i
       |cons v vs=>rw[Hv _ _ _ (by simp)] at i ⊢;rw[BW,i]
end
section
set_option maxRecDepth 20000
abbrev CI:=List F0
def Dl:List (List UInt8)→CI→Int→List CI→Option (CI×Int×List CI)
 |[],row,k,L=>some (row,k,L)
 |w::r,row,k,L=>if w=[124] then Dl r [] (row.length:Int) (L++[row]) else if (E5 w).2=true then Dl r (row++[(E5 w).1]) k L else none
def DI(r:CI):List (List UInt8):=r.map AG++[[124]]
def Kc(r:CI):Prop:=∀ a∈r,Cc a=true
theorem V0:∀ (r:List (List UInt8)) (row:CI) (k:Int) (L:List CI) {row':CI} {k':Int} {L':List CI},(∀ w∈r,w.length≤1048576)→Kc row→(∀ q∈L,Kc q)→Dl r row k L=some (row',k',L') →
 L'.flatMap DI++row'.map AG=L.flatMap DI++row.map AG++r∧Kc row'∧∀ q∈L',Kc q
 | [],row,k,L,row',k',L',_,h1,h2,h=>by
   simp only[Dl,Ah,Ak] at h
   obtain⟨rfl,rfl,rfl⟩:=h
   exact⟨by rw[JZ],h1,h2⟩
 | w :: r, row,k,L,row',k',L',hw,h1,h2,h=>by
   have hw':∀ w∈r,w.length≤1048576:=fun v hv=>hw v (by simp[hv])
   simp only[Dl] at h
   split at h
   · rename_i e
     obtain⟨i1,i2,i3⟩:=V0 r [] (row.length:Int) (L++[row]) hw' (fun _ ha=>by cases ha) (fun q hq=>by
      rw[B6,List.mem_singleton] at hq
      rcases hq with hq|rfl
      · exact h2 q hq
      · exact h1) h
     refine⟨?_,i2,i3⟩
     rw[i1,e,List.flatMap_append]
     simp[DI]
   · split at h
     · rename_i e1 e2
       obtain⟨_,_,_,q⟩:=L6 w (hw w (by simp))
       rcases q with⟨a,a1,a2,a3⟩|⟨_,a3⟩
       · rw[a3] at h
         obtain⟨i1,i2,i3⟩:=V0 r (row++[a]) k L hw' (fun b hb=>by
          rw[B6,List.mem_singleton] at hb
          rcases hb with hb|rfl
          · exact h1 b hb
          · exact a1) h2 h
         refine⟨?_,i2,i3⟩
         rw[i1,EU]
         simp[a2]
       · rw[a3] at e2;cases e2
     · cases h
theorem dT:∀ (q:CI) (rest:List (List UInt8)) (row:CI) (k:Int) (L:List CI),Kc q→Dl (q.map AG++rest) row k L=Dl rest (row++q) k L
 |[],rest,row,k,L,_=>by simp
 | a :: q,rest,row,k,L,h=>by
   have ha:=h a (by simp)
   have hne:AG a≠[124]:=fun e=>Pr a ha (b:=124) (by decide) (by rw[e];simp)
   obtain⟨_,_,_,p⟩:=L6 (AG a) (BU (O3 _) (by decide))
   have e:E5 (AG a)=(a,true):=by
    have:=(YG a ha).2;rw[(GD a).2.2.1] at this;obtain⟨_,_,e,_⟩:=L6 (AG a) (BU (O3 _) (by decide));rw[← e];exact this
   rw[Bs,BW,Dl,Ad hne,e,Ab rfl,dT q rest (row++[a]) k L fun b hb=>h b (by simp[hb])];simp
theorem dx:∀ (M:List CI) (k:Int) (L:List CI),(∀ q∈M,Kc q)→∃ k',Dl (M.flatMap DI) [] k L=some ([],k',L++M)∧(M≠[]→k'=((M.getLast?.getD []).length:Int))
 |[],k,L,_=>⟨k,by simp[Dl],fun h=>absurd rfl h⟩
 | q :: M,k,L,h=>by
   obtain⟨k',e1,e2⟩:=dx M (q.length:Int) (L++[q]) fun r hr=>h r (by simp[hr])
   refine⟨k',?_,fun _=>?_⟩
   · rw[List.flatMap_cons]
     unfold DI
     rw[Bw,dT q _ [] k L (h q (by simp)),Cj,List.singleton_append,Dl,Ab rfl]
     rw[show (List.flatMap (fun r=>r.map AG++[[124]]) M)=M.flatMap DI from rfl,e1,Bw];rfl
   · by_cases hM:M=[]
     · subst hM
       simp only[List.flatMap_nil,Dl,Ah,Ak] at e1
       rw[← e1.2.1];rfl
     · rw[e2 hM]
       congr 2
       cases M with
       |nil=>exact absurd rfl hM
       |cons b r=>simp[List.getLast?_cons]
theorem cQ(b:UInt8):∀ (A B:List (List UInt8)),A≠[]→B≠[]→AQ (A++B) [b]=AQ A [b]++(b::AQ B [b])
 |[],_,h,_=>absurd rfl h
 | [a],B,_,hB=>by
   have e:AQ [a] [b]=a:=by simp[AQ,List.intercalate]
   rw[List.singleton_append,Hv _ _ _ hB,e];rfl
 | a::c::r,B,_,hB=>by
   rw[BW,Hv _ _ _ (by simp),Hv _ _ _ (by simp),cQ b (c::r) B (by simp) hB];simp
theorem Vv:∀ (L:List CI),L≠[]→(∀ r∈L,r≠[])→∃ W:List (List UInt8),W≠[]∧L.flatMap DI=W++[[124]]∧AQ W [32]=AQ (L.map B1) [32,124,32]
 |[],h,_=>absurd rfl h
 | [r],_,h=>by
   have hr:=h r (by simp);refine⟨r.map AG,by simpa using hr,by simp[DI],?_⟩
   have e:AQ [B1 r] [32,124,32]=B1 r:=by simp[AQ,List.intercalate]
   rw[Bs,HI,e];rfl
 | r::q::M,_,h=>by
   obtain⟨W2,w1,w2,w3⟩:=Vv (q::M) (by simp) (fun s hs=>h s (by simp[hs]));have hr:=h r (by simp);refine⟨r.map AG++([124]::W2),by simp,?_,?_⟩
   · rw[List.flatMap_cons,w2];simp[DI]
   · rw[cQ 32 _ _ (by simpa using hr) (by simp),Hv _ _ _ w1,w3,show (r::q::M).map B1=B1 r::(q::M).map B1 from rfl,Hv (B1 r) ((q::M).map B1) _ (by simp)];rfl
end
section
set_option maxRecDepth 20000
theorem Vu:∀ (s:List UInt8) (c:Int),((A4 s c).map fun w=>w.length+1).sum=s.length+1
 |[],_=>rfl
 | b :: r,c=>by
   have i:=Vu r c
   have hp:=U9 r c
   unfold A4
   split
   · simp only[Bs,List.sum_cons,AJ,i,Ay];omega
   · cases hs:A4 r c with
     |nil=>rw[hs] at hp;simp at hp
     | cons w ws=>
       rw[hs] at i
       simp only[Bs,List.sum_cons,Ay] at i ⊢
       omega
theorem fJ:∀ (l:List (List UInt8)),(∀ w∈l,w≠[])→2*l.length≤(l.map fun w=>w.length+1).sum
 |[],_=>by simp
 | w::r,h=>by
   have i:=fJ r fun v hv=>h v (by simp[hv])
   have hw:0<w.length:=List.length_pos_iff.2 (h w (by simp))
   simp only[Bs,List.sum_cons,Ay];omega
theorem gJ(w:List UInt8):∀ (l:List (List UInt8)),w∈l→w.length+1≤(l.map fun w=>w.length+1).sum
 |[],h=>by cases h
 | v::r,h=>by
   simp only[Bs,List.sum_cons]
   rcases BO.1 h with rfl|h
   · omega
   · have:=gJ w r h;omega
theorem VQ(s:List UInt8)(c:Int)(w:List UInt8)(h:w∈A4 s c):w.length≤s.length:=by
 have:=Vu s c;have:=gJ w _ h;omega
theorem nQ(x:List UInt8)(hx:x.length≤1048576) :
 LoopOk (DM x) (Ea x) (Qr x) ([],0,0,[]) ∧
 ((Dl (A4 x 32++[[124]]) [] 0 []=none∧(Am (DM x) (Ea x) ([],0,0,[])).2.1<((A4 x 32++[[124]]).length:Int)) ∨
  ((Am (DM x) (Ea x) ([],0,0,[])).2.1=((A4 x 32++[[124]]).length:Int) ∧
   Dl (A4 x 32++[[124]]) [] 0 []=some ((Am (DM x) (Ea x) ([],0,0,[])).1,(Am (DM x) (Ea x) ([],0,0,[])).2.2))):=by
 have eW:lApp (Al (x,32)) [[(124:UInt8)]]=A4 x 32++[[124]]:=by rw[FH,(Ms x 32 hx).2]
 have hlen:=RB x 32
 have hwl:∀ w∈A4 x 32++[[124]],w.length≤1048576:=fun w hw=>by
  rw[B6,List.mem_singleton] at hw;rcases hw with hw|rfl
  · exact BU (VQ x 32 w hw) hx
  · simp
 have hWl:(A4 x 32++[[124]]).length≤1048578:=by simp only[Cz,Ay,AJ];omega
 generalize A4 x 32++[[124]]=W at *
 have key:=IQ (c:=DM x) (f:=Ea x) (p:=Qr x)
  (fun st=>0≤st.2.1∧st.2.1≤W.length∧(st.1.length:Int)≤st.2.1∧(st.2.2.2.length:Int)≤st.2.1∧Dl (W.drop st.2.1.toNat) st.1 st.2.2.1 st.2.2.2=Dl W [] 0 []) (fun st=>(W.length-st.2.1).toNat) (fun st hI=>by
  obtain⟨row,i,k,L⟩:=st
  obtain⟨i0,i1,i2,i3,i4⟩:=hI
  simp only at i0 i1 i2 i3 i4
  have s1:iAdd .i64 i 1=i+1:=Cx (by unfold A5;omega)
  have eG:lGet W (iNat i) []=W.getD i.toNat []:=by rw[BS,AL]
  unfold Qr Ea DM
  simp only[eW,eG,s1,FH,Ar,Ap,Az,Ca,AB,B8,Bp,A6,Ai,Pu]
  refine⟨⟨fun hc=>?_,fun _=>trivial⟩,fun hc=>?_⟩
  · have hw:=hwl _ (EJ W i.toNat [] (by omega))
    refine⟨⟨i0,hc⟩,by rw[AL];omega,fun _=>?_,fun _=>⟨⟨i0,hc⟩,by rw[AL];omega,(L6 _ hw).1,fun _=>trivial,fun _=>?_⟩⟩
    · unfold AW;simp only[Ay,AJ];omega
    · unfold AW;simp only[Ay,AJ];omega
  · obtain⟨h1,h2⟩:=hc
    have hi:i.toNat<W.length:=by omega
    have hd:W.drop i.toNat=W.getD i.toNat []::W.drop (i+1).toNat:=by
     rw[BT,Ax hi,Dh,show (i+1).toNat=i.toNat+1 by omega];exact JR hi
    rw[hd,Dl] at i4;generalize W.getD i.toNat []=w at *;by_cases hw:w=[124]
    · subst hw;simp only[beq_self_eq_true,AE] at i4 ⊢;exact⟨⟨by omega,by omega,by simp;omega,by simp only[Cz,Ay,AJ];omega,i4⟩,by omega⟩
    · have hb:(w == [124])=false:=Hz.2 hw;rw[hb] at h2;rw[Bool.false_or] at h2;simp only[Ad hw,h2,AE] at i4;simp only[hb,AF,AU]
      exact⟨⟨by omega,by omega,by simp only[Cz,Ay,AJ];omega,by omega,i4⟩,by omega⟩) (x0:=([],0,0,[])) ⟨by simp,by simp,by simp,by simp,rfl⟩
 obtain⟨k1,⟨k2,k3,k4,k5,k6⟩,k7⟩:=key
 refine⟨k1,?_⟩
 generalize Am (DM x) (Ea x) ([],0,0,[])=st at *
 obtain⟨row,i,k,L⟩:=st
 simp only at k2 k3 k4 k5 k6 ⊢
 have eG:lGet W (iNat i) []=W.getD i.toNat []:=by rw[BS,AL]
 by_cases hi:i<(W.length:Int)
 · refine .inl ⟨?_,hi⟩
   unfold DM at k7;simp only[eW,eG,Ar,Ap,Az,Ca,AB,B8,Cq hi,JY,Pu,CK,Hz] at k7
   have hd:W.drop i.toNat=W.getD i.toNat []::W.drop (i.toNat+1):=by
    have h:i.toNat<W.length:=by omega
    rw[BT,Ax h,Dh];exact JR h
   rw[← k6,hd,Dl,Ad k7.1,Ad (by rw[k7.2];simp)]
 · have e:i=(W.length:Int):=by omega
   refine .inr ⟨e,?_⟩;rw[← k6,e,Bg,List.drop_length,Dl]
end
section
set_option maxRecDepth 20000
theorem Wt{k:Int}{M:List CI}(hm:MapOk k M):(∀ q∈M,Kc q)∧(∀ q∈M,q≠[])∧∀ q∈M,(q.length:Int)=k:=by
 have h:∀ q∈M,(q.length:Int)=k∧Kc q:=fun r hr=>by
  obtain⟨i,hi,rfl⟩:=List.mem_iff_getElem.1 hr;have:=e9 hm i hi;rw[BT,Ax hi,Dh] at this;exact⟨this.1,fun a ha=>by rw[Ov];exact(this.2 a ha).1⟩
 refine⟨fun q hq=>(h q hq).2,fun q hq e=>?_,fun q hq=>(h q hq).1⟩;have h1:=(h q hq).1;have:=hm.k1;rw[e] at h1;simp at h1;omega
theorem rT{k:Int}{M:List CI}(hm:MapOk k M):A4 (F4 (k,M)) 32++[[124]]=M.flatMap DI:=by
 obtain⟨h1,h2,_⟩:=Wt hm;have hl:=hm.l1;obtain⟨W,w1,w2,w3⟩:=Vv M (by intro e;rw[e] at hl;simp at hl) h2;have f4:=(QC (k,M) (WU hm)).2.2.2 (Sg hm);simp only at f4;rw[f4,← w3,w2];congr 1
 refine UG 32 W w1 fun w hw=>?_
 have:w∈M.flatMap DI:=by rw[w2];simp[hw]
 rw[List.mem_flatMap] at this;obtain⟨q,hq,hw⟩:=this;unfold DI at hw;rw[B6,List.mem_singleton,List.mem_map] at hw;rcases hw with⟨a,ha,rfl⟩|rfl
 · exact Pr a (h1 q hq a ha) (by decide)
 · decide
theorem SL{k:Int}{M:List CI}(hm:MapOk k M):Dl (A4 (F4 (k,M)) 32++[[124]]) [] 0 []=some ([],k,M):=by
 obtain⟨h1,_,h3⟩:=Wt hm;have hl:=hm.l1;obtain⟨k',e1,e2⟩:=dx M 0 [] h1
 have hne:M≠[]:=by intro e;rw[e] at hl;simp at hl
 rw[rT hm,e1,e2 hne,Cj];congr 3;rw[List.getLast?_eq_some_getLast hne,Dh];exact h3 _ (List.getLast_mem hne)
theorem ct:∀ (L:List CI),L.length≤(L.flatMap DI).length∧∀ q∈L,q.length≤(L.flatMap DI).length
 |[]=>⟨by simp,fun q hq=>by cases hq⟩
 | r::L=>by
   obtain⟨i1,i2⟩:=ct L
   have e:((r::L).flatMap DI).length=r.length+1+(L.flatMap DI).length:=by rw[List.flatMap_cons,Cz];simp[DI]
   refine⟨by rw[e,Ay];omega,fun q hq=>?_⟩;rw[e];rcases BO.1 hq with rfl|hq
   · omega
   · have:=i2 q hq;omega
def P9(x:List UInt8)(v:(Int×List CI)×Bool):Prop:=(∃ k M,MapOk k M∧F4 (k,M)=x∧v=((k,M),true))∨((∀ k M,MapOk k M→F4 (k,M)≠x)∧v=((0,[]),false))
theorem rX(x:List UInt8)(hx:x.length≤1048576):Qz x∧P9 x (Dd x):=by
 obtain⟨lo,ld⟩:=nQ x hx;obtain⟨sp1,sp2⟩:=Ms x 32 hx;have hlen:=RB x 32
 have eW:lApp (Al (x,32)) [[(124:UInt8)]]=A4 x 32++[[124]]:=by rw[FH,sp2]
 rw[jI,jW,eW];generalize Am (DM x) (Ea x) ([],0,0,[])=st at *
 have rm:AW (((Al (x,32)).length+[[(124:UInt8)]].length)*1):=by
  unfold AW;rw[sp2];simp only[Ay,AJ];omega
 rcases ld with⟨ln,ll⟩|⟨le,ls⟩
 · have e1:iLt st.2.1 (lLen (A4 x 32++[[124]]))=true:=by rw[Ar,Ap,Cq ll]
   rw[e1,Bq];refine⟨⟨sp1,rm,lo,fun _=>trivial,fun h=>(by cases h)⟩,.inr ⟨fun k M hm e=>?_,rfl⟩⟩;have:=SL hm;rw[e,ln] at this;cases this
 · have e1:iLt st.2.1 (lLen (A4 x 32++[[124]]))=false:=by rw[Ar,Ap,C5 (by omega)]
   rw[e1,Bh];obtain⟨row,i,k,L⟩:=st;simp only at ls ⊢
   have hwl:∀ w∈A4 x 32++[[124]],w.length≤1048576:=fun w hw=>by
    rw[B6,List.mem_singleton] at hw;rcases hw with hw|rfl
    · exact BU (VQ x 32 w hw) hx
    · simp
   obtain⟨b1,b2,b3⟩:=V0 _ [] 0 [] hwl (fun _ h=>by cases h) (fun _ h=>by cases h) ls;simp only[List.flatMap_nil,HI,Cj] at b1
   have hne:∀ w∈A4 x 32++[[124]],w≠[]:=fun w hw=>by
    rw[← b1,B6] at hw;rcases hw with hw|hw
    · rw[List.mem_flatMap] at hw;obtain⟨q,hq,hw⟩:=hw;unfold DI at hw;rw[B6,List.mem_singleton,List.mem_map] at hw;rcases hw with⟨a,ha,rfl⟩|rfl
      · exact Xk a (b3 q hq a ha)
      · decide
    · obtain⟨a,ha,rfl⟩:=List.mem_map.1 hw;exact Xk a (b2 a ha)
   have t1:=fJ _ fun w hw=>hne w (Tc _ hw)
   rw[Vu] at t1;have hl:=congrArg List.length b1;simp only[Cz,A0,Ay,AJ] at hl;obtain⟨f1,f2⟩:=ct L;have hsm:GU (k,L):=⟨⟨by show L.length≤1048576;omega,fun r hr=>⟨by have:=f2 r hr;omega,fun a _=>by simp[OI]⟩⟩,trivial⟩;refine⟨⟨sp1,rm,lo,fun h=>(by cases h),fun _=>(Q8 (k,L) hsm).1⟩,?_⟩;rw[Z7]
   cases hk:E6 (k,L) with
   | false=>
     rw[AB];simp only[Bool.not_false,Bq];refine .inr ⟨fun k' M hm e=>?_,rfl⟩;have:=SL hm;rw[e,ls] at this;simp only[Ah,Ak] at this;obtain⟨_,rfl,rfl⟩:=this;rw[Sg hm] at hk;cases hk
   | true=>
     rw[AB];simp only[G2,Bh];have hm:=UP hsm hk;obtain⟨_,h2,_⟩:=Wt hm;have hl1:=hm.l1
     have hrow:row=[]:=by
      rcases List.eq_nil_or_concat row with h|⟨q,a,rfl⟩
      · exact h
      · exfalso;rw[List.concat_eq_append] at b1 b2;rw[EU,← Bw] at b1;have:=(List.append_inj' b1 rfl).2;simp only[Bs,HI,G6,MV] at this;exact Pr a (b2 a (by simp)) (b:=124) (by decide) (by rw[this];simp)
     subst hrow;rw[HI,JZ] at b1;obtain⟨W,w1,w2,w3⟩:=Vv L (by intro e;rw[e] at hl1;simp at hl1) h2;rw[w2] at b1;have hW:=(List.append_inj' b1 rfl).1;have f4:=(QC (k,L) hsm).2.2.2 hk;simp only at f4;refine .inl ⟨k,L,hm,?_,rfl⟩;rw[f4,← w3,hW];exact aj 32 x
end
section
set_option maxRecDepth 20000
theorem aa(sep:List UInt8):∀ (k:Nat) (s:List UInt8),(Lib.splitK sep 0 k s).length≤k+1∧∀ w∈Lib.splitK sep 0 k s,w.length≤s.length
 |0,s=>by simp[Lib.splitK]
 | k + 1,s=>by
   unfold Lib.splitK
   split
   · exact⟨by simp,fun w hw=>by rw[List.mem_singleton] at hw;rw[hw];exact AH _⟩
   · obtain⟨i1,i2⟩:=aa sep k (s.drop ((Lib.index s sep).toNat+sep.length))
     refine⟨by simp only[Ay];omega,fun w hw=>?_⟩
     rcases BO.1 hw with rfl|hw
     · rw[HL];omega
     · have:=i2 w hw
       rw[Pq] at this;omega
theorem qE(x:List UInt8)(i:Int)(q:Int)(L:List CI)(part:List UInt8)(hp:part.length≤1048576)(hL:L.length≤4)(ep:lGet (Bo (x,[(32:UInt8),124,32])) (iNat i) []=part) :
 LoopOk (DK x (i,q,L)) (D9 x (i,q,L)) (Jn x (i,q,L)) ([],0) ∧
 (¬ (Am (DK x (i,q,L)) (D9 x (i,q,L)) ([],0)).2<((A4 part 32).length:Int)→L.length<4∧(Am (DK x (i,q,L)) (D9 x (i,q,L)) ([],0)).1.length≤32):=by
 have eU:Dp (part,32)=A4 part 32:=(UN part 32 hp).2
 have hwl:∀ w∈A4 part 32,w.length≤1048576:=fun w hw=>BU (VQ part 32 w hw) hp
 have hpos:=U9 part 32
 have hlen:=RB part 32
 generalize A4 part 32=U at *
 obtain⟨k1,⟨k2,k3,k4,k5⟩,k6⟩:=IQ (c:=DK x (i,q,L)) (f:=D9 x (i,q,L)) (p:=Jn x (i,q,L))
  (fun st=>0≤st.2∧st.2≤U.length∧st.1.length≤32∧(0<st.2→L.length<4)) (fun st=>(U.length-st.2).toNat) (fun st hI=>by
  obtain⟨row,j⟩:=st
  obtain⟨i0,i1,i2,i3⟩:=hI
  simp only at i0 i1 i2 i3
  have s1:iAdd .i64 j 1=j+1:=Cx (by unfold A5;omega)
  have eG:lGet U (iNat j) []=U.getD j.toNat []:=by rw[BS,AL]
  unfold Jn D9 DK
  simp only[ep,eU,eG,s1,FH,Ar,C9,Ap,Az,Ca,AB,A6,Ai,CW,CK,BL]
  refine⟨⟨fun hc=>?_,fun _=>trivial⟩,fun hc=>?_⟩
  · have hw:=hwl _ (EJ U j.toNat [] (by omega))
    refine⟨⟨i0,hc⟩,by rw[AL];omega,(L6 _ hw).2.1,fun _=>trivial,fun _=>?_⟩;unfold AW;simp only[Ay,AJ];omega
  · obtain⟨h1,_,h2,h3⟩:=hc
    exact⟨⟨by omega,by omega,by simp only[Cz,Ay,AJ];omega,fun _=>by omega⟩,by omega⟩) (x0:=([],0)) ⟨by simp,by simp,by simp,fun h=>by simp at h⟩
 exact⟨k1,fun h=>⟨k5 (by omega),k4⟩⟩
theorem qx(x:List UInt8)(hx:x.length≤1048576):LR x∧P9 x (Bl x):=by
 have eS:Bo (x,[(32:UInt8),124,32])=Lib.split x [32,124,32]:=QR _;obtain⟨pl,pw⟩:=aa [32,124,32] (Lib.count x [32,124,32]) x;have pc:=Lib.count_le x [32,124,32];change (Lib.split x [32,124,32]).length≤_ at pl;change ∀ w∈Lib.split x [32,124,32],_ at pw;rw[← eS] at pl pw;generalize hP:Bo (x,[(32:UInt8),124,32])=P at *
 obtain⟨k1,⟨k2,k3,k4,k5⟩,k6⟩:=IQ (c:=DN x) (f:=Eb x) (p:=LN x)
  (fun st=>0≤st.1∧st.1≤P.length∧st.2.2.length≤4∧∀ r∈st.2.2,r.length≤32) (fun st=>(P.length-st.1).toNat) (fun st hI=>by
  obtain⟨i,q,L⟩:=st
  obtain⟨i0,i1,i2,i3⟩:=hI
  simp only at i0 i1 i2 i3
  have s1:iAdd .i64 i 1=i+1:=Cx (by unfold A5;omega)
  have hpart:(lGet P (iNat i) []).length≤1048576:=by
   rw[BS,AL];by_cases h:i.toNat<P.length
   · exact BU (pw _ (EJ P i.toNat [] h)) hx
   · rw[BT,Bm (by omega)];simp
  obtain⟨n1,n2⟩:=qE x i q L _ hpart i2 (by rw[hP])
  obtain⟨t1,t2⟩:=UN (lGet P (iNat i) []) 32 hpart
  unfold LN Eb DN
  simp only[hP,t2,s1,FH,Ar,Ap,Az,AB,A6,Ai,CW,BL]
  refine⟨⟨fun hc=>⟨⟨i0,hc⟩,by rw[AL];omega,t1,n1,fun _=>trivial,fun _=>?_⟩,fun _=>trivial⟩,fun hc=>?_⟩
  · unfold AW;simp only[Ay,AJ];omega
  · obtain⟨h1,h2⟩:=hc
    obtain⟨n3,n4⟩:=n2 h2;refine⟨⟨by omega,by omega,by simp only[Cz,Ay,AJ];omega,fun r hr=>?_⟩,by omega⟩;rw[B6,List.mem_singleton] at hr;rcases hr with hr|rfl
    · exact i3 r hr
    · exact n4) (x0:=(0,0,[])) ⟨by simp,by simp,by simp,by simp⟩
 rw[Yr];have hv:=Yu x;rw[hP] at hv ⊢;generalize Am (DN x) (Eb x) (0,0,[])=st at *;obtain⟨i,k,L⟩:=st;simp only at k2 k3 k4 k5 hv ⊢;have hsm:GU (k,L):=⟨⟨by show L.length≤1048576;omega,fun r hr=>⟨by have:=k5 r hr;omega,fun a _=>by simp[OI]⟩⟩,trivial⟩;refine⟨⟨by rw[QP];exact⟨by simp only;omega,by simp⟩,k1,fun _=>trivial,fun _=>⟨(Q8 (k,L) hsm).2,fun _=>trivial,fun _=>(QC (k,L) hsm).2.1⟩⟩,?_⟩;by_cases he:∃ k M,MapOk k M∧F4 (k,M)=x
 · obtain⟨k',M,hm,e⟩:=he;have:=(mT hm).2.2;rw[e] at this;exact .inl ⟨k',M,hm,e,this⟩
 · refine .inr ⟨fun k' M hm e=>he ⟨k',M,hm,e⟩,?_⟩;rw[hv];simp only[Bp];split
   · rfl
   · split
     · rfl
     · rename_i h;exfalso;simp only[Ca,AB,JT,M3,CK,E0,AV] at h;exact he ⟨k,L,UP hsm h.1,h.2⟩
theorem uZ{x:List UInt8}{v u:(Int×List CI)×Bool}(h1:P9 x v)(h2:P9 x u)(hs:Dd x=v):v=u:=by
 rcases h1 with⟨k,M,m1,m2,m3⟩|⟨n1,n2⟩
 · rcases h2 with⟨k',M',m1',m2',m3'⟩|⟨n1',_⟩
   · have e1:=SL m1;have e2:=SL m1';rw[m2] at e1;rw[m2',e1] at e2;simp only[Ah,Ak,HG] at e2;rw[m3,m3',e2.1,e2.2]
   · exact absurd m2 (n1' k M m1)
 · rcases h2 with⟨k',M',m1',m2',m3'⟩|⟨_,n2'⟩
   · exact absurd m2' (n1 k' M' m1')
   · rw[n2,n2']
theorem uT{x:List UInt8}{v:(Int×List CI)×Bool}(h:P9 x v):GU v.1:=by
 rcases h with⟨k,M,m1,_,rfl⟩|⟨_,rfl⟩
 · exact WU m1
 · exact⟨⟨by simp,by simp⟩,trivial⟩
theorem jb(x:List UInt8)(hw:TuX.wf F1.h x):Qn x∧Qo x=true:=by
 rw[iX,iW];by_cases hx:x.length≤1048576
 · have hg:iGt (lLen x) 1048576=false:=by rw[DZ,Ap];simp;omega
   obtain⟨r1,d1⟩:=rX x hx;obtain⟨r2,d2⟩:=qx x hx;have r3:Bl x=Dd x:=(uZ d1 d2 rfl).symm;have hsm:=uT d1;rw[r3];obtain⟨q1,q2⟩:=su _ (Dd x).1 hsm;have q2:=q2.2 rfl;obtain⟨n1,⟨n2,n3⟩,n4,n5⟩:=sj _ hsm 1 (by omega) (by omega);simp only[hg,r1,r2,q1,q2,n1,n4,n5];simp[Ca,Az,AB,MO,CU,Ar]
   all_goals first|exact n1|omega|skip
 · have hg:iGt (lLen x) 1048576=true:=by rw[DZ,Ap];simp;omega
   simp only[hg];simp[Ca]
end
end
end Go.Ag
