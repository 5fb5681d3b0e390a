/- Part 6 of what FnNumbers needs. No conditions. -/
import Derived.Test.YtijikmakanpmlaaDoorLibE
namespace Go.Ag
set_option linter.unusedSimpArgs false
set_option linter.unusedVariables false
noncomputable section
theorem Co(a:Bool):bNot a=!a:=by simp only[K3]
theorem BP(a b:Bool):bAnd a b=(a&&b):=by simp only[S5]
theorem DM(a b:Bool):bOr a b=(a||b):=by simp only[YV]
theorem XX(a b:Bool):bIff a b=(a == b):=by simp only[Yf]
theorem BO{α:Type}(c:Bool)(x y:α):bSel c x y=if c=true then x else y:=by cases c<;>simp[Hh,FN]
theorem KZ(a b:Int):iEq a b=decide (a=b):=by
 rw[Qx];by_cases h:a=b<;>simp[h]
theorem Je(a b:Int):iNe a b=!decide (a=b):=by
 rw[Y3];by_cases h:a=b<;>simp[h]
theorem A0(a b:Int):iLt a b=decide (a<b):=by simp only[Ze]
theorem MD(a b:Int):iLe a b=decide (a≤b):=by simp only[Y6]
theorem FO(a b:Int):iGt a b=decide (b<a):=by simp only[YZ]
theorem KQ(a b:Int):iGe a b=decide (b≤a):=by simp only[YW]
theorem Yt(a b:List UInt8):sEq a b=(a == b):=by simp only[Zd]
theorem Yi(a b:List UInt8):sNe a b=!(a == b):=by simp only[Zc]
section
variable {α:Type}
theorem A6(l:List α):lLen l=(l.length:Int):=by simp only[TA]
theorem kX(l:List α):lN l=l.length:=by simp only[Nl]
theorem D7(l:List α)(j:Nat)(d:α):lGet l j d=l.getD j d:=by simp only[KO]
theorem SN(l:List α)(j:Nat)(x:α):lSet l j x=l.set j x:=by simp only[MO]
theorem jh(l:List α)(a b:Nat):lSub l a b=(l.drop a).take (b-a):=by simp only[Tg]
theorem ib(l:List α)(n:Nat):lTake l n=l.take n:=by simp only[S0]
theorem H4(l m:List α):lApp l m=l++m:=by simp only[Ji]
theorem jt(n:Int)(x:α):lRep n x=List.replicate n.toNat x:=by simp only[Ye]
theorem BL(a:Int):iNat a=a.toNat:=by simp only[TB]
theorem iZ(a b:List UInt8):sAdd a b=a++b:=by simp only[YR]
end
def Bl(n:Int):Prop:=-9223372036854775808≤n∧n≤9223372036854775807
theorem O9{n:Int}(h:Bl n):IntKind.i64.wrap n=n:=by
 obtain⟨h1,h2⟩:=h;show (if decide (n % 18446744073709551616≥9223372036854775808)=true then n % 18446744073709551616-18446744073709551616 else n % 18446744073709551616)=n;simp only[Bf];split<;>omega
theorem B5{a b:Int}(h:Bl (a+b)):iAdd .i64 a b=a+b:=by rw[YQ];exact O9 h
theorem Kw{a b:Int}(h:Bl (a-b)):iSub .i64 a b=a-b:=by rw[YB];exact O9 h
theorem Pk{a b:Int}(h:Bl (a*b)):iMul .i64 a b=a*b:=by rw[YO];exact O9 h
theorem SO{a b:Int}(ha:0≤a):iRem a b=a % b:=by rw[Yu];exact Int.tmod_eq_emod_of_nonneg ha
section
variable {X:Type} {c:X→Bool} {f:X→X} {p:X→Prop}
theorem Ps(I:X→Prop)(m:X→Nat)(h:∀ x,I x→p x∧(c x=true→I (f x)∧m (f x)<m x)){x0:X}(h0:I x0) :
 LoopOk c f p x0∧I (AN c f x0)∧c (AN c f x0)=false:=by
 have go:∀ (n:Nat) (x:X),m x<n→I x→∃ y,LoopTo c f p x y∧I y∧c y=false:=by
  intro n
  induction n with
  |zero=>intro x hm;exact absurd hm (TI _)
  | succ n ih=>
    intro x hm hI;obtain⟨h1,h2⟩:=h x hI
    cases hc:c x with
    |false=>exact⟨x,.stop h1 hc,hI,hc⟩
    | true=>
      obtain⟨h3,h4⟩:=h2 hc;obtain⟨y,h5,h6,h7⟩:=ih (f x) (by omega) h3;exact⟨y,.go h1 hc h5,h6,h7⟩
 obtain⟨y,h1,h2,h3⟩:=go _ x0 (Tx _) h0
 rw[h1.val]
 exact⟨⟨y,h1⟩,h2,h3⟩
theorem Kv(n:Nat)(st:Nat→X){x0:X}(h0:st 0=x0)(hs:∀ k,k<n→p (st k)∧c (st k)=true∧f (st k)=st (k+1))(he:p (st n)∧c (st n)=false):LoopOk c f p x0∧AN c f x0=st n:=by
 have go:∀ k,k≤n→LoopTo c f p (st (n-k)) (st n):=by
  intro k
  induction k with
  |zero=>intro _;exact .stop he.1 he.2
  | succ k ih=>
    intro hk;obtain⟨h1,h2,h3⟩:=hs (n-(k+1)) (by omega);refine .go h1 h2 ?_;rw[h3,show n-(k+1)+1=n-k by omega];exact ih (by omega)
 have:=go n (Ba _);rw[P7,h0] at this;exact⟨⟨_,this⟩,this.val⟩
end
def CW(t:Nat→Bool):Nat→Nat→Nat
 |0,i=>i
 |k+1,i=>if t i then i else CW t k (i+1)
theorem OK(t:Nat→Bool):∀ k i,i≤CW t k i∧CW t k i≤i+k
 |0,i=>⟨Ba _,Ba _⟩
 | k+1,i=>by
   unfold CW
   split
   · omega
   · have:=OK t k (i+1);omega
theorem Rl(t:Nat→Bool):∀ k i,CW t k i<i+k→t (CW t k i)=true
 |0,i,h=>by unfold CW at h;omega
 | k + 1,i,h=>by
   unfold CW at h ⊢
   split
   · rename_i ht;exact ht
   · rename_i ht
     rw[Ad ht] at h
     exact Rl t k (i+1) (by omega)
theorem Rn(t:Nat→Bool):∀ k i j,i≤j→j<CW t k i→t j=false
 |0,i,j,h,h'=>by unfold CW at h';omega
 | k + 1,i,j,h,h'=>by
   unfold CW at h'
   split at h'
   · omega
   · rename_i ht
     by_cases hj:j=i
     · subst hj;simpa using ht
     · exact Rn t k (i+1) j (by omega) h'
theorem fm{c:Int→Bool}{f:Int→Int}{p:Int→Prop}(n:Nat)(t:Nat→Bool)(hn:(n:Int)≤9223372036854775806)(hc:∀ i:Nat,i≤n→c i=(decide (i<n)&&!t i))(hf:∀ i:Nat,i<n→f i=iAdd .i64 i 1)(hp:∀ i:Nat,i≤n→p i) :
 LoopOk c f p 0∧AN c f 0=(CW t n 0:Nat):=by
 have hle:=OK t n 0
 refine Kv (CW t n 0) (fun k=>(k:Int)) rfl (fun k hk=>?_) ⟨hp _ (by omega),?_⟩
 · have hk':k<n:=by omega
   refine⟨hp k (by omega),?_,?_⟩
   · rw[hc k (by omega),Rn t n 0 k (by omega) hk];simp[hk']
   · rw[hf k hk',B5 (by unfold Bl;omega)];omega
 · rw[hc _ (by omega)]
   by_cases h:CW t n 0<n
   · rw[Rl t n 0 (by omega)];simp
   · simp[h]
theorem cV{t:Nat→Bool}{n:Nat}:CW t n 0=n↔∀ i,i<n→t i=false:=by
 constructor
 · intro h i hi;exact Rn t n 0 i (by omega) (by omega)
 · intro h;have hle:=OK t n 0;rcases Bi (CW t n 0) n with h1|h1
   · have:=Rl t n 0 (by omega);rw[h _ h1] at this;cases this
   · omega
theorem kt{c:Int→Bool}{f:Int→Int}(n:Nat)(t:Nat→Bool)(hn:(n:Int)≤9223372036854775806)(hc:∀ i:Nat,i≤n→c i=(decide (i<n)&&!t i))(hf:∀ i:Nat,i<n→f i=iAdd .i64 i 1):AN c f 0=(CW t n 0:Nat):=(fm (p:=fun _=>True) n t hn hc hf (fun _ _=>trivial)).2
theorem Mk{α:Type}(x:List α)(i:Nat)(d:α)(h:i<x.length):x.getD i d∈x:=by
 rw[Ey,AQ h];exact D9 h
theorem Te{X:Type}{c:X→Bool}{f:X→X}{p:X→Prop}(ix:X→Int)(n:Int)(hn:n≤9223372036854775806)(hc:∀ x,0≤ix x→ix x≤n→c x=true→ix x<n)(hf:∀ x,ix (f x)=iAdd .i64 (ix x) 1)(hp:∀ x,0≤ix x→ix x≤n→p x){x0:X}(h0:0≤ix x0)(h1:ix x0≤n):LoopOk c f p x0:=by
 refine(Ps (fun x=>0≤ix x∧ix x≤n) (fun x=>(n-ix x).toNat) (fun x hI=>⟨hp x hI.1 hI.2,fun hcc=>?_⟩) ⟨h0,h1⟩).1;have:=hc x hI.1 hI.2 hcc;obtain⟨k1,k2⟩:=hI;have e:=hf x;rw[B5 (by unfold Bl;omega)] at e;refine⟨by omega,by omega⟩
theorem W0{c:Int→Bool}{f:Int→Int}{n:Nat}(h:¬ AN c f 0<(n:Int))(hn:(n:Int)≤9223372036854775806)(hc:∀ i:Nat,i≤n→c i=true→i<n)(hf:∀ i:Nat,i<n→f i=iAdd .i64 i 1):∀ i:Nat,i<n→c i=true:=by
 have hv:=kt (c:=c) (f:=f) n (fun i=>!c i) hn (fun i hi=>by
  by_cases h1:i<n
  · simp[h1]
  · cases h2:c i with
    |false=>simp[h1]
    |true=>exact absurd (hc i hi h2) h1) hf
 rw[hv] at h;have hle:=OK (fun i=>!c i) n 0
 have e:CW (fun i=>!c i) n 0=n:=by omega
 intro i hi;have:=cV.1 e i hi;simpa using this
theorem Vt(x:Int×Int×Int×Int):HA x=Eh x:=by
 simp only[HA,Uz,CR,UL,UP,UA,Co,BP,DM,XX,BO,KZ,Je,A0,MD,FO,KQ,Yt,Yi,A6,kX,D7,SN,jh,ib,H4,jt,BL,iZ];rw[Bool.eq_iff_iff]
 repeat' split
 all_goals simp only[Ai,B0,Cq,FU,K8,CK,Bf,CX,Jn,Qt,AA,HU] at *
 all_goals omega
theorem Up(x:Int×Int×Int×Int):N3 x:=by
 have h:∀ y,F5 y:=fun y=>by rw[F5];trivial
 rw[N3];simp[h]
theorem Uq(x:Int×Int×Int×Int):Lw x:=by
 have h1:∀ y,J0 y:=fun y=>by rw[aY];trivial
 have h2:∀ y,IH y:=fun y=>by rw[bB];trivial
 have h3:∀ y,Ly y:=fun y=>by rw[aM];trivial
 rw[Z5];simp[h1,h2,h3]
theorem Xy(a b c:Int):CR (a,b,c)=(decide (b≤a)&&decide (a≤c)):=by rw[CR];simp only[BP,KQ,MD]
theorem XM (x):F5 x:=by rw[F5];trivial
def Wq(_:Int×Int×Int×Int):Prop:=True
theorem WY {X Y:Type} {c:X→Bool} {f:X→X} {p:X→Prop} {d:Y→Bool} {g:Y→Y} {q:Y→Prop} (R:X→Y→Prop) (m:X→Nat)
 (h:∀ x y,R x y→p x∧q y∧c x=d y∧(c x=true→R (f x) (g y)∧m (f x)<m x)) {x0:X} {y0:Y} (h0:R x0 y0) :
 LoopOk c f p x0∧LoopOk d g q y0∧R (AN c f x0) (AN d g y0)∧c (AN c f x0)=false:=by
 have go:∀ (n:Nat) (x:X) (y:Y),m x<n→R x y→∃ u v,LoopTo c f p x u∧LoopTo d g q y v∧R u v∧c u=false:=by
  intro n
  induction n with
  |zero=>intro x y hm;exact absurd hm (TI _)
  | succ n ih=>
    intro x y hm hR;obtain⟨h1,h2,h3,h4⟩:=h x y hR
    cases hc:c x with
    |false=>exact⟨x,y,.stop h1 hc,.stop h2 (by rw[← h3];exact hc),hR,hc⟩
    | true=>
      obtain⟨h5,h6⟩:=h4 hc;obtain⟨u,v,a1,a2,a3,a4⟩:=ih _ _ (by omega) h5;exact⟨u,v,.go h1 hc a1,.go h2 (by rw[← h3];exact hc) a2,a3,a4⟩
 obtain⟨u,v,a1,a2,a3,a4⟩:=go _ x0 y0 (Tx _) h0
 exact⟨⟨_,a1⟩,⟨_,a2⟩,by rw[a1.val,a2.val];exact a3,by rw[a1.val];exact a4⟩
theorem O3{α:Type}(x:List α)(d:α){i:Nat}(h:i<x.length):x.take i++[x.getD i d]=x.take (i+1):=by
 rw[List.take_add_one,Ey,AQ h];rfl
theorem Xu{n:Int}(h0:0≤n)(h1:n<256):IntKind.u8.wrap n=n:=by
 simp only[IntKind.wrap,IntKind.bits,IntKind.signed,Qs,As,AB];omega
theorem Sx{n:Int}(h0:0≤n)(h1:n<256):iConv .u8 n=n:=by rw[SU];exact Xu h0 h1
theorem kr{a b:Nat}(ha:a<256)(hb:b<256):iAnd .u8 (a:Int) (b:Int)=((a &&& b:Nat):Int):=by
 have e:(BitVec.ofInt 8 (a:Int) &&& BitVec.ofInt 8 (b:Int)).toNat=a &&& b:=by
  rw[BitVec.ofInt_natCast,BitVec.ofInt_natCast,BitVec.toNat_and,BitVec.toNat_ofNat,BitVec.toNat_ofNat,Nat.mod_eq_of_lt (by omega),Nat.mod_eq_of_lt (by omega)]
 have h:a &&& b≤a:=Nat.and_le_left;rw[TG];show IntKind.u8.wrap ((BitVec.ofInt 8 (a:Int) &&& BitVec.ofInt 8 (b:Int)).toNat:Int)=_;rw[e];exact Xu (by omega) (by omega)
theorem kh(a k:Nat)(h:k≤8):iShr .u8 (a:Int) (k:Int)=((a / 2^k:Nat):Int):=by
 rw[Ym];show Int.fdiv (a:Int) (2^min (k:Int).toNat 8)=_;rw[Ez,Nat.min_eq_left h,Int.fdiv_eq_ediv_of_nonneg _ (by exact_mod_cast Ig _)];norm_cast
def Bytes(x:List Int):Prop:=∀ a∈x,0≤a∧a<256
theorem Bytes.get{x:List Int}(h:Bytes x)(i:Nat):∃ n:Nat,n<256∧x.getD i 0=(n:Int):=by
 by_cases hi:i<x.length
 · obtain⟨h0,h1⟩:=h _ (Mk x i 0 hi);exact⟨(x.getD i 0).toNat,by omega,by omega⟩
 · exact⟨0,by omega,by rw[Ey,A8 (by omega)];rfl⟩
theorem Bytes.of{x:List Int}(h:CT.wf (.sl (.one (.int .u8))) x):Bytes x:=by
 intro a ha;have:=h.2 a ha;simp only[RT.wf,CT.wf] at this
 have h:IntKind.u8.min≤a∧a≤IntKind.u8.max:=by simpa [Lit.wf] using this
 have e1:IntKind.u8.min=0:=by decide
 have e2:IntKind.u8.max=255:=by decide
 rw[e1,e2] at h;omega
def RepOk(x:Int×List Int):Prop:=(0≤x.1∧x.1≤15)∧∀ i,i<x.2.length→(1≤x.2.getD i 0∧x.2.getD i 0≤56)∧(0<i→x.2.getD (i-1) 0<x.2.getD i 0)
theorem RepOk.code{x:Int×List Int}(h:RepOk x)(i:Nat)(hi:i<x.2.length):(i:Int)+1≤x.2.getD i 0:=by
 induction i with
 |zero=>have:=(h.2 0 hi).1;omega
 | succ i ih=>
   have h1:=ih (by omega);have h2:=(h.2 (i+1) hi).2 (by omega);rw[Nat.add_sub_cancel] at h2;omega
theorem RepOk.len{x:Int×List Int}(h:RepOk x):x.2.length≤56:=by
 rcases Bi 56 x.2.length with h1|h1
 · have h2:=h.code 56 h1;have h3:=(h.2 56 h1).1;omega
 · exact h1
section
set_option maxRecDepth 20000
theorem SJ(s:List UInt8)(j:Int):sGet s j=((s.getD j.toNat 0).toNat:Int):=by simp only[Yg]
theorem I5(s:List UInt8):sRow s=s.map fun b=>((b.toNat:Nat):Int):=by simp only[YT]
theorem jM(l:List Int):rowS l=l.map fun n=>UInt8.ofNat n.toNat:=by simp only[Yj]
theorem eQ(s:List UInt8):rowS (sRow s)=s:=by
 rw[I5,jM,List.map_map]
 conv=>rhs;rw[← List.map_id s]
 apply List.map_congr_left;intro b _;simp
theorem iA(a b:List UInt8):sRow (a++b)=sRow a++sRow b:=by rw[I5,I5,I5,Fh]
theorem iv(a:List UInt8):(sRow a).length=a.length:=by rw[I5,Bg]
end
def ez(x:List (Int×Int×Int×Int)):Prop:=x.length≤1048576∧∀ a∈x,Wq a
def Ra(x:List (List (Int×Int×Int×Int))):Prop:=x.length≤1048576∧∀ a∈x,ez a
def O2(x:Int×(List (List (Int×Int×Int×Int)))):Prop:=Ra x.2∧True
theorem c7(x:Int×List (List (Int×Int×Int×Int))):Lz x=GP x:=by
 rw[Lz,QR,Xy,Xy]
 have inner:∀ (i a n:Int) (A B:Bool),bNot (bOr A (bSel (iEq a 1) (bOr (iEq i 0) B) B))=bNot (bOr A (bSel (iEq i 0) (bOr (iEq a 1) B) B)):=by
  intro i a n A B;simp only[Co,DM,BO,KZ];by_cases h1:a=1<;>by_cases h2:i=0<;>simp[h1,h2]
 simp only[Vt,fun i a A B=>inner i a 0 A B];generalize bNot (iLt (AN _ _ _) (lLen x.2))=L;rw[Bool.eq_iff_iff];simp only[BP,Co,DM,A0,FO,A6,Ai,B0,Cq,FU,K8,CK,Bf,CX,Jn,Qt,AA,HU];cases L<;>simp<;>omega
theorem bU(x:Int×List (List (Int×Int×Int×Int)))(h:O2 x):QU x∧N4 x:=by
 obtain⟨k,x⟩:=x;have h:Ra x:=h.1;rw[QU,ai]
 have inl:∀ i:Int,0≤i→i<x.length→(lGet x (iNat i) []).length≤1048576:=fun i h0 hi=>by
  rw[D7,BL];exact(h.2 _ (Mk x i.toNat [] (by omega))).1
 refine⟨⟨?_,fun _=>trivial,fun _=>⟨XM _,fun _=>XM _,fun _=>trivial⟩⟩,fun _=>trivial,fun _=>?_⟩
 all_goals
  refine Te (fun st=>st) x.length (by have:=h.1;omega) (fun st _ _ hc=>?_) (fun st=>rfl) (fun st h0 h1=>?_) (by simp) (by simp)
  · rw[BP,A0 st,A6,Ai,Bf] at hc
    exact hc.1
  · refine⟨fun hlt=>?_,fun _=>trivial⟩
    rw[A0,A6,Bf] at hlt;have hlt:st<(x.length:Int):=hlt
    have h3:iNat st<x.length:=by rw[BL];omega
    have hl:=inl st h0 hlt;refine⟨⟨h0,hlt⟩,h3,fun _=>trivial,fun _=>?_⟩;refine Te (fun st=>st) (lGet x (iNat st) []).length (by omega) (fun j _ _ hc=>?_) (fun st=>rfl) (fun j j0 j1=>?_) (by simp) (by simp)
    · rw[BP,A0 j,A6,Ai,Bf] at hc;exact hc.1
    · have fin:iLt j (lLen (lGet x (iNat st) []))=true→j<((lGet x (iNat st) []).length:Int)∧iNat j<(lGet x (iNat st) []).length:=fun hj=>by
       rw[A0,A6,Bf] at hj;exact⟨hj,by rw[BL];omega⟩
      first
       |exact⟨⟨h0,hlt⟩,h3,fun hj=>⟨⟨h0,hlt⟩,h3,⟨j0,(fin hj).1⟩,(fin hj).2,Up _⟩,fun _=>trivial⟩
       |exact⟨fun hj=>⟨⟨j0,(fin hj).1⟩,(fin hj).2,Uq _⟩,fun _=>trivial⟩
structure MapOk (k:Int) (x:List (List (Int×Int×Int×Int))):Prop where
 k1:1≤k
 k2:k≤32
 l1:1≤x.length
 l2:x.length≤4
 row:∀ i:Nat,i<x.length→((x.getD i []).length:Int)=k
 act:∀ i j:Nat,i<x.length→j<(x.getD i []).length→Eh ((x.getD i []).getD j (0,0,0,0))=true∧(i=0→((x.getD i []).getD j (0,0,0,0)).1≠1)∧(((x.getD i []).getD j (0,0,0,0)).1≠9→((x.getD i []).getD j (0,0,0,0)).2.2.2<x.length)
theorem dn{k:Int}{x:List (List (Int×Int×Int×Int))}(hs:O2 (k,x))(h:GP (k,x)=true):MapOk k x:=by
 rw[QR,BP,Ai] at h;obtain⟨h1,h2⟩:=h;simp only[Co,DM,A0,FO,A6,Ai,B0,Cq,FU,K8,CK,Bf,CX,Jn,Qt,AA,HU] at h1;rw[Co,Cq,A0 _ (lLen _),A6,CX] at h2;have hs:Ra x:=hs.1
 have all:=W0 h2 (by show (x.length:Int)≤_;omega) (fun i hi hc=>by
  rw[BP,A0 (i:Int),A6,Ai,Bf] at hc
  have:=hc.1;show i<x.length;simp only at this;omega) (fun i hi=>rfl)
 have row:∀ i:Nat,i<x.length→((x.getD i []).length:Int)=k∧∀ j:Nat,j<(x.getD i []).length→Eh ((x.getD i []).getD j (0,0,0,0))=true∧(i=0→((x.getD i []).getD j (0,0,0,0)).1≠1)∧(((x.getD i []).getD j (0,0,0,0)).1≠9→((x.getD i []).getD j (0,0,0,0)).2.2.2<x.length):=by
  intro i hi;have hc:=all i hi;rw[BP,BP,Ai,Ai] at hc;obtain⟨_,c1,c2⟩:=hc;simp only[Co,Je,A6,D7,BL,Ez,Bool.not_not,Bf] at c1;rw[Co,Cq,A0 _ (lLen _),A6,CX] at c2;have hli:=(hs.2 _ (Mk x i [] hi)).1
  have hin:(lGet x (iNat (i:Int)) [])=x.getD i []:=by rw[D7,BL,Ez]
  have all2:=W0 c2 (by show ((lGet x (iNat (i:Int)) []).length:Int)≤_;rw[hin];omega) (fun j hj hc=>by
   simp only[BP,A0,A6,Ai,Bf] at hc
   have:=hc.1;show j<(lGet x (iNat (i:Int)) []).length;omega) (fun j hj=>rfl)
  refine⟨c1,fun j hj=>?_⟩;have hc:=all2 j (by show j<(lGet x (iNat (i:Int)) []).length;rw[hin];exact hj);simp only[hin] at hc;simp only[BP,Co,DM,BO,KZ,Je,KQ,A6,D7,BL,Ez,Ai,Cq,CK,FU] at hc;obtain⟨_,d1,d2⟩:=hc;refine⟨d1,fun hz=>?_,fun h9=>?_⟩
  · subst hz;simp only[Int.ofNat_zero,Int.natCast_zero,decide_true,Az,CK,CX] at d2;exact d2.1
  · split at d2
    · simp only[CK,K8,CX,FU,Bf] at d2;rcases d2.2 with d2|d2
      · exact absurd d2 h9
      · omega
    · simp only[K8,CX,FU,Bf] at d2;rcases d2 with d2|d2
      · exact absurd d2 h9
      · omega
 exact⟨by omega,by omega,by omega,by omega,fun i hi=>(row i hi).1,fun i j hi hj=>(row i hi).2 j hj⟩
theorem Xv(a:Int×Int×Int×Int):NR a=IC a:=by rw[NR,QM,Vt]
theorem XE(a:Int×Int×Int×Int):QL a∧NM a:=by rw[QL,ZD];exact⟨Up _,Uq _⟩
theorem gY(a:Int×Int×Int×Int):(IC a).length≤3:=by
 rw[QM,BO];split
 · simp
 · simp
theorem Rb{k:Int}{x:List (List (Int×Int×Int×Int))}(hm:MapOk k x){o:List Int}(ho:o.length≤100000){i:Nat}(hi:i<x.length) :
 LoopOk (Hw (k,x)) (IA (k,x) (o,(i:Int))) (NH (k,x) (o,(i:Int))) (o,0) ∧
 LoopOk (GG (k,x) (o,(i:Int))) (Hx (k,x) (o,(i:Int))) (NI (k,x) (o,(i:Int))) (o,0) ∧
 AN (Hw (k,x)) (IA (k,x) (o,(i:Int))) (o,0)=AN (GG (k,x) (o,(i:Int))) (Hx (k,x) (o,(i:Int))) (o,0) ∧
 (AN (Hw (k,x)) (IA (k,x) (o,(i:Int))) (o,0)).1.length≤o.length+96:=by
 have hr:=hm.row i hi
 have k1:=hm.k1
 have k2:=hm.k2
 generalize hl:x.getD i []=l at hr
 have hg:lGet x (iNat (i:Int)) []=l:=by rw[D7,BL,Ez];exact hl
 obtain⟨b1,b2,⟨b3,b4,b5,b6⟩,_⟩:=WY (c:=Hw (k,x)) (f:=IA (k,x) (o,(i:Int))) (p:=NH (k,x) (o,(i:Int))) (d:=GG (k,x) (o,(i:Int))) (g:=Hx (k,x) (o,(i:Int))) (q:=NI (k,x) (o,(i:Int))) (x0:=(o,0)) (y0:=(o,0))
  (fun s t=>s=t∧0≤s.2∧s.2≤k∧(s.1.length:Int)≤o.length+3*s.2) (fun s=>(k-s.2).toNat) (by
   rintro⟨a,j⟩ t ⟨rfl,h1,h2,h3⟩
   simp only at h1 h2 h3
   have e4:iAdd .i64 j 1=j+1:=B5 (by unfold Bl;omega)
   have pl:=gY
   refine⟨?_,?_,?_,fun hcc=>?_⟩
   · simp only[NH,hg,A0,Bf,Xv]
     refine⟨fun hk=>?_,fun _=>trivial⟩;have:=pl (lGet l (iNat j) (0,0,0,0));refine⟨⟨by omega,by omega⟩,by rw[BL];omega,⟨by omega,by omega⟩,by rw[BL];omega,(XE _).1,by unfold AW;omega⟩
   · simp only[NI,hg,A0,A6,Bf]
     refine⟨fun hk=>?_,fun _=>trivial⟩;have:=pl (lGet l (iNat j) (0,0,0,0));refine⟨⟨by omega,by omega⟩,by rw[BL];omega,(XE _).2,by unfold AW;omega⟩
   · simp only[Hw,GG,hg,A0,A6,hr]
   · simp only[Hw,A0,Bf] at hcc
     simp only[IA,Hx,hg,Xv,e4,H4,DQ];have:=pl (lGet l (iNat j) (0,0,0,0))
     exact⟨⟨trivial,by omega,by omega,by omega⟩,by omega⟩) ⟨rfl,by simp,by simp;omega,by simp⟩
 exact⟨b1,b2,b3,by omega⟩
theorem U0(k:Int)(x:List (List (Int×Int×Int×Int)))(hs:O2 (k,x)):Ur (k,x)∧Lt (k,x)∧CP (k,x)=QN (k,x)∧(QN (k,x)).length≤386:=by
 obtain⟨a1,a2⟩:=bU (k,x) hs;rw[Ur,ZH,QN,Us];simp only[c7]
 cases hv:GP (k,x) with
 |false=>simp[a1,a2,BO,Co]
 | true=>
   have hm:=dn hs hv;have l1:=hm.l1;have l2:=hm.l2
   have e0:lApp [] [(iConv .u8 k),(iConv .u8 (lLen x))]=[(iConv .u8 k),(iConv .u8 (lLen x))]:=by rw[H4];rfl
   rw[e0]
   obtain⟨b1,b2,⟨b3,b4,b5,b6⟩,_⟩:=WY (c:=NJ (k,x)) (f:=NG (k,x)) (p:=QI (k,x)) (d:=JM (k,x)) (g:=JN (k,x)) (q:=QJ (k,x)) (x0:=([(iConv .u8 k),(iConv .u8 (lLen x))],0)) (y0:=([(iConv .u8 k),(iConv .u8 (lLen x))],0))
    (fun s t=>s=t∧0≤s.2∧s.2≤x.length∧(s.1.length:Int)≤2+96*s.2) (fun s=>(x.length-s.2).toNat) (by
     rintro⟨a,i⟩ t ⟨rfl,h1,h2,h3⟩
     simp only at h1 h2 h3
     obtain⟨i,rfl⟩:∃ n:Nat,i=n:=⟨i.toNat,by omega⟩
     have e4:iAdd .i64 (i:Int) 1=(i:Int)+1:=B5 (by unfold Bl;omega)
     refine⟨?_,?_,rfl,fun hcc=>?_⟩
     · simp only[QI,A0,A6,Bf]
       exact⟨fun hk=>(Rb hm (by omega) (by omega)).1,fun _=>trivial⟩
     · simp only[QJ,A0,A6,Bf]
       exact⟨fun hk=>⟨⟨by omega,by omega⟩,by rw[BL];omega,(Rb hm (by omega) (by omega)).2.1⟩,fun _=>trivial⟩
     · simp only[NJ,A0,A6,Bf] at hcc
       obtain⟨_,_,r3,r4⟩:=Rb hm (o:=a) (i:=i) (by omega) (by omega);simp only[NG,JN,r3,e4];rw[r3] at r4
       exact⟨⟨trivial,by omega,by omega,by omega⟩,by omega⟩) ⟨rfl,by simp,by simp,by simp⟩
   have r2:AW 2:=by unfold AW;omega
   refine⟨?_,?_,?_,?_⟩
   · simp[a1,Co,b1,r2]
   · simp[a2,Co,b2]
   · rw[Co];simp only[KV,FN];rw[b3]
   · rw[Co];simp only[KV,FN];omega
def BB(c:List Int×Int×Int):Prop:=0≤c.2.1∧c.2.1≤c.1.length∧c.1.length≤1048576
theorem PY(x:Int):0≤iAnd .i64 x 255∧iAnd .i64 x 255≤255:=by
 rw[TG]
 have h:(BitVec.ofInt IntKind.i64.bits x &&& BitVec.ofInt IntKind.i64.bits 255).toNat≤255:=by
  rw[BitVec.toNat_and];exact Nat.and_le_right
 have:IntKind.i64.wrap ((BitVec.ofInt IntKind.i64.bits x &&& BitVec.ofInt IntKind.i64.bits 255).toNat:Int)=((BitVec.ofInt IntKind.i64.bits x &&& BitVec.ofInt IntKind.i64.bits 255).toNat:Int):=O9 (by unfold Bl;omega);rw[this];omega
theorem Pw(c:List Int×Int×Int)(h:BB c):F4 c∧0≤(Bc c).1∧(Bc c).1≤255∧BB (c.1,(Bc c).2):=by
 obtain⟨h1,h2,h3⟩:=h;rw[bp,bA];simp only[BO,A0,A6,BL,Bf,CX];refine⟨⟨by omega,by omega,fun _=>by omega,fun _=>trivial⟩,?_,?_,?_⟩
 · split
   · exact(PY _).1
   · exact(PY _).1
 · split
   · exact(PY _).2
   · exact(PY _).2
 · unfold BB;simp only;split
   · rw[B5 (by unfold Bl;omega)];omega
   · omega
theorem DH(c:List Int×Int×Int)(n:Int)(h:BB c):Cu (c,n)∧BB (c.1,(Al (c,n)).2)∧(n≤0→(Al (c,n)).1=0)∧(0<n→0≤(Al (c,n)).1∧(Al (c,n)).1<n):=by
 rw[aR,aB];obtain⟨a1,a2,a3,a4⟩:=Pw c h;obtain⟨b1,b2,b3,b4⟩:=Pw _ a4;obtain⟨c1,c2,c3,c4⟩:=Pw _ b4;obtain⟨d1,d2,d3,d4⟩:=Pw _ c4;simp only at b1 b2 b3 b4 c1 c2 c3 c4 d1 d2 d3 d4 ⊢;simp only[BO,MD,Bf,CX];by_cases hn:n≤0
 · simp only[Ab hn];exact⟨⟨fun _=>trivial,fun h=>absurd hn h⟩,h,fun _=>trivial,fun h=>by omega⟩
 · simp only[Ad hn];by_cases hm:n≤256
   · simp only[Ab hm];refine⟨⟨fun h=>absurd h hn,fun _=>⟨fun _=>⟨a1,by omega⟩,fun h=>absurd hm h⟩⟩,a4,fun h=>absurd h hn,fun _=>?_⟩;rw[SO a2];exact⟨Int.emod_nonneg _ (by omega),Int.emod_lt_of_pos _ (by omega)⟩
   · simp only[Ad hm];refine⟨⟨fun h=>absurd h hn,fun _=>⟨fun h=>absurd h hm,fun _=>⟨a1,b1,c1,d1,by omega⟩⟩⟩,d4,fun h=>absurd h hn,fun _=>?_⟩;generalize (Bc c).1=p at a2 a3;generalize (Bc (c.1,(Bc c).2)).1=q at b2 b3;generalize (Bc (c.1,(Bc (c.1,(Bc c).2)).2)).1=r at c2 c3;generalize (Bc (c.1,(Bc (c.1,(Bc (c.1,(Bc c).2)).2)).2)).1=s at d2 d3;rw[Pk (a:=p) (by unfold Bl;omega),Pk (a:=q) (by unfold Bl;omega),Pk (a:=r) (by unfold Bl;omega),B5 (a:=p*16777216) (by unfold Bl;omega),B5 (a:=p*16777216+q*65536) (by unfold Bl;omega),B5 (a:=p*16777216+q*65536+r*256) (by unfold Bl;omega),SO (by omega)];exact⟨Int.emod_nonneg _ (by omega),Int.emod_lt_of_pos _ (by omega)⟩
theorem XL(c:List Int×Int×Int)(n:Int)(h:BB c):IG (c,n)∧BB (c.1,(Cm (c,n)).2):=by
 obtain⟨a1,a2,_⟩:=DH c n h;rw[bF,bd];exact⟨a1,a2⟩
theorem jw(c:List Int×Int×Int)(l:List Int)(hl:0<l.length)(h:BB c):JR (c,l)∧BB (c.1,(E4 (c,l)).2)∧(E4 (c,l)).1∈l:=by
 obtain⟨a1,a2,_,a4⟩:=DH c (lLen l) h;rw[ZI,ZK];have a4:=a4 (by rw[A6];omega);simp only;generalize (Al (c,lLen l)).1=i at a4 ⊢;rw[A6] at a4;refine⟨⟨a1,a4,by rw[BL];omega⟩,a2,?_⟩;rw[D7,BL];exact Mk l _ _ (by omega)
theorem j9(x:List Int)(h:x.length≤1048576):J7 x∧BB (GU x)∧(GU x).1=x:=by
 rw[b7,bH];refine⟨?_,⟨by simp,by simp,h⟩,rfl⟩;refine Te (fun st=>st.2) x.length (by omega) (fun st _ _ hc=>?_) (fun _=>rfl) (fun st h0 h1=>?_) (by simp) (by simp)
 · unfold QV at hc;simp only[BP,A0,A6,Ai,Bf] at hc;exact hc.1
 · unfold UG;refine⟨fun hc=>?_,fun _=>trivial⟩;simp only[BP,A0,A6,Ai,Bf] at hc;rw[BL];omega
theorem kf(x:List Int):Kg x=decide (1048576<x.length)∧OD x:=by
 rw[du,dt];refine⟨?_,trivial⟩;rw[FO,A6];congr 1;exact propext (by omega)
def Lf(a:Int×Int×Int×Int):Prop:=Eh a=true∧a.1≠1
theorem Eu(k c m n:Int):Eh (k,c,m,n)=true ↔
 ((k=0∨k=1∨k=10)∧c=0∧m=0∧n=0)∨(k=2∧n=0∧0≤c∧c≤56∧0≤m∧m≤15∧(c≠0∨m≠0))∨((k=3∨k=4)∧c=0∧m=0∧1≤n∧n≤3)∨((k=5∨k=9)∧c=0∧m=0∧0≤n∧n≤3) ∨
 (k=6∧1≤c∧c≤56∧1≤m∧m≤15∧n=0)∨(k=7∧1≤c∧c≤56∧m=0∧1≤n∧n≤3)∨(k=8∧c=0∧1≤m∧m≤15∧n=0):=by
 rw[Uz]
 simp only[BO,DM,BP,KZ,Je,UL,UP,UA,KQ,MD]
 repeat' split
 all_goals simp only[Ai,B0,Cq,FU,K8,CK,Bf,CX,Jn,Qt,AA,HU,Fc,Jn,decide_not] at *
 all_goals omega
theorem iW(c:List Int×Int×Int)(n:Int)(h:BB c)(n1:1≤n)(n4:n≤4):J3 (c,n)∧BB (c.1,(Br (c,n)).2)∧Lf (Br (c,n)).1∧((Br (c,n)).1.1≠9→(Br (c,n)).1.2.2.2<n):=by
 rw[bn,bw]
 obtain⟨m,em,m1,m3,mn⟩:∃ m,iMax 1 (iSub .i64 n 1)=m∧1≤m∧m≤3∧(1<n→m=n-1):=by
  refine⟨_,rfl,?_⟩;rw[Kw (by unfold Bl;omega),Tz];split<;>omega
 have em':iMax 1 n=n:=by rw[Tz];split<;>omega
 obtain⟨a1,a2,_,a4⟩:=DH c 56 h;have a4:=a4 (by omega);obtain⟨b1,b2,_,b4⟩:=DH _ 15 a2;have b4:=b4 (by omega);change BB (c.1,(E3 (c,n)).2) at b2;change 0≤(E3 (c,n)).1∧(E3 (c,n)).1<15 at b4;obtain⟨c1,c2⟩:=XL _ 2 b2;change BB (c.1,(BA (c,n)).2) at c2
 have hc2:BB (c.1,(bSel (BA (c,n)).1 (BA (c,n)).2.1 (BA (c,n)).2.1),(bSel (BA (c,n)).1 (BA (c,n)).2.2 (BA (c,n)).2.2)):=by
  simp only[BO,ite_self];exact c2
 obtain⟨d1,d2,_,d4⟩:=DH _ (iMax 1 (iSub .i64 n 1)) hc2;change BB (c.1,(Cz (c,n)).2) at d2
 have d4:0≤(Cz (c,n)).1∧(Cz (c,n)).1<m:=by
  have:=d4 (by rw[em];omega);rw[em] at this
  have e:Cz (c,n)=Al ((c.1,(bSel (BA (c,n)).1 (BA (c,n)).2.1 (BA (c,n)).2.1),(bSel (BA (c,n)).1 (BA (c,n)).2.2 (BA (c,n)).2.2)),m):=by unfold Cz;rw[em]
  rw[e];exact this
 obtain⟨e1,e2,_,e4⟩:=DH _ 16 d2;have e4:=e4 (by omega);change BB (c.1,(Ar (c,n)).2) at e2;change 0≤(Ar (c,n)).1∧(Ar (c,n)).1<16 at e4;obtain⟨f1,f2,_,f4⟩:=DH _ 4 e2;have f4:=f4 (by omega);change BB (c.1,(JW (c,n)).2) at f2;change 0≤(JW (c,n)).1∧(JW (c,n)).1<4 at f4;obtain⟨g1,g2,_,g4⟩:=DH _ 3 e2;have g4:=g4 (by omega);change BB (c.1,(GL (c,n)).2) at g2;change 0≤(GL (c,n)).1∧(GL (c,n)).1<3 at g4;obtain⟨i1,i2,_,i4⟩:=DH _ (iMax 1 n) e2;have i4:=i4 (by rw[em'];omega);change BB (c.1,(JT (c,n)).2) at i2;change 0≤(JT (c,n)).1∧(JT (c,n)).1<iMax 1 n at i4;rw[em'] at i4
 have hM:1≤bSel (BA (c,n)).1 2 (iAdd .i64 1 (E3 (c,n)).1)∧bSel (BA (c,n)).1 2 (iAdd .i64 1 (E3 (c,n)).1)≤15:=by
  rw[BO,B5 (by unfold Bl;omega)];split<;>omega
 have hC:1≤iAdd .i64 1 (Al (c,56)).1∧iAdd .i64 1 (Al (c,56)).1≤56:=by rw[B5 (by unfold Bl;omega)];omega
 have hN:1≤iAdd .i64 1 (Cz (c,n)).1∧iAdd .i64 1 (Cz (c,n)).1≤m:=by rw[B5 (by unfold Bl;omega)];omega
 refine⟨?_,?_⟩
 · refine⟨a1,b1,c1,d1,e1,fun _=>trivial,fun _=>⟨fun _=>trivial,fun _=>⟨fun _=>trivial,fun _=>⟨fun _=>trivial,fun _=>⟨fun _=>f1,fun _=>⟨fun _=>trivial,fun _=>⟨fun _=>i1,fun _=>⟨fun _=>⟨fun _=>⟨g1,?_,?_⟩,fun _=>trivial⟩,fun _=>trivial⟩⟩⟩⟩⟩⟩⟩⟩
   · simp only[AX,AY];omega
   · simp only[AX,AY,BL];omega
 generalize bSel (BA (c,n)).1 2 (iAdd .i64 1 (E3 (c,n)).1)=M at hM ⊢;generalize iAdd .i64 1 (Al (c,56)).1=C at hC ⊢;generalize iAdd .i64 1 (Cz (c,n)).1=N at hN ⊢;generalize JT (c,n)=s7 at i2 i4 ⊢;generalize GL (c,n)=s6 at g2 g4 ⊢;generalize JW (c,n)=s5 at f2 f4 ⊢;generalize Ar (c,n)=s4 at e2 e4 ⊢
 have hL:1<n→Lf (lGet [(3,0,0,N),(4,0,0,N),(7,C,0,N)] (iNat s6.1) (0,0,0,0))∧(lGet [(3,0,0,N),(4,0,0,N),(7,C,0,N)] (iNat s6.1) (0,0,0,0):Int×Int×Int×Int).2.2.2<n:=by
  intro hn;have:=mn hn;rw[D7,BL]
  have:s6.1=0∨s6.1=1∨s6.1=2:=by omega
  rcases this with e|e|e
  · rw[e];exact⟨⟨(Eu 3 0 0 N).2 (by omega),by simp⟩,by show N<n;omega⟩
  · rw[e];exact⟨⟨(Eu 4 0 0 N).2 (by omega),by simp⟩,by show N<n;omega⟩
  · rw[e];exact⟨⟨(Eu 7 C 0 N).2 (by omega),by simp⟩,by show N<n;omega⟩
 generalize lGet [(3,0,0,N),(4,0,0,N),(7,C,0,N)] (iNat s6.1) (0,0,0,0)=L at hL ⊢
 have g:∀ (b:Bool) (p q:(Int×Int×Int×Int)×Int×Int),(BB (c.1,p.2)∧Lf p.1∧(p.1.1≠9→p.1.2.2.2<n))→(b=false→BB (c.1,q.2)∧Lf q.1∧(q.1.1≠9→q.1.2.2.2<n))→BB (c.1,(bSel b p q).2)∧Lf (bSel b p q).1∧((bSel b p q).1.1≠9→(bSel b p q).1.2.2.2<n):=fun b p q hp hq=>by
  rw[BO];cases b
  · exact hq rfl
  · exact hp
 have hA:∀ (k c m z:Int),Eh (k,c,m,z)=true→k≠1→(k≠9→z<n)→Lf (k,c,m,z)∧(k≠9→z<n):=fun k c m z h1 h2 h3=>⟨⟨h1,h2⟩,h3⟩
 refine g _ _ _ ⟨?_,hA _ _ _ _ ((Eu _ _ _ _).2 (by omega)) (by omega) (by omega)⟩ fun q0=>g _ _ _ ⟨e2,hA _ _ _ _ ((Eu _ _ _ _).2 (by omega)) (by omega) (by omega)⟩ fun q1=>g _ _ _ ⟨e2,hA _ _ _ _ ((Eu _ _ _ _).2 (by omega)) (by omega) (by omega)⟩ fun q2=>g _ _ _ ⟨e2,hA _ _ _ _ ((Eu _ _ _ _).2 (by omega)) (by omega) (by omega)⟩ fun q3=>g _ _ _ ⟨e2,hA _ _ _ _ ((Eu _ _ _ _).2 (by omega)) (by omega) (by omega)⟩ fun q4=>g _ _ _ ⟨f2,hA _ _ _ _ ((Eu _ _ _ _).2 (by omega)) (by omega) (fun h=>absurd rfl h)⟩ fun q5=>g _ _ _ ⟨e2,hA _ _ _ _ ((Eu _ _ _ _).2 (by omega)) (by omega) (by omega)⟩ fun q6=>g _ _ _ ⟨i2,hA _ _ _ _ ((Eu _ _ _ _).2 (by omega)) (by omega) (by omega)⟩ fun q7=>?_
 · simp only[BO,ite_self];exact e2
 · have hn:1<n:=by
    simp only[BP,Co,q1,q2,q3,q4,q5,q6,q7,Bool.not_false,Qb,DM,FO,CK,FU,Bf] at q0;exact q0.2
   exact⟨g2,(hL hn).1,fun _=>(hL hn).2⟩
theorem Wr{c:Int→Bool}{f:Int→Int}{n:Nat}(hn:n≤1048576)(h1:∀ i:Nat,i<n→c i=true)(h2:c n=false)(h3:∀ i:Int,f i=iAdd .i64 i 1):AN c f 0=(n:Int):=
 (Kv (p:=fun _=>True) n (fun i=>(i:Int)) rfl (fun i hi=>⟨trivial,h1 i hi,by rw[h3,B5 (by unfold Bl;omega)];omega⟩) ⟨trivial,h2⟩).2
theorem gz{k:Int}{x:List (List (Int×Int×Int×Int))}(h:MapOk k x):GP (k,x)=true:=by
 obtain⟨k1,k2,l1,l2,row,act⟩:=h;rw[QR];rw[Wr (n:=x.length) (by omega) ?_ ?_ fun _=>rfl]
 · simp only[BP,Co,DM,A0,FO,A6];simp;omega
 · intro i hi
   have e:lGet x (iNat (i:Int)) []=x.getD i []:=by rw[D7,BL,Ez]
   have hr:=row i hi;rw[Wr (n:=(x.getD i []).length) (by omega) ?_ ?_ fun _=>rfl]
   · simp only[e,BP,Co,A0,Je,A6,hr];simp;omega
   · intro j hj;have hact:=act i j hi hj
     have e2:lGet (x.getD i []) (iNat (j:Int)) (0,0,0,0)=(x.getD i []).getD j (0,0,0,0):=by rw[D7,BL,Ez]
     simp only[e,e2,BP,Co,DM,BO,A0,KZ,Je,KQ,A6];generalize (x.getD i []).getD j (0,0,0,0)=a at hact ⊢;obtain⟨a1,a2,a3⟩:=hact;rw[a1]
     have hj':(j:Int)<((x.getD i []).length:Int):=by omega
     simp only[hj',decide_true,Qb,KV,Bool.false_or]
     have h10:(!decide (a.1=9)&&decide ((x.length:Int)≤a.2.2.2))=false:=by
      by_cases h9:a.1=9
      · rw[I2 h9];rfl
      · have:=a3 h9;rw[I1 (by omega:¬ (x.length:Int)≤a.2.2.2),Bool.and_false]
     by_cases hz:i=0
     · have:=a2 hz;rw[h10,I1 this];simp
     · rw[h10];simp[hz]
   · simp only[e,BP,A0,A6];simp
 · simp only[BP,A0,A6];simp
def Y9(n:Int)(i:Int)(a:Int×Int×Int×Int):Prop:=Eh a=true∧(i=0→a.1≠1)∧(a.1≠9→a.2.2.2<n)
def Qp(k n:Int)(i:Int)(r:List (Int×Int×Int×Int)):Prop:=(r.length:Int)=k∧∀ a∈r,Y9 n i a
def G9(k n:Int)(x:List (List (Int×Int×Int×Int))):Prop:=∀ i:Nat,i<x.length→Qp k n i (x.getD i [])
theorem W9{k:Int}{x:List (List (Int×Int×Int×Int))}(k1:1≤k)(k2:k≤32)(l1:1≤x.length)(l2:x.length≤4)(h:G9 k x.length x):MapOk k x:=
 ⟨k1,k2,l1,l2,fun i hi=>(h i hi).1,fun i j hi hj=>by
  obtain⟨a,b,c⟩:=(h i hi).2 _ (Mk _ j (0,0,0,0) hj)
  exact⟨a,fun e=>b (by omega),c⟩⟩
theorem fe{k n:Int}{x:List (List (Int×Int×Int×Int))}{r:List (Int×Int×Int×Int)}(h:G9 k n x)(hr:Qp k n x.length r):G9 k n (x++[r]):=by
 intro i hi;simp only[DQ,AX,AY] at hi;by_cases hl:i<x.length
 · rw[Ey,A7 hl,← Ey];exact h i hl
 · have:i=x.length:=by omega
   subst this;rw[Ey,Ce (Ba _)];simpa using hr
theorem fG(c:List Int×Int×Int)(k:Int)(x0:Int×List (List (Int×Int×Int×Int))×Int×Int)(h:BB (c.1,x0.2.2))(k0:0≤k)(k2:k≤32)(hn:1≤iAdd .i64 1 (Al (c,4)).1∧iAdd .i64 1 (Al (c,4)).1≤4) :
 LoopOk (Fs (c,k)) (F2 (c,k) x0) (N1 (c,k) x0) ([],0,x0.2.2) ∧
 Qp k (iAdd .i64 1 (Al (c,4)).1) x0.1 (AN (Fs (c,k)) (F2 (c,k) x0) ([],0,x0.2.2)).1 ∧
 BB (c.1,(AN (Fs (c,k)) (F2 (c,k) x0) ([],0,x0.2.2)).2.2):=by
 have key:=Ps (c:=Fs (c,k)) (f:=F2 (c,k) x0) (p:=N1 (c,k) x0)
  (fun st=>BB (c.1,st.2.2)∧0≤st.2.1∧st.2.1≤k∧Qp st.2.1 (iAdd .i64 1 (Al (c,4)).1) x0.1 st.1) (fun st=>(k-st.2.1).toNat) (fun st hI=>by
  obtain⟨r,j,cu⟩:=st
  obtain⟨i0,i1,i2,i3,i4⟩:=hI
  simp only at i0 i1 i2 i3 i4
  have s1:iAdd .i64 j 1=j+1:=B5 (by unfold Bl;omega)
  unfold N1 F2 Fs
  simp only[s1,H4,A0,FO,BP,Bf]
  generalize iAdd .i64 1 (Al (c,4)).1=n at hn i4 ⊢
  obtain⟨d1,d2,d3,d4⟩:=iW (c.1,cu) n i0 hn.1 hn.2
  generalize Br ((c.1,cu),n)=D at d2 d3 d4 ⊢
  obtain⟨o1,o2⟩:=XL (c.1,D.2) 3 d2
  simp only at o2
  generalize Cm ((c.1,D.2),3)=O at o2 ⊢
  refine⟨⟨fun hc=>⟨d1,⟨fun _=>o1,fun _=>trivial⟩,?_⟩,fun _=>trivial⟩,fun hc=>⟨⟨?_,by omega,by omega,by simp only[DQ,AX,AY];omega,?_⟩,by omega⟩⟩
  · unfold AW;simp only[AX,AY];omega
  · simp only[BO]
    by_cases hx:0<x0.1
    · simp only[hx,decide_true,Az,Qb,ite_self];exact o2
    · simp only[hx,decide_false,Qs,As,AB];exact d2
  · intro a ha
    rw[CY,List.mem_singleton] at ha;rcases ha with ha|rfl
    · exact i4 a ha
    · simp only[BO];split
      · rename_i hb;rw[Ai,Bf] at hb;exact⟨(Eu 1 0 0 0).2 (by omega),fun h=>by omega,fun _=>by simp only;omega⟩
      · exact⟨d3.1,fun _=>d3.2,d4⟩) (x0:=([],0,x0.2.2)) ⟨h,by simp,k0,by simp,by simp⟩
 obtain⟨q1,⟨q2,q3,q4,q5⟩,q6⟩:=key
 refine⟨q1,?_,q2⟩
 generalize AN (Fs (c,k)) (F2 (c,k) x0) ([],0,x0.2.2)=st at *
 unfold Fs at q6
 simp only[A0,CX] at q6
 have:st.2.1=k:=by omega
 rw[this] at q5
 exact q5
theorem gO(c:List Int×Int×Int)(k:Int)(h:BB c)(k0:1≤k)(k2:k≤32) :
 J2 (c,k)∧BB (c.1,(Cl (c,k)).2)∧MapOk k (Cl (c,k)).1.2∧(Cl (c,k)).1.1=k:=by
 rw[bg,aZ]
 obtain⟨b1,b2,_,b4⟩:=DH c 4 h
 have b4:=b4 (by omega)
 have hn:1≤iAdd .i64 1 (Al (c,4)).1∧iAdd .i64 1 (Al (c,4)).1≤4:=by rw[B5 (by unfold Bl;omega)];omega
 have key:=Ps (c:=ID (c,k)) (f:=JV (c,k)) (p:=QS (c,k))
  (fun st=>BB (c.1,st.2.2)∧0≤st.1∧st.1≤iAdd .i64 1 (Al (c,4)).1∧(st.2.1.length:Int)=st.1∧G9 k (iAdd .i64 1 (Al (c,4)).1) st.2.1) (fun st=>(iAdd .i64 1 (Al (c,4)).1-st.1).toNat) (fun st hI=>by
  obtain⟨i,x,cu⟩:=st
  obtain⟨i0,i1,i2,i3,i4⟩:=hI
  simp only at i0 i1 i2 i3 i4
  have s1:iAdd .i64 i 1=i+1:=B5 (by unfold Bl;omega)
  obtain⟨r1,r2,r3⟩:=fG c k (i,x,cu) i0 (by omega) k2 hn
  unfold QS JV ID
  simp only[s1,H4,A0,Bf] at r1 r2 r3 ⊢
  refine⟨⟨fun hc=>⟨r1,?_⟩,fun _=>trivial⟩,fun hc=>⟨⟨r3,by omega,by omega,by simp only[DQ,AX,AY];omega,fe i4 (by rw[i3];exact r2)⟩,by omega⟩⟩
  unfold AW;simp only[AX,AY];omega) (x0:=(0,[],(Al (c,4)).2)) ⟨b2,by simp,by simp only;omega,by simp,fun i hi=>by simp at hi⟩
 obtain⟨q1,⟨q2,q3,q4,q5,q6⟩,q7⟩:=key
 generalize AN (ID (c,k)) (JV (c,k)) (0,[],(Al (c,4)).2)=st at *
 unfold ID at q7
 simp only[A0,CX] at q7
 have e:st.1=iAdd .i64 1 (Al (c,4)).1:=by omega
 have l1:1≤st.2.1.length:=by omega
 have l2:st.2.1.length≤4:=by omega
 refine⟨⟨b1,q1⟩,q2,W9 k0 k2 l1 l2 ?_,rfl⟩
 show G9 k (st.2.1.length:Int) st.2.1
 rw[q5,e];exact q6
theorem iB{k n:Int}{x:List (List (Int×Int×Int×Int))}{i j:Nat}{a:Int×Int×Int×Int}(h:G9 k n x)(hi:i<x.length)(ha:Y9 n i a):G9 k n (x.set i ((x.getD i []).set j a)):=by
 intro p hp;rw[List.length_set] at hp;rw[Ey,ED];by_cases hpi:i=p
 · subst hpi;simp only[Az,hi,Fg];obtain⟨r1,r2⟩:=h i hi;refine⟨by rw[List.length_set];exact r1,fun b hb=>?_⟩;rcases List.mem_or_eq_of_mem_set hb with hb|rfl
   · exact r2 b hb
   · exact ha
 · simp only[Ad hpi];rw[← Ey];exact h p hp
theorem jx{k:Int}{x:List (List (Int×Int×Int×Int))}(h:MapOk k x):G9 k x.length x:=by
 intro i hi;refine⟨h.row i hi,fun a ha=>?_⟩;obtain⟨j,hj,rfl⟩:=List.mem_iff_getElem.1 ha;have:=h.act i j hi hj;rw[Ey (l:=x.getD i []),AQ hj,Fg] at this;exact⟨this.1,fun e=>this.2.1 (by omega),this.2.2⟩
theorem eX(c:List Int×Int×Int)(k:Int)(h:BB c)(k0:1≤k)(k2:k≤32) :
 JY (c,k)∧MapOk k (IF (c,k)).1.2∧(IF (c,k)).1.1=k:=by
 rw[aH,aO]
 obtain⟨d1,d2,d3,d4⟩:=gO c k h k0 k2
 obtain⟨b1,b2,_,b4'⟩:=DH (c.1,(Cl (c,k)).2) 6 d2
 have b4:=b4' (by omega)
 clear b4'
 simp only at b1 b2 b4 ⊢
 generalize Al ((c.1,(Cl (c,k)).2),6)=B at b2 b4 ⊢
 generalize Cl (c,k)=M at *
 have key:=Ps (c:=JS) (f:=JQ (c,k)) (p:=QO (c,k))
  (fun st=>BB (c.1,st.2.2)∧0≤st.1∧st.1≤6∧st.2.1.length=M.1.2.length∧G9 k M.1.2.length st.2.1) (fun st=>st.1.toNat) (fun st hI=>by
  obtain⟨i,x,cu⟩:=st
  obtain⟨i0,i1,i2,i3,i4⟩:=hI
  simp only at i0 i1 i2 i3 i4
  have hl1:=d3.l1
  have hl2:=d3.l2
  unfold QO JQ JS
  simp only
  have eL:lLen x=(x.length:Int):=A6 x
  simp only[eL]
  obtain⟨p1,p2,_,p4'⟩:=DH (c.1,cu) (x.length:Int) i0
  have p4:=p4' (by omega)
  clear p4'
  generalize Al ((c.1,cu),(x.length:Int))=P at p2 p4 ⊢
  obtain⟨q1,q2,_,q4'⟩:=DH (c.1,P.2) k p2
  have q4:=q4' (by omega)
  clear q4'
  simp only at q1 q2
  generalize Al ((c.1,P.2),k)=Q at q2 q4 ⊢
  obtain⟨r1,r2,r3⟩:=jw (c.1,Q.2) [4,5,3] (by simp) q2
  simp only at r1 r2
  generalize E4 ((c.1,Q.2),[4,5,3])=R at r2 r3 ⊢
  have eS:iSub .i64 (x.length:Int) 1=(x.length:Int)-1:=by rw[Kw (by unfold Bl;omega)]
  obtain⟨t1,t2,_,t4⟩:=DH (c.1,R.2) ((x.length:Int)-1) r2
  simp only at t1 t2
  simp only[eS]
  generalize Al ((c.1,R.2),(x.length:Int)-1)=T at t2 t4 ⊢
  have hP:P.1.toNat<x.length:=by omega
  have hrow:=i4 P.1.toNat hP
  have eG:lGet x (iNat P.1) []=x.getD P.1.toNat []:=by rw[D7,BL]
  have hrl:((x.getD P.1.toNat []).length:Int)=k:=hrow.1
  rw[BL] at eG
  simp only[FO,BL,eG,Bf,CX]
  refine⟨⟨fun hc=>⟨p1,q1,fun hg=>⟨⟨p4.1,p4.2⟩,⟨hP,hP⟩,r1,t1,⟨q4.1,by omega⟩,hP,by omega⟩,fun _=>trivial⟩,fun _=>trivial⟩,fun hc=>⟨⟨?_,?_,?_,?_,?_⟩,?_⟩⟩
  · simp only[BO]
    split
    · exact t2
    · exact q2
  · rw[Kw (by unfold Bl;omega)];omega
  · rw[Kw (by unfold Bl;omega)];omega
  · simp only[BO,SN]
    split
    · rw[List.length_set];exact i3
    · exact i3
  · simp only[BO,SN]
    split
    · rename_i hg;rw[Bf] at hg;have t4:=t4 (by omega);refine iB i4 hP ⟨?_,fun _=>?_,fun _=>?_⟩
      · have hN:iAdd .i64 1 T.1=1+T.1:=B5 (by unfold Bl;omega);rw[hN];simp only[Bx,List.not_mem_nil,or_false] at r3;refine(Eu _ _ _ _).2 ?_;omega
      · simp only[Bx,List.not_mem_nil,or_false] at r3;simp only;omega
      · have hN:iAdd .i64 1 T.1=1+T.1:=B5 (by unfold Bl;omega);simp only[hN];omega
    · exact i4
  · rw[Kw (by unfold Bl;omega)];omega) (x0:=(B.1,M.1.2,B.2)) ⟨b2,b4.1,by simp only;omega,rfl,jx d3⟩
 obtain⟨q1,⟨q2,q3,q4,q5,q6⟩,q7⟩:=key
 generalize AN JS (JQ (c,k)) (B.1,M.1.2,B.2)=st at *
 refine⟨⟨d1,b1,q1⟩,W9 k0 k2 ?_ ?_ ?_,d4⟩
 · rw[q5];exact d3.l1
 · rw[q5];exact d3.l2
 · rw[q5];exact q6
theorem Wi(x:List Int)(k:Int)(h:x.length≤1048576):IE (x,k)∧BB (GR (x,k)):=by
 rw[br,bj];obtain⟨n1,n2,n3⟩:=j9 x h;exact⟨n1,n2⟩
theorem bY(x:List Int)(p k:Int)(h:x.length≤1048576)(k0:1≤k)(k2:k≤32):NQ (x,p,k)∧MapOk k (Ct (x,p,k)).2∧(Ct (x,p,k)).1=k:=by
 rw[ZF,Zs];obtain⟨a1,a2⟩:=Wi x p h;obtain⟨b1,b2,b3⟩:=eX _ k a2 k0 k2;exact⟨⟨a1,b1⟩,b2,b3⟩
theorem bZ(x:List Int)(p n:Int)(h:x.length≤1048576)(hn:0<n):NP (x,p,n)∧0≤C8 (x,p,n)∧C8 (x,p,n)<n:=by
 rw[Zv,ZE];obtain⟨a1,a2⟩:=Wi x p h;obtain⟨b1,b2,_,b4⟩:=DH _ n a2;exact⟨⟨a1,b1⟩,b4 hn⟩
theorem Yv{k:Int}{x:List (List (Int×Int×Int×Int))}(h:MapOk k x):O2 (k,x):=by
 have:=h.k2;have:=h.l2;refine⟨⟨by show x.length≤1048576;omega,fun r hr=>?_⟩,trivial⟩;obtain⟨i,hi,rfl⟩:=List.mem_iff_getElem.1 hr;have:=h.row i hi;rw[Ey,AQ hi,Fg] at this;exact⟨by omega,fun a _=>by simp[Wq]⟩
def Zl:List UInt8:=[(48:UInt8),49,50,51,52,53,54,55,56,57,97,98,99,100,101,102]
def Nn(d:Nat):UInt8:=Zl.getD d 0
theorem YL:∀ d:Nat,d<16→Lib.indexByte Zl (Nn d)=(d:Int):=by decide
def B3:List Int→List UInt8
 |[]=>[]
 |y::r=>Nn (y.toNat / 16)::Nn (y.toNat % 16)::B3 r
theorem gM(a b:List Int):B3 (a++b)=B3 a++B3 b:=by
 induction a with
 |nil=>rfl
 |cons x r ih=>simp only[B1,B3,ih]
theorem Pr(a:List Int):(B3 a).length=2*a.length:=by
 induction a with
 |nil=>rfl
 |cons x r ih=>simp only[B3,AX,ih];omega
theorem ir(a:List Int)(i:Nat)(h:i<a.length):(B3 a).getD (2*i) 0=Nn ((a.getD i 0).toNat / 16)∧(B3 a).getD (2*i+1) 0=Nn ((a.getD i 0).toNat % 16):=by
 induction a generalizing i with
 |nil=>simp at h
 | cons x r ih=>
   cases i with
   |zero=>exact⟨rfl,rfl⟩
   | succ i=>
     have:=ih i (by simpa using h);rw[show 2*(i+1)=2*i+1+1 by omega];exact this
theorem ca(b:List Int)(hb:Bytes b)(hl:b.length≤2000):NU b∧E2 b=B3 b:=by
 have e0:iGt (lLen b) 2000=false:=by rw[FO,A6,I1 (by omega)]
 obtain⟨k1,k2⟩:=Kv (c:=Ls b) (f:=NK b) (p:=NL b) b.length (fun i=>(sRow (B3 (b.take i)),(i:Int))) (x0:=([],0)) (by simp[B3,I5]) (fun i hi=>by
  obtain⟨y,hy,ey⟩:=hb.get i
  have eg:lGet b (iNat (i:Int)) 0=(y:Int):=by rw[D7,BL,Ez,ey]
  have eh:iShr .u8 (y:Int) 4=((y / 16:Nat):Int):=kh y 4 (by omega)
  have ea:iAnd .u8 (y:Int) 15=((y % 16:Nat):Int):=by
   have:=kr (a:=y) (b:=15) hy (by omega);rw[show (15:Int)=((15:Nat):Int) from rfl,this,show (15:Nat)=2^4-1 from rfl,Nat.and_two_pow_sub_one_eq_mod]
  have s1:iAdd .i64 (i:Int) 1=((i+1:Nat):Int):=by rw[B5 (by unfold Bl;omega)];omega
  have hlen:(sRow (B3 (b.take i))).length≤4000:=by rw[iv,Pr,List.length_take];omega
  refine⟨?_,?_,?_⟩
  · unfold NL;simp only[eg,eh,ea];refine⟨fun _=>⟨⟨by omega,by omega⟩,by rw[BL];omega,by omega,⟨by omega,by simp only[AX,AY];omega⟩,⟨by omega,by simp only[AX,AY];omega⟩,?_⟩,fun _=>trivial⟩;unfold AW;simp only[AX,AY];omega
  · unfold Ls;rw[A0,A6,I2 (by simp only;omega)]
  · unfold NK;simp only[eg,eh,ea,s1,H4];rw[← O3 b 0 hi,gM,iA,ey];congr 2;simp only[B3,I5,BE,K0,SJ,Ez]
    rfl) ⟨by
  unfold NL;simp only[A0,A6]
  exact⟨fun h=>absurd (of_decide_eq_true h) (by simp),fun _=>trivial⟩,by
  unfold Ls
  simp only[A0,A6];simp⟩
 rw[ZR,ZY,e0];refine⟨⟨fun _=>trivial,fun _=>k1⟩,?_⟩;rw[BO,Ad (by simp),k2];simp only[KT];rw[eQ]
theorem cn(b:List Int)(hb:Bytes b)(hl:b.length≤2000):NX (B3 b)∧Fu (B3 b)=(b,true):=by
 have eL:lLen (B3 b)=((2*b.length:Nat):Int):=by rw[A6,Pr]
 have e0:bOr (iNe (iRem (lLen (B3 b)) 2) 0) (iGt (lLen (B3 b)) 4000)=false:=by
  rw[eL,SO (by omega),DM,Je,FO,I1 (by omega:¬ (4000:Int)<((2*b.length:Nat):Int)),I2 (by omega:((2*b.length:Nat):Int) % 2=0)];rfl
 have at1:∀ i:Nat,i<b.length→C7 ([(48:UInt8),49,50,51,52,53,54,55,56,57,97,98,99,100,101,102],sGet (B3 b) ((2*i:Nat):Int))=(((b.getD i 0).toNat / 16:Nat):Int) ∧
  C7 ([(48:UInt8),49,50,51,52,53,54,55,56,57,97,98,99,100,101,102],sGet (B3 b) ((2*i+1:Nat):Int))=(((b.getD i 0).toNat % 16:Nat):Int):=by
  intro i hi
  obtain⟨y,hy,ey⟩:=hb.get i
  obtain⟨g1,g2⟩:=ir b i hi
  rw[QH,QH,SJ,SJ]
  simp only[Ez,g1,g2,ey]
  have back:∀ u:UInt8,u.toNat.toUInt8=u:=fun u=>by simp
  rw[back,back]
  exact⟨YL _ (by omega),YL _ (by omega)⟩
 obtain⟨k1,k2⟩:=Kv (c:=JP (B3 b)) (f:=Lu (B3 b)) (p:=NN (B3 b)) b.length (fun i=>(b.take i,((2*i:Nat):Int))) (x0:=([],0)) (by simp) (fun i hi=>by
  obtain⟨y,hy,ey⟩:=hb.get i;obtain⟨a1,a2⟩:=at1 i hi;rw[ey,Ez] at a1 a2
  have s1:iAdd .i64 ((2*i:Nat):Int) 1=((2*i+1:Nat):Int):=by rw[B5 (by unfold Bl;omega)];omega
  have s2:iAdd .i64 ((2*i:Nat):Int) 2=((2*(i+1):Nat):Int):=by rw[B5 (by unfold Bl;omega)];omega
  have n1:iLt ((y / 16:Nat):Int) 0=false:=by rw[A0,I1 (by omega)]
  have n2:iLt ((y % 16:Nat):Int) 0=false:=by rw[A0,I1 (by omega)]
  have hlen:(b.take i).length≤2000:=by rw[List.length_take];omega
  refine⟨?_,?_,?_⟩
  · unfold NN;simp only[s1,a1,a2,n1,n2,DM,Bool.or_false];refine⟨fun _=>⟨⟨by omega,by rw[Pr];omega⟩,⟨by omega,by rw[Pr];omega⟩,by rw[Ul];trivial,by rw[Ul];trivial,fun h=>(by cases h),fun _=>?_⟩,fun _=>trivial⟩;unfold AW;simp only[AX,AY];omega
  · unfold JP;simp only[s1,a1,a2,n1,n2,DM,Bool.or_false,Co,BP,Bool.not_false,Jr,A0,eL];rw[I2 (by omega)]
  · unfold Lu;simp only[s1,s2,a1,a2,H4];rw[Pk (by unfold Bl;omega),B5 (by unfold Bl;omega),Sx (by omega) (by omega),← O3 b 0 hi,ey];congr 3
    omega) ⟨by
  unfold NN;simp only[A0,eL]
  exact⟨fun h=>absurd (of_decide_eq_true h) (by simp),fun _=>trivial⟩,by
  unfold JP
  simp only[BP,A0,eL];simp⟩
 rw[ah,aj,e0];refine⟨⟨by omega,fun h=>(by cases h),fun _=>k1⟩,?_⟩;rw[BO,Ad (by simp),k2];simp only[KT,BO,A0,eL];simp
def Jt(r:List (Int×Int×Int×Int)):List Int:=r.flatMap IC
def Jv(k:Int)(x:List (List (Int×Int×Int×Int))):List Int:=[k,(x.length:Int)]++x.flatMap Jt
theorem aW{k:Int}{x:List (List (Int×Int×Int×Int))}(hm:MapOk k x):Lt (k,x)∧CP (k,x)=Jv k x:=by
 refine⟨(U0 k x (Yv hm)).2.1,?_⟩;have k1:=hm.k1;have k2:=hm.k2;have l1:=hm.l1;have l2:=hm.l2;rw[Us,gz hm,BO,Ad (by rw[Co];simp)];have e0:iConv .u8 k=k:=Sx (by omega) (by omega)
 have e1:iConv .u8 (lLen x)=(x.length:Int):=by rw[A6,Sx (by omega) (by omega)]
 simp only[e0,e1]
 have out:=(Kv (c:=JM (k,x)) (f:=JN (k,x)) (p:=fun _=>True) x.length (fun i=>([k,(x.length:Int)]++(x.take i).flatMap Jt,(i:Int))) (x0:=([k,(x.length:Int)],0)) (by simp) (fun i hi=>by
  have s1:iAdd .i64 (i:Int) 1=((i+1:Nat):Int):=by rw[B5 (by unfold Bl;omega)];omega
  refine⟨trivial,?_,?_⟩
  · unfold JM;rw[A0,A6,I2 (by simp only;omega)]
  · unfold JN;simp only[s1];have hr:=hm.row i hi
    have eg:lGet x (iNat (i:Int)) []=x.getD i []:=by rw[D7,BL,Ez]
    generalize ho:[k,(x.length:Int)]++(x.take i).flatMap Jt=o
    have inn:=(Kv (c:=GG (k,x) (o,(i:Int))) (f:=Hx (k,x) (o,(i:Int))) (p:=fun _=>True) (x.getD i []).length (fun j=>(o++Jt ((x.getD i []).take j),(j:Int))) (x0:=(o,0)) (by simp[Jt]) (fun j hj=>by
     have s2:iAdd .i64 (j:Int) 1=((j+1:Nat):Int):=by rw[B5 (by unfold Bl;omega)];omega
     refine⟨trivial,?_,?_⟩
     · unfold GG;simp only[eg];rw[A0,A6,I2 (by omega)]
     · unfold Hx;simp only[eg,s2,H4];rw[D7,BL,Ez];rw[← O3 _ (0,0,0,0) hj]
       simp only[Jt,List.flatMap_append,List.flatMap_cons,List.flatMap_nil,I8,Bm]) ⟨trivial,by
     unfold GG;simp only[eg]
     rw[A0,A6];simp⟩).2
    rw[inn];simp only[KT];rw[← ho,← O3 x [] hi]
    simp only[List.flatMap_append,List.flatMap_cons,List.flatMap_nil,I8,Bm]) ⟨trivial,by
  unfold JM
  rw[A0,A6];simp⟩).2
 rw[out];simp[Jv]
section
set_option maxRecDepth 20000
theorem LZ(n:Nat)(h:n<10):Lib.decDigits n=[UInt8.ofNat (48+n)]:=by
 unfold Lib.decDigits;rw[dif_pos h]
end
section
set_option maxRecDepth 20000
theorem SD(u:Nat)(h:10≤u):Lib.decDigits u=Lib.decDigits (u / 10)++[UInt8.ofNat (48+u % 10)]:=by
 rw[Lib.decDigits,dif_neg (by omega)]
theorem Vw(d:Nat)(h:d<10):Lib.digitVal (UInt8.ofNat (48+d))=some d:=by
 unfold Lib.digitVal
 have:(UInt8.ofNat (48+d)).toNat=48+d:=by
  rw[UInt8.toNat_ofNat'];exact Nat.mod_eq_of_lt (by omega)
 rw[this,Ab (by omega)];congr 1;omega
theorem Vx:∀ (l r:List UInt8) (a:Nat),Lib.decFrom a (l++r)=(Lib.decFrom a l).bind fun n=>Lib.decFrom n r
 |[],_,_=>rfl
 | b::l,r,a=>by
   rw[B1,Lib.decFrom,Lib.decFrom]
   cases Lib.digitVal b with
   |none=>rfl
   |some d=>exact Vx l r _
theorem Re:∀ (m u:Nat),u<10^m→Lib.decFrom 0 (Lib.decDigits u)=some u
 | 0,u,h=>by
   have:u=0:=by simpa using h
   subst this;rw[LZ 0 (by decide)];rfl
 | m+1,u,h=>by
   by_cases hu:u<10
   · rw[LZ u hu];simp only[Lib.decFrom,Vw u hu,Hc,Bd]
   · rw[SD u (by omega),Vx,Re m (u / 10) (by rw[Nat.pow_succ] at h;omega)];simp only[Et,Lib.decFrom,Vw (u % 10) (by omega)];congr 1;omega
theorem SZ:∀ (m u:Nat),u<10^m→0<m→1≤(Lib.decDigits u).length∧(Lib.decDigits u).length≤m
 |0,_,_,h=>absurd h (by decide)
 | m + 1,u,h,_=>by
   by_cases hu:u<10
   · rw[LZ u hu];simp
   · rw[SD u (by omega)]
     have hm:0<m:=by
      rcases PU m with rfl|h'
      · simp at h;omega
      · exact h'
     have:=SZ m (u / 10) (by rw[Nat.pow_succ] at h;omega) hm;simp;omega
theorem Sn:∀ (m u:Nat),u<10^m→∀ b∈Lib.decDigits u,48≤b.toNat∧b.toNat≤57
 | 0,u,h,b,hb=>by
   have:u=0:=by simpa using h
   subst this;rw[LZ 0 (by decide)] at hb;simp only[List.mem_singleton] at hb;subst hb;decide
 | m + 1,u,h,b,hb=>by
   have key:∀ d,d<10→48≤(UInt8.ofNat (48+d)).toNat∧(UInt8.ofNat (48+d)).toNat≤57:=fun d hd=>by
    have:(UInt8.ofNat (48+d)).toNat=48+d:=by
     rw[UInt8.toNat_ofNat'];exact Nat.mod_eq_of_lt (by omega)
    rw[this];omega
   by_cases hu:u<10
   · rw[LZ u hu] at hb;simp only[List.mem_singleton] at hb;subst hb;exact key u hu
   · rw[SD u (by omega),CY] at hb;rcases hb with hb|hb
     · exact Sn m (u / 10) (by rw[Nat.pow_succ] at h;omega) b hb
     · simp only[List.mem_singleton] at hb;subst hb;exact key _ (by omega)
theorem UN(n:Int)(h:n.natAbs<10^18):Lv n∧E1 n=Lib.itoa n:=by
 rw[ZX,ZS,UF,UJ];exact⟨by omega,rfl⟩
theorem ON(n:Int)(h:n.natAbs<10^9):1≤(Lib.itoa n).length∧(Lib.itoa n).length≤10∧Lib.atoi (Lib.itoa n)=some n:=by
 obtain⟨l1,l2⟩:=SZ 9 n.natAbs h (by decide);have hd:=Re 9 n.natAbs h;unfold Lib.itoa;by_cases hn:n<0
 · rw[Ab hn];refine⟨by simp,by simp;omega,?_⟩;simp only[Lib.atoi,beq_self_eq_true,Az,Lib.decNat];rw[Ad (by simp;intro hh;rw[hh] at l1;simp at l1),hd];simp only[Bw];congr 1;omega
 · rw[Ad hn,show n.toNat=n.natAbs by omega];refine⟨l1,by omega,?_⟩;have hs:=Sn 9 n.natAbs h
   cases hl:Lib.decDigits n.natAbs with
   |nil=>rw[hl] at l1;simp at l1
   | cons b r=>
     rw[hl] at hs hd;have hb:=hs b (by simp)
     have n1:(b == 45)=false:=by
      rw[HU];intro e;subst e;exact absurd hb.1 (by decide)
     have n2:(b == 43)=false:=by
      rw[HU];intro e;subst e;exact absurd hb.1 (by decide)
     simp only[Lib.atoi,n1,n2,Lib.decNat,List.isEmpty_cons,As,AB,hd,Bw];congr 1;omega
theorem b8(s:List UInt8):N0 s∧(F3 s=(0,false)∧(∀ n:Int,n.natAbs<10^9→Lib.itoa n≠s)∨∃ n:Int,n.natAbs<10^9∧Lib.itoa n=s∧F3 s=(n,true)):=by
 rw[ae,ay];simp only[DM,BO,A0,FO,A6,Yi,Co,UI,UE];by_cases hl:s.length<1∨10<s.length
 · have e:(decide ((s.length:Int)<1)||decide (10<(s.length:Int)))=true:=by
    rw[B0,Bf,Bf];omega
   rw[e];refine⟨⟨fun _=>trivial,fun h=>(by cases h)⟩,.inl ⟨rfl,fun n hn e=>?_⟩⟩;have:=ON n hn;rw[e] at this;omega
 · have e:(decide ((s.length:Int)<1)||decide (10<(s.length:Int)))=false:=by
    rw[CK,CX,CX];omega
   rw[e]
   cases ha:Lib.atoi s with
   | none=>
     simp only[Option.isSome_none,Bool.not_false,Bool.true_or,Az,As,AB];refine⟨⟨fun h=>(by cases h),fun _=>⟨by omega,fun _=>trivial,fun h=>(by cases h)⟩⟩,.inl ⟨by first|rfl|trivial,fun n hn e=>?_⟩⟩;have:=(ON n hn).2.2;rw[e,ha] at this;cases this
   | some n=>
     simp only[Option.isSome_some,KV,Bool.false_or,Fg,As,AB];by_cases hr:n < -999999999∨999999999<n
     · have hc:(decide (n < -999999999)||(decide (999999999<n)||decide (E1 n≠s)))=true:=by
        rcases hr with hr|hr
        · simp[hr]
        · simp[hr]
       rw[Ab (by simpa using hc)];refine⟨⟨fun h=>(by cases h),fun _=>⟨by omega,fun h=>(by cases h),fun _=>⟨fun _=>trivial,fun h1=>⟨fun _=>trivial,fun h2=>?_⟩⟩⟩⟩,.inl ⟨rfl,fun k hk e=>?_⟩⟩
       · simp at h1 h2;omega
       · have:=(ON k hk).2.2;rw[e,ha] at this;cases this;omega
     · obtain⟨f1,f2⟩:=UN n (by omega);rw[f2]
       have h1:decide (n < -999999999)=false:=by simp;omega
       have h2:decide (999999999<n)=false:=by simp;omega
       simp only[h1,h2,Bool.false_or];refine⟨⟨fun h=>(by cases h),fun _=>⟨by omega,fun h=>(by cases h),fun _=>⟨fun h=>(by cases h),fun _=>⟨fun h=>(by cases h),fun _=>f1⟩⟩⟩⟩,?_⟩;by_cases he:Lib.itoa n=s
       · exact .inr ⟨n,by omega,he,by simp[he]⟩
       · refine .inl ⟨by simp[he],fun k hk e=>?_⟩;have:=(ON k hk).2.2;rw[e,ha] at this;cases this;exact he e
end
theorem cR{k:Int}{x:List (List (Int×Int×Int×Int))}(hm:MapOk k x):Bytes (Jv k x):=by
 have k1:=hm.k1;have k2:=hm.k2;have l2:=hm.l2
 have hu:∀ n:Int,0≤iConv .u8 n∧iConv .u8 n<256:=fun n=>by
  rw[SU];unfold IntKind.wrap;simp[IntKind.signed,IntKind.bits];omega
 intro a ha;unfold Jv at ha;simp only[CY,Bx,List.not_mem_nil,or_false,List.mem_flatMap,Jt] at ha;rcases ha with(rfl|rfl)|⟨r,_,b,_,hb⟩
 · omega
 · omega
 · rw[QM,BO] at hb;split at hb
   · simp at hb
   · simp only[Bx,List.not_mem_nil,or_false] at hb;rcases hb with rfl|rfl|rfl<;>exact hu _
theorem Wn(n:Int)(h:n.natAbs<10^18):Lib.atoi (Lib.itoa n)=some n:=by
 obtain⟨l1,l2⟩:=SZ 18 n.natAbs h (by decide);have hd:=Re 18 n.natAbs h;unfold Lib.itoa;by_cases hn:n<0
 · rw[Ab hn];simp only[Lib.atoi,beq_self_eq_true,Az,Lib.decNat];rw[Ad (by simp;intro hh;rw[hh] at l1;simp at l1),hd];simp only[Bw];congr 1;omega
 · rw[Ad hn,show n.toNat=n.natAbs by omega];have hs:=Sn 18 n.natAbs h
   cases hl:Lib.decDigits n.natAbs with
   |nil=>rw[hl] at l1;simp at l1
   | cons b r=>
     rw[hl] at hs hd;have hb:=hs b (by simp)
     have n1:(b == 45)=false:=by
      rw[HU];intro e;subst e;exact absurd hb.1 (by decide)
     have n2:(b == 43)=false:=by
      rw[HU];intro e;subst e;exact absurd hb.1 (by decide)
     simp only[Lib.atoi,n1,n2,Lib.decNat,List.isEmpty_cons,As,AB,hd,Bw];congr 1;omega
theorem aT(x:List Int)(hw:TuX.wf E0.h x):NT x∧NY x=true:=by
 rw[ZO,ZN];obtain⟨b1,b2⟩:=kf x;by_cases hl:1048576<x.length
 · rw[b1,I2 hl];exact⟨⟨b2,fun _=>trivial,fun h=>by cases h⟩,by rw[DM];rfl⟩
 rw[b1,I1 hl];obtain⟨m1,m2,m3⟩:=bY x 2 3 (by omega) (by omega) (by omega);obtain⟨n1,n2,n3⟩:=bZ x 1 2000000000 (by omega) (by omega);generalize Ct (x,2,3)=M at *;obtain⟨k,L⟩:=M;simp only at m2 m3;subst m3;generalize C8 (x,1,2000000000)=w at *;have ew:iSub .i64 w 1000000000=w-1000000000:=Kw (by unfold Bl;omega);rw[ew];obtain⟨p1,p2⟩:=aW m2;have pb:=cR m2
 have pl:(Jv 3 L).length≤386:=by
  have:=(U0 3 L (Yv m2));rw[← p2,this.2.2.1];exact this.2.2.2
 rw[p2];obtain⟨h1,h2⟩:=ca _ pb (by omega);obtain⟨h3,h4⟩:=cn _ pb (by omega);obtain⟨f1,f2⟩:=UN (w-1000000000) (by omega);obtain⟨i1,i2⟩:=b8 (Lib.itoa (w-1000000000));rw[f2,h2,h4];refine⟨⟨b2,fun h=>(by cases h),fun _=>⟨n1,f1,i1,m1,p1,h1,h3⟩⟩,?_⟩
 have e2:bAnd true (sEq (rowS (Jv 3 L)) (rowS (Jv 3 L)))=true:=by rw[BP,Yt];simp
 simp only[e2];simp only[DM,BO,KQ,MD,BP,XX,Co,KZ]
 have hn0:-1000000000≤w-1000000000:=by omega
 have hn1:w-1000000000≤999999999:=by omega
 generalize w-1000000000=n at *;rcases i2 with⟨i3,i4⟩|⟨q,q1,q2,q3⟩
 · have hn:¬ n.natAbs<10^9:=fun h=>i4 n h rfl
   rw[i3];by_cases g1:-999999999≤n
   · have g2:¬ n≤999999999:=by omega
     simp[g1,g2]
   · simp[g1]
 · have:q=n:=by
    have h1:=Wn q (by omega);rw[q2,Wn n (by omega)] at h1;exact(by simpa using h1:n=q).symm
   subst this;rw[q3]
   have g1:-999999999≤q:=by omega
   have g2:q≤999999999:=by omega
   simp[g1,g2]
end
end Go.Ag
