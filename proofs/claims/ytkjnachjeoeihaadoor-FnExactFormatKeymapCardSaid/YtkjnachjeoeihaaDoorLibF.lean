/- Part 6 of what FnExactFormatKeymap needs. No conditions. -/
import Derived.Test.YtkjnachjeoeihaaDoorLibE
namespace Go.Ag
set_option linter.unusedSimpArgs false
set_option linter.unusedVariables false
noncomputable section
theorem Bs(a:Bool):bNot a=!a:=by simp only[Kr]
theorem Br(a b:Bool):bAnd a b=(a&&b):=by simp only[R5]
theorem EK(a b:Bool):bOr a b=(a||b):=by simp only[Xv]
theorem Rv(a b:Bool):bIff a b=(a == b):=by simp only[W8]
theorem DN{α:Type}(c:Bool)(x y:α):bSel c x y=if c=true then x else y:=by cases c<;>simp[DW,Da]
theorem HB(a b:Int):iEq a b=decide (a=b):=by
 rw[Pr];by_cases h:a=b<;>simp[h]
theorem EO(a b:Int):iNe a b=!decide (a=b):=by
 rw[XI];by_cases h:a=b<;>simp[h]
theorem AE(a b:Int):iLt a b=decide (a<b):=by simp only[XF]
theorem HN(a b:Int):iLe a b=decide (a≤b):=by simp only[XO]
theorem IW(a b:Int):iGt a b=decide (b<a):=by simp only[XD]
theorem I8(a b:Int):iGe a b=decide (b≤a):=by simp only[Xw]
theorem jW(a b:List UInt8):sEq a b=(a == b):=by simp only[Xu]
theorem Xm(a b:List UInt8):sNe a b=!(a == b):=by simp only[XE]
section
variable {α:Type}
theorem Aw(l:List α):lLen l=(l.length:Int):=by simp only[Su]
theorem kE(l:List α):lN l=l.length:=by simp only[MX]
theorem BA(l:List α)(j:Nat)(d:α):lGet l j d=l.getD j d:=by simp only[KA]
theorem LX(l:List α)(j:Nat)(x:α):lSet l j x=l.set j x:=by simp only[Mj]
theorem RA(l:List α)(a b:Nat):lSub l a b=(l.drop a).take (b-a):=by simp only[SK]
theorem gU(l:List α)(n:Nat):lTake l n=l.take n:=by simp only[RX]
theorem OL(l m:List α):lApp l m=l++m:=by simp only[IV]
theorem Ww(n:Int)(x:α):lRep n x=List.replicate n.toNat x:=by simp only[Xi]
theorem Bn(a:Int):iNat a=a.toNat:=by simp only[Sv]
theorem Ma(a b:List UInt8):sAdd a b=a++b:=by simp only[W4]
end
def CZ(n:Int):Prop:=-9223372036854775808≤n∧n≤9223372036854775807
theorem Rj{n:Int}(h:CZ n):IntKind.i64.wrap n=n:=by
 obtain⟨h1,h2⟩:=h;show (if decide (n % 18446744073709551616≥9223372036854775808)=true then n % 18446744073709551616-18446744073709551616 else n % 18446744073709551616)=n;simp only[Bc];split<;>omega
theorem GO{a b:Int}(h:CZ (a+b)):iAdd .i64 a b=a+b:=by rw[W6];exact Rj h
theorem Ri{a b:Int}(h:CZ (a-b)):iSub .i64 a b=a-b:=by rw[W0];exact Rj h
theorem hZ{a b:Int}(ha:0≤a)(h:CZ (a / b)):iQuo .i64 a b=a / b:=by
 rw[Xb];rw[Int.tdiv_eq_ediv_of_nonneg ha];exact Rj h
theorem iK{a b:Int}(ha:0≤a):iRem a b=a % b:=by rw[Xr];exact Int.tmod_eq_emod_of_nonneg ha
section
variable {X:Type} {c:X→Bool} {f:X→X} {p:X→Prop}
theorem OE(I:X→Prop)(m:X→Nat)(h:∀ x,I x→p x∧(c x=true→I (f x)∧m (f x)<m x)){x0:X}(h0:I x0) :
 LoopOk c f p x0∧I (Ar c f x0)∧c (Ar c f x0)=false:=by
 have go:∀ (n:Nat) (x:X),m x<n→I x→∃ y,LoopTo c f p x y∧I y∧c y=false:=by
  intro n
  induction n with
  |zero=>intro x hm;exact absurd hm (Nat.not_lt_zero _)
  | succ n ih=>
    intro x hm hI;obtain⟨h1,h2⟩:=h x hI
    cases hc:c x with
    |false=>exact⟨x,.stop h1 hc,hI,hc⟩
    | true=>
      obtain⟨h3,h4⟩:=h2 hc;obtain⟨y,h5,h6,h7⟩:=ih (f x) (by omega) h3;exact⟨y,.go h1 hc h5,h6,h7⟩
 obtain⟨y,h1,h2,h3⟩:=go _ x0 (Nat.lt_succ_self _) h0
 rw[h1.val]
 exact⟨⟨y,h1⟩,h2,h3⟩
theorem Hr(n:Nat)(st:Nat→X){x0:X}(h0:st 0=x0)(hs:∀ k,k<n→p (st k)∧c (st k)=true∧f (st k)=st (k+1))(he:p (st n)∧c (st n)=false):LoopOk c f p x0∧Ar c f x0=st n:=by
 have go:∀ k,k≤n→LoopTo c f p (st (n-k)) (st n):=by
  intro k
  induction k with
  |zero=>intro _;exact .stop he.1 he.2
  | succ k ih=>
    intro hk;obtain⟨h1,h2,h3⟩:=hs (n-(k+1)) (by omega);refine .go h1 h2 ?_;rw[h3,show n-(k+1)+1=n-k by omega];exact ih (by omega)
 have:=go n (AF _);rw[Po,h0] at this;exact⟨⟨_,this⟩,this.val⟩
end
def Cs(t:Nat→Bool):Nat→Nat→Nat
 |0,i=>i
 |k+1,i=>if t i then i else Cs t k (i+1)
theorem Lz(t:Nat→Bool):∀ k i,i≤Cs t k i∧Cs t k i≤i+k
 |0,i=>⟨AF _,AF _⟩
 | k+1,i=>by
   unfold Cs
   split
   · omega
   · have:=Lz t k (i+1);omega
theorem NZ(t:Nat→Bool):∀ k i,Cs t k i<i+k→t (Cs t k i)=true
 |0,i,h=>by unfold Cs at h;omega
 | k + 1,i,h=>by
   unfold Cs at h ⊢
   split
   · rename_i ht;exact ht
   · rename_i ht
     rw[Ad ht] at h
     exact NZ t k (i+1) (by omega)
theorem Qz(t:Nat→Bool):∀ k i j,i≤j→j<Cs t k i→t j=false
 |0,i,j,h,h'=>by unfold Cs at h';omega
 | k + 1,i,j,h,h'=>by
   unfold Cs at h'
   split at h'
   · omega
   · rename_i ht
     by_cases hj:j=i
     · subst hj;simpa using ht
     · exact Qz t k (i+1) j (by omega) h'
theorem Vb{c:Int→Bool}{f:Int→Int}{p:Int→Prop}(n:Nat)(t:Nat→Bool)(hn:(n:Int)≤9223372036854775806)(hc:∀ i:Nat,i≤n→c i=(decide (i<n)&&!t i))(hf:∀ i:Nat,i<n→f i=iAdd .i64 i 1)(hp:∀ i:Nat,i≤n→p i) :
 LoopOk c f p 0∧Ar c f 0=(Cs t n 0:Nat):=by
 have hle:=Lz t n 0
 refine Hr (Cs t n 0) (fun k=>(k:Int)) rfl (fun k hk=>?_) ⟨hp _ (by omega),?_⟩
 · have hk':k<n:=by omega
   refine⟨hp k (by omega),?_,?_⟩
   · rw[hc k (by omega),Qz t n 0 k (by omega) hk];simp[hk']
   · rw[hf k hk',GO (by unfold CZ;omega)];omega
 · rw[hc _ (by omega)]
   by_cases h:Cs t n 0<n
   · rw[NZ t n 0 (by omega)];simp
   · simp[h]
theorem Ub{t:Nat→Bool}{n:Nat}:Cs t n 0=n↔∀ i,i<n→t i=false:=by
 constructor
 · intro h i hi;exact Qz t n 0 i (by omega) (by omega)
 · intro h;have hle:=Lz t n 0;rcases A9 (Cs t n 0) n with h1|h1
   · have:=NZ t n 0 (by omega);rw[h _ h1] at this;cases this
   · omega
section
variable {α:Type}
theorem gd(x:List α)(k:Nat)(hk:k<x.length)(d:α)(l:List α)(hl:l.length=x.length)(h:l.take k=x.take k):(l.set k (x.getD k d)).take (k+1)=x.take (k+1):=by
 rw[O7,O7,List.take_set]
 have:(l.take k).set k (x.getD k d)=l.take k:=by
  apply List.set_eq_of_length_le;rw[SG];exact Nat.min_le_left _ _
 rw[this,h];congr 1;rw[List.getElem?_set_self (by omega),Dx,As hk];simp
end
theorem Wp{α:Type}{c:Int→Bool}{f:Int→Int}{p:Int→Prop}(a b:List α)(d:α)(ne:Nat→Bool)(hl:a.length=b.length)(hne:∀ i,i<a.length→(ne i=false↔a.getD i d=b.getD i d))(hn:(a.length:Int)≤9223372036854775806)(hc:∀ i:Nat,i≤a.length→c i=(decide (i<a.length)&&!ne i))(hf:∀ i:Nat,i<a.length→f i=iAdd .i64 i 1)(hp:∀ i:Nat,i≤a.length→p i) :
 LoopOk c f p 0∧(Ar c f 0<(a.length:Int)↔a≠b):=by
 obtain⟨h1,h2⟩:=Vb a.length ne hn hc hf hp
 refine⟨h1,?_⟩
 rw[h2]
 have hle:=Lz ne a.length 0
 constructor
 · intro h hab
   subst hab;have:=NZ ne a.length 0 (by omega);rw[(hne _ (by omega)).2 rfl] at this;cases this
 · intro h
   rcases A9 (Cs ne a.length 0) a.length with h3|h3
   · omega
   · exfalso;apply h
     have h4:Cs ne a.length 0=a.length:=by omega
     rw[Ub] at h4
     refine Sp hl fun i hi hi'=>?_
     have:=(hne i hi).1 (h4 i hi);rw[Dx,Dx,As hi,As hi'] at this;simpa using this
theorem jO{c:Int→Bool}{f:Int→Int}(n:Nat)(t:Nat→Bool)(hn:(n:Int)≤9223372036854775806)(hc:∀ i:Nat,i≤n→c i=(decide (i<n)&&!t i))(hf:∀ i:Nat,i<n→f i=iAdd .i64 i 1):Ar c f 0=(Cs t n 0:Nat):=(Vb (p:=fun _=>True) n t hn hc hf (fun _ _=>trivial)).2
theorem XG{α:Type}{c:Int→Bool}{f:Int→Int}{p:Int→Prop}(a b:List α)(d:α)(ne:Nat→Bool)(hl:a.length=b.length)(hne:∀ i,i<a.length→(ne i=false↔a.getD i d=b.getD i d))(hn:(a.length:Int)≤9223372036854775806)(hc:∀ i:Nat,i≤a.length→c i=(decide (i<a.length)&&!ne i))(hf:∀ i:Nat,i<a.length→f i=iAdd .i64 i 1)(hp:∀ i:Nat,i≤a.length→p i):LoopOk c f p 0:=(Wp a b d ne hl hne hn hc hf hp).1
theorem XV{α:Type}{c:Int→Bool}{f:Int→Int}(a b:List α)(d:α)(ne:Nat→Bool)(hl:a.length=b.length)(hne:∀ i,i<a.length→(ne i=false↔a.getD i d=b.getD i d))(hn:(a.length:Int)≤9223372036854775806)(hc:∀ i:Nat,i≤a.length→c i=(decide (i<a.length)&&!ne i))(hf:∀ i:Nat,i<a.length→f i=iAdd .i64 i 1):Ar c f 0<(a.length:Int)↔a≠b:=(Wp (p:=fun _=>True) a b d ne hl hne hn hc hf (fun _ _=>trivial)).2
theorem Uq {α:Type} {c:List α×Int→Bool} {f:List α×Int→List α×Int} {p:List α×Int→Prop} (x:List α) (z d:α) (hn:x.length≤1048576)
 (hc:∀ st,c st=iLt st.2 (lLen x)) (hf:∀ (l:List α) (i:Nat),i<x.length→f (l,(i:Int))=(l.set i (x.getD i d),iAdd .i64 i 1))
 (hp:∀ (l:List α) (i:Nat),l.length=x.length→i≤x.length→p (l,i)) :
 LoopOk c f p (lRep (lLen x) z,0)∧(Ar c f (lRep (lLen x) z,0)).1=x:=by
 have h:=OE (c:=c) (f:=f) (p:=p) (fun st=>st.1.length=x.length∧∃ i:Nat,st.2=i∧i≤x.length∧st.1.take i=x.take i) (fun st=>x.length-st.2.toNat) (fun st hI=>?_) (x0:=(lRep (lLen x) z,0)) ⟨by simp[Ww,Aw],0,rfl,Ft _,by simp⟩
 · obtain⟨h1,⟨h2,i,h3,h4,h5⟩,h6⟩:=h
   refine⟨h1,?_⟩;rw[hc,h3,AE,Aw,BQ] at h6
   have:i=x.length:=by omega
   subst this;rw[IY,← h2,IY] at h5;exact h5
 · obtain⟨l,j⟩:=st
   obtain⟨h2,i,h3,h4,h5⟩:=hI;simp only at h2 h3 h5;subst h3;refine⟨hp l i h2 h4,fun hcc=>?_⟩;rw[hc,AE,Aw,Bc] at hcc;simp only at hcc
   have hi:i<x.length:=by omega
   rw[hf l i hi];simp only[Be];rw[GO (by unfold CZ;omega)];refine⟨⟨by simp[h2],i+1,by omega,by omega,gd x i hi d l h2 h5⟩,by omega⟩
theorem Vo {α:Type} {c:List α×Int→Bool} {f:List α×Int→List α×Int} {p:List α×Int→Prop} (x:List α) (z d:α) (hn:x.length≤1048576)
 (hc:∀ st,c st=iLt st.2 (lLen x)) (hf:∀ (l:List α) (i:Nat),i<x.length→f (l,(i:Int))=(l.set i (x.getD i d),iAdd .i64 i 1))
 (hp:∀ (l:List α) (i:Nat),l.length=x.length→i≤x.length→p (l,i)):LoopOk c f p (lRep (lLen x) z,0):=(Uq x z d hn hc hf hp).1
theorem Wx {α:Type} {c:List α×Int→Bool} {f:List α×Int→List α×Int} (x:List α) (z d:α) (hn:x.length≤1048576)
 (hc:∀ st,c st=iLt st.2 (lLen x)) (hf:∀ (l:List α) (i:Nat),i<x.length→f (l,(i:Int))=(l.set i (x.getD i d),iAdd .i64 i 1)):(Ar c f (lRep (lLen x) z,0)).1=x:=(Uq (p:=fun _=>True) x z d hn hc hf (fun _ _ _ _=>trivial)).2
theorem Ht{α:Type}(x:List α)(i:Nat)(d:α)(h:i<x.length):x.getD i d∈x:=by
 rw[Dx,As h];exact Dc h
theorem VU{n:Int}{w:Nat}(h0:0≤n)(h:n≤1048576)(hw:w≤1000):AY (n.toNat*w):=by
 show n.toNat*w≤2^40
 have h1:n.toNat≤1048576:=by omega
 have:=Nat.mul_le_mul h1 hw;omega
theorem Wb {α:Type} {c:Int×Int→Bool} {f:Int×Int→Int×Int} {p:Int×Int→Prop} (x:List α) (d:α) (S:α→Prop) (g:α→Int→Int) (l0:Int) (h0:0≤l0) (h1:l0≤1048576) (hn:x.length≤1048576)
 (hg:∀ i,i<x.length→∀ l,0≤l→l≤1048576→g (x.getD i d) l<0∨(0≤g (x.getD i d) l∧g (x.getD i d) l≤l∧S (x.getD i d)))
 (hc:∀ (l:Int) (i:Nat),i≤x.length→c (l,(i:Int))=(decide (i<x.length)&&!decide (g (x.getD i d) l<0))) (hf:∀ (l:Int) (i:Nat),i<x.length→f (l,(i:Int))=(g (x.getD i d) l,iAdd .i64 i 1))
 (hp:∀ (l:Int) (i:Nat),0≤l→l≤1048576→i≤x.length→p (l,i)) :
 LoopOk c f p (l0,0)∧((Ar c f (l0,0)).2<(x.length:Int)∨(¬ (Ar c f (l0,0)).2<(x.length:Int)∧0≤(Ar c f (l0,0)).1∧(Ar c f (l0,0)).1≤l0∧∀ a∈x,S a)):=by
 have h:=OE (c:=c) (f:=f) (p:=p) (fun st=>0≤st.1∧st.1≤l0∧∃ i:Nat,st.2=i∧i≤x.length∧∀ j,j<i→S (x.getD j d)) (fun st=>x.length-st.2.toNat) (fun st hI=>?_) (x0:=(l0,0)) ⟨h0,Int.le_refl _,0,rfl,Ft _,fun j hj=>by omega⟩
 · obtain⟨k1,⟨k2,k3,i,k4,k5,k6⟩,k7⟩:=h
   refine⟨k1,?_⟩;rw[k4];rcases A9 i x.length with hi|hi
   · left;omega
   · right;refine⟨by omega,k2,k3,fun a ha=>?_⟩;obtain⟨j,hj,rfl⟩:=I6 ha;have:=k6 j (by omega);rw[Dx,As hj] at this;exact this
 · obtain⟨l,j⟩:=st
   obtain⟨k1,k2,i,k3,k4,k5⟩:=hI;simp only at k1 k2 k3;subst k3;refine⟨hp l i k1 (by omega) k4,fun hcc=>?_⟩;rw[hc l i k4] at hcc;simp only[Ai,Bc,Cv,BQ] at hcc;obtain⟨hi,hcc⟩:=hcc;have hgi:=(hg i hi l k1 (by omega)).resolve_left hcc;rw[hf l i hi];simp only[Be];rw[GO (by unfold CZ;omega)];refine⟨⟨hgi.1,by omega,i+1,by omega,by omega,fun j hj=>?_⟩,by omega⟩;by_cases hji:j=i
   · subst hji;exact hgi.2.2
   · exact k5 j (by omega)
theorem km {α:Type} {c:Int×Int→Bool} {f:Int×Int→Int×Int} {p:Int×Int→Prop} (x:List α) (d:α) (S:α→Prop) (g:α→Int→Int) (l0:Int) (h0:0≤l0) (h1:l0≤1048576) (hn:x.length≤1048576)
 (hg:∀ i,i<x.length→∀ l,0≤l→l≤1048576→g (x.getD i d) l<0∨(0≤g (x.getD i d) l∧g (x.getD i d) l≤l∧S (x.getD i d)))
 (hc:∀ (l:Int) (i:Nat),i≤x.length→c (l,(i:Int))=(decide (i<x.length)&&!decide (g (x.getD i d) l<0))) (hf:∀ (l:Int) (i:Nat),i<x.length→f (l,(i:Int))=(g (x.getD i d) l,iAdd .i64 i 1))
 (hp:∀ (l:Int) (i:Nat),0≤l→l≤1048576→i≤x.length→p (l,i)):LoopOk c f p (l0,0):=(Wb x d S g l0 h0 h1 hn hg hc hf hp).1
theorem k9 {α:Type} {c:Int×Int→Bool} {f:Int×Int→Int×Int} (x:List α) (d:α) (S:α→Prop) (g:α→Int→Int) (l0:Int) (h0:0≤l0) (h1:l0≤1048576) (hn:x.length≤1048576)
 (hg:∀ i,i<x.length→∀ l,0≤l→l≤1048576→g (x.getD i d) l<0∨(0≤g (x.getD i d) l∧g (x.getD i d) l≤l∧S (x.getD i d)))
 (hc:∀ (l:Int) (i:Nat),i≤x.length→c (l,(i:Int))=(decide (i<x.length)&&!decide (g (x.getD i d) l<0))) (hf:∀ (l:Int) (i:Nat),i<x.length→f (l,(i:Int))=(g (x.getD i d) l,iAdd .i64 i 1)) :
 (Ar c f (l0,0)).2<(x.length:Int)∨(¬ (Ar c f (l0,0)).2<(x.length:Int)∧0≤(Ar c f (l0,0)).1∧(Ar c f (l0,0)).1≤l0∧∀ a∈x,S a):=(Wb (p:=fun _=>True) x d S g l0 h0 h1 hn hg hc hf (fun _ _ _ _ _=>trivial)).2
theorem jZ{α:Type}{x:List α}{y:Int×Int}{l0 l:Int}{S:α→Prop}(h:l0≤l)(hv:y.2<(x.length:Int)∨(¬ y.2<(x.length:Int)∧0≤y.1∧y.1≤l0∧∀ a∈x,S a)) :
 bSel (iLt y.2 (lLen x)) (-1) y.1<0∨(0≤bSel (iLt y.2 (lLen x)) (-1) y.1∧bSel (iLt y.2 (lLen x)) (-1) y.1≤l∧∀ a∈x,S a):=by
 rw[AE,Aw]
 rcases hv with hv|⟨hv,h2,h3,h4⟩
 · rw[IP hv,DW];left;omega
 · rw[IL hv,Da];right;exact⟨h2,by omega,h4⟩
theorem WR{X:Type}{c:X→Bool}{f:X→X}{p:X→Prop}(ix:X→Int)(n:Int)(hn:n≤9223372036854775806)(hc:∀ x,0≤ix x→ix x≤n→c x=true→ix x<n)(hf:∀ x,ix (f x)=iAdd .i64 (ix x) 1)(hp:∀ x,0≤ix x→ix x≤n→p x){x0:X}(h0:0≤ix x0)(h1:ix x0≤n):LoopOk c f p x0:=by
 refine(OE (fun x=>0≤ix x∧ix x≤n) (fun x=>(n-ix x).toNat) (fun x hI=>⟨hp x hI.1 hI.2,fun hcc=>?_⟩) ⟨h0,h1⟩).1;have:=hc x hI.1 hI.2 hcc;obtain⟨k1,k2⟩:=hI;have e:=hf x;rw[GO (by unfold CZ;omega)] at e;refine⟨by omega,by omega⟩
theorem Vz{c:Int→Bool}{f:Int→Int}{n:Nat}(h:¬ Ar c f 0<(n:Int))(hn:(n:Int)≤9223372036854775806)(hc:∀ i:Nat,i≤n→c i=true→i<n)(hf:∀ i:Nat,i<n→f i=iAdd .i64 i 1):∀ i:Nat,i<n→c i=true:=by
 have hv:=jO (c:=c) (f:=f) n (fun i=>!c i) hn (fun i hi=>by
  by_cases h1:i<n
  · simp[h1]
  · cases h2:c i with
    |false=>simp[h1]
    |true=>exact absurd (hc i hi h2) h1) hf
 rw[hv] at h;have hle:=Lz (fun i=>!c i) n 0
 have e:Cs (fun i=>!c i) n 0=n:=by omega
 intro i hi;have:=Ub.1 e i hi;simpa using this
theorem Uk(x:Int×Int×Int×Int):D4 x=Fb x:=by
 simp only[To,ZR,JV,aR,bd,ax,Bs,Br,EK,Rv,DN,HB,EO,AE,HN,IW,I8,jW,Xm,Aw,kE,BA,LX,RA,gU,OL,Ww,Bn,Ma];rw[Bool.eq_iff_iff]
 repeat' split
 all_goals simp only[Ai,BS,Cv,El,Jk,CV,Bc,BQ,Mq,SP,AB,RW] at *
 all_goals omega
theorem Tg(x:Int×Int×Int×Int):JI x:=by
 have h:∀ y,EA y:=fun y=>by rw[Lq];trivial
 rw[Z0];simp[h]
theorem Th(x:Int×Int×Int×Int):JG x:=by
 have h1:∀ y,JP y:=fun y=>by rw[bg];trivial
 have h2:∀ y,Iu y:=fun y=>by rw[bf];trivial
 have h3:∀ y,Lj y:=fun y=>by rw[aL];trivial
 rw[Z9];simp[h1,h2,h3]
theorem WM(a b c:Int):BM (a,b,c)=(decide (b≤a)&&decide (a≤c)):=by rw[JV];simp only[Br,I8,HN]
theorem Wy (x):EA x:=by rw[Lq];trivial
def Of(_:Int×Int×Int×Int):Prop:=True
def U4(_:Int×Int×Int×Int):Prop:=True
theorem eL(a b:Int×Int×Int×Int)(h:Of a):Lh (a,b)∧(Gy (a,b)=true↔a=b):=by
 obtain⟨a0,a1,a2,a3⟩:=a;obtain⟨b0,b1,b2,b3⟩:=b;rw[aj,ak];refine⟨by simp,?_⟩;simp only[Bs,Br,Rv,EO,Ai,Bool.not_not,Bc,Ak,AB]
 try (constructor<;>intro h<;>simp_all)
theorem Vg{α:Type}(x:List α)(d:α){i:Nat}(h:i<x.length):x.take i++[x.getD i d]=x.take (i+1):=by
 rw[O7,Dx,As h];rfl
theorem ja{n:Int}(h0:0≤n)(h1:n<256):IntKind.u8.wrap n=n:=by
 simp only[IntKind.wrap,IntKind.bits,IntKind.signed,KF,Ay,AO];omega
theorem iL{n:Int}(h0:0≤n)(h1:n<256):iConv .u8 n=n:=by rw[Wv];exact ja h0 h1
def Bytes(x:List Int):Prop:=∀ a∈x,0≤a∧a<256
theorem Bytes.get{x:List Int}(h:Bytes x)(i:Nat):∃ n:Nat,n<256∧x.getD i 0=(n:Int):=by
 by_cases hi:i<x.length
 · obtain⟨h0,h1⟩:=h _ (Ht x i 0 hi);exact⟨(x.getD i 0).toNat,by omega,by omega⟩
 · exact⟨0,by omega,by rw[Dx,AZ (by omega)];rfl⟩
theorem Bytes.of{x:List Int}(h:CT.wf (.sl (.one (.int .u8))) x):Bytes x:=by
 intro a ha;have:=h.2 a ha;simp only[RT.wf,CT.wf] at this
 have h:IntKind.u8.min≤a∧a≤IntKind.u8.max:=by simpa [Lit.wf] using this
 have e1:IntKind.u8.min=0:=by decide
 have e2:IntKind.u8.max=255:=by decide
 rw[e1,e2] at h;omega
def RepOk(x:Int×List Int):Prop:=(0≤x.1∧x.1≤15)∧∀ i,i<x.2.length→(1≤x.2.getD i 0∧x.2.getD i 0≤56)∧(0<i→x.2.getD (i-1) 0<x.2.getD i 0)
theorem RepOk.code{x:Int×List Int}(h:RepOk x)(i:Nat)(hi:i<x.2.length):(i:Int)+1≤x.2.getD i 0:=by
 induction i with
 |zero=>have:=(h.2 0 hi).1;omega
 | succ i ih=>
   have h1:=ih (by omega);have h2:=(h.2 (i+1) hi).2 (by omega);rw[Nat.add_sub_cancel] at h2;omega
theorem RepOk.len{x:Int×List Int}(h:RepOk x):x.2.length≤56:=by
 rcases A9 56 x.2.length with h1|h1
 · have h2:=h.code 56 h1;have h3:=(h.2 56 h1).1;omega
 · exact h1
section
set_option maxRecDepth 20000
theorem IF{n:Nat}(h:n≤1048577000):AY n:=by unfold AY;exact Ct h (by decide)
theorem ju(s:List UInt8)(j:Int):sGet s j=((s.getD j.toNat 0).toNat:Int):=by simp only[W1]
theorem IJ(s:List UInt8):sRow s=s.map fun b=>((b.toNat:Nat):Int):=by simp only[WY]
theorem WE(l:List Int):rowS l=l.map fun n=>UInt8.ofNat n.toNat:=by simp only[Xk]
theorem eZ(s:List UInt8):rowS (sRow s)=s:=by
 rw[IJ,WE,List.map_map]
 conv=>rhs;rw[← List.map_id s]
 apply List.map_congr_left;intro b _;simp
theorem Vt(a b:List UInt8):sRow (a++b)=sRow a++sRow b:=by rw[IJ,IJ,IJ,Eg]
theorem VJ(a:List UInt8):(sRow a).length=a.length:=by rw[IJ,A5]
def Ei:List UInt8→Int→List (List UInt8)
 |[],_=>[[]]
 |b::r,c=>if (b.toNat:Int)=c then []::Ei r c else match Ei r c with|[]=>[[b]]|w::ws=>(b::w)::ws
theorem Uo:∀ (s:List UInt8) (c:Int),(∀ b∈s,(b.toNat:Int)≠c)→Ei s c=[s]
 |[],_,_=>rfl
 | b::r,c,h=>by
   have e:=Uo r c (fun x hx=>h x (by simp[hx]))
   simp[Ei,h b (by simp),e]
theorem Vc:∀ (a:List UInt8) (b:UInt8) (r:List UInt8) (c:Int),(∀ x∈a,(x.toNat:Int)≠c)→(b.toNat:Int)=c→Ei (a++b::r) c=a::Ei r c
 |[],b,r,c,_,h=>by simp[Ei,h]
 | x::a,b,r,c,ha,h=>by
   have e:=Vc a b r c (fun y hy=>ha y (by simp[hy])) h
   simp[Ei,ha x (by simp),e]
theorem dh{s:List UInt8}{F I:Nat}(h:F≤I)(hI:I<s.length):s.drop F=(s.drop F).take (I-F)++s.getD I 0::s.drop (I+1):=by
 rw[Dx,As hI,HA]
 conv=>lhs;rw[← List.take_append_drop (I-F) (s.drop F)]
 rw[List.drop_drop,show F+(I-F)=I by omega,OZ hI]
theorem eB(s:List UInt8)(c:Int)(h:s.length≤1048576):Nl (s,c)∧Nt (s,c)=Ei s c:=by
 rw[Y0,Zm]
 have key:=OE (c:=K7 (s,c)) (f:=Nf (s,c)) (p:=PO (s,c))
  (fun st=>∃ (out:List (List UInt8)) (F I:Nat),st=(out,(F:Int),(I:Int))∧out.length≤I∧((F≤I∧I≤s.length∧(∀ b∈(s.drop F).take (I-F),(b.toNat:Int)≠c)∧Ei s c=out++Ei (s.drop F) c)∨(I=s.length+1∧Ei s c=out)))
  (fun st=>s.length+1-st.2.2.toNat) (fun st hI=>?_) (x0:=([],0,0)) ⟨[],0,0,rfl,by simp,.inl ⟨AF _,Ft _,by simp,rfl⟩⟩
 · obtain⟨k1,⟨out,F,I,e,_,hh⟩,k2⟩:=key;refine⟨k1,?_⟩;rw[e] at k2 ⊢;simp only[K7,HN,Aw,BQ] at k2;rcases hh with⟨_,h1,_⟩|⟨_,h1⟩
   · omega
   · exact h1.symm
 · obtain⟨out,F,I,rfl,hl,hh⟩:=hI;simp only[K7,Nf,PO,HN,HB,Aw,Bn,Be,RA,OL,ju,EK,DN,Bc,BQ,A4,AW]
   have ha:iAdd .i64 (I:Int) 1=((I+1:Nat):Int):=by
    rw[GO (by unfold CZ;rcases hh with⟨_,h1,_⟩|⟨h1,_⟩<;>omega)];rfl
   rw[ha];rcases hh with⟨hFI,hIl,hfree,hs⟩|⟨hI1,hs⟩
   · refine⟨⟨fun _=>⟨⟨fun _=>trivial,fun hne=>⟨by omega,by omega⟩⟩,fun _=>⟨⟨⟨by omega,by omega⟩,by omega,by omega⟩,IF (by omega)⟩,fun _=>trivial⟩,fun _=>trivial⟩,fun _=>?_⟩;by_cases hlt:I<s.length
     · have hne:decide ((I:Int)=(s.length:Int))=false:=IL (by omega);rw[hne,Bool.false_or];by_cases hc:((s.getD I 0).toNat:Int)=c
       · simp only[hc,decide_true,AD];refine⟨⟨_,I+1,I+1,rfl,by simp;omega,.inl ⟨AF _,by omega,by simp,?_⟩⟩,by simp only[Be];omega⟩;rw[hs]
         conv=>lhs;rw[dh hFI hlt,Vc _ _ _ _ hfree hc]
         simp
       · simp only[hc,decide_false,Ay,AO];refine⟨⟨_,F,I+1,rfl,by omega,.inl ⟨by omega,by omega,fun b hb=>?_,hs⟩⟩,by simp only[Be];omega⟩
         have e:(s.drop F).take (I+1-F)=(s.drop F).take (I-F)++[s.getD I 0]:=by
          rw[show I+1-F=(I-F)+1 by omega,O7,I3,show F+(I-F)=I by omega,As hlt,Dx,As hlt];rfl
         rw[e,C9,List.mem_singleton] at hb;rcases hb with hb|rfl
         · exact hfree b hb
         · exact hc
     · have e:I=s.length:=by omega
       subst e;simp only[decide_true,Bool.true_or,AD];refine⟨⟨_,s.length+1,s.length+1,rfl,by simp;omega,.inr ⟨rfl,?_⟩⟩,by simp only[Be];omega⟩;have e2:(s.drop F).take (s.length-F)=s.drop F:=OU (by rw[List.length_drop];exact AF _);rw[e2] at hfree ⊢;rw[hs,Uo _ _ hfree]
   · subst hI1;refine⟨⟨fun hh=>by omega,fun _=>trivial⟩,fun hh=>by omega⟩
theorem cv:Ei B9 32=BO:=by decide
theorem dF:NB PUnit.unit∧JQ PUnit.unit=BO:=by
 rw[aG,aC];have:=eB B9 32 (by decide);rw[cv] at this;exact this
theorem bY(k:Int):Ir k∧Is k∧FK k=E9 k∧(E9 k).length≤5:=by
 obtain⟨n1,n2⟩:=dF;have hl:BO.length=56:=rfl
 have hw:∀ w∈BO,w.length≤5:=by decide
 rw[Zx,Z6,aq,Z3,n2,Z2,Z7];simp only[Lq,JV,Bs,Br,EK,DN,I8,HN,AE,IW,BA,Bn,hl];by_cases h:1≤k∧k≤56
 · have e:iSub .i64 k 1=k-1:=Ri (by unfold CZ;omega);rw[e];have d1:decide (1≤k)=true:=IP h.1;have d2:decide (k≤56)=true:=IP h.2;have d3:decide (k<1)=false:=IL (by omega);have d4:decide (56<k)=false:=IL (by omega);simp only[d1,d2,d3,d4];refine⟨⟨trivial,fun h=>(by cases h),fun _=>⟨n1,⟨by omega,by omega⟩,by omega⟩⟩,⟨fun h=>(by cases h),fun _=>⟨⟨⟨by first|rfl|trivial,by first|rfl|trivial⟩,trivial⟩,⟨by omega,by omega⟩,by omega⟩⟩,rfl,?_⟩;show (BO.getD (k-1).toNat []).length≤5;rw[Dx,As (show (k-1).toNat<BO.length by omega)];exact hw _ (Dc _)
 · have d:(decide (1≤k)&&decide (k≤56))=false:=by
    rw[Jk,BQ,BQ];omega
   have d':(decide (k<1)||decide (56<k))=true:=by
    rw[BS,Bc,Bc];omega
   simp only[d,d'];exact⟨⟨trivial,fun _=>trivial,fun h=>(by cases h)⟩,⟨fun _=>trivial,fun h=>(by cases h)⟩,rfl,by simp⟩
def lG(m:Int)(k:Nat):Bool:=iEq (iAnd .i64 (iShr .i64 m (k:Int)) 1) 1
def fm(m:Int):Nat→List UInt8
 |0=>[]
 |k+1=>if lG m k then fm m k++[([67,83,65,71]:List UInt8).getD k 0] else fm m k
theorem Mu(m:Int):∀ k,(fm m k).length≤k
 |0=>AF _
 | k+1=>by
   unfold fm
   split
   · simp;exact Mu m k
   · exact Nat.le_succ_of_le (Mu m k)
theorem gC(m:Int):Il m∧Im m∧Ey m=DF m∧DF m=(if 1≤m∧m≤15 then fm m 4 else []):=by
 rw[YG,YO,YE,YD];by_cases h:1≤m∧m≤15
 · have d1:BM (m,1,15)=true:=by simp only[JV,Br,I8,HN];simp[h.1,h.2]
   have d2:bOr (iLt m 1) (iGt m 15)=false:=by simp only[EK,AE,IW,CV,BQ];omega
   have hk:∀ k:Nat,k<4→k=0∨k=1∨k=2∨k=3:=fun k hk=>by omega
   have ad:∀ k:Nat,k<4→iAdd .i64 (k:Int) 1=((k+1:Nat):Int):=fun k hk=>by rw[GO (by unfold CZ;omega)];rfl
   have sub:∀ k:Nat,k<4→lSub ([67,83,65,71]:List UInt8) k (k+1)=[([67,83,65,71]:List UInt8).getD k 0]:=fun k h4=>by
    rw[RA];rcases hk k h4 with rfl|rfl|rfl|rfl<;>rfl
   have gt:∀ k:Nat,k<4→lGet ([[67],[83],[65],[71]]:List (List UInt8)) k []=[([67,83,65,71]:List UInt8).getD k 0]:=fun k h4=>by
    rw[BA];rcases hk k h4 with rfl|rfl|rfl|rfl<;>rfl
   have L1:=Hr (c:=Ij m) (f:=K6 m) (p:=JC m) 4 (fun k=>(fm m k,(k:Int))) (x0:=([],0)) rfl (fun k h4=>by
    have i4:iLt (k:Int) 4=true:=by rw[AE];exact IP (by omega)
    have len:=Mu m k;simp only[Ij,K6,JC,d1,i4,ad k h4,sub k h4,Br,BU,Lq,Bn,Be,A4,AW];refine⟨⟨⟨fun _=>trivial,fun h=>(by cases h)⟩,fun _=>⟨by omega,fun _=>⟨⟨⟨by omega,by omega⟩,by omega,by omega⟩,by omega⟩,fun _=>trivial⟩,fun h=>(by cases h)⟩,trivial,?_⟩;rw[fm,DN,Ma]
    rfl) (by
    have i4:iLt ((4:Nat):Int) 4=false:=by rw[AE];rfl
    simp only[Ij,JC,i4,Br,KF]
    exact⟨⟨⟨fun h=>(by cases h),fun _=>trivial⟩,fun h=>(by cases h),fun _=>trivial⟩,trivial⟩)
   have L2:=Hr (c:=K5) (f:=Nb m) (p:=Nc m) 4 (fun k=>(fm m k,(k:Int))) (x0:=([],0)) rfl (fun k h4=>by
    have i4:iLt (k:Int) (lLen ([[67],[83],[65],[71]]:List (List UInt8)))=true:=by rw[AE,Aw];exact IP (by simp;omega)
    have len:=Mu m k;simp only[K5,Nb,Nc,i4,ad k h4,gt k h4,cn,cy,Bn,Be,A4,AW];refine⟨⟨fun _=>⟨⟨by omega,by omega⟩,by omega,by omega,fun _=>by omega,fun _=>trivial⟩,fun h=>(by cases h)⟩,trivial,?_⟩;rw[fm,DN,Ma]
    rfl) (by
    have i4:iLt ((4:Nat):Int) (lLen ([[67],[83],[65],[71]]:List (List UInt8)))=false:=by rw[AE,Aw];rfl
    simp only[K5,Nc,i4]
    exact⟨⟨fun h=>(by cases h),fun _=>trivial⟩,trivial⟩)
   rw[L1.2,L2.2,d2];exact⟨L1.1,⟨fun h=>(by cases h),fun _=>L2.1⟩,by rw[DN];rfl,by rw[Ab h]⟩
 · have d1:BM (m,1,15)=false:=by
    simp only[JV,Br,I8,HN,Jk,BQ];omega
   have d2:bOr (iLt m 1) (iGt m 15)=true:=by simp only[EK,AE,IW,BS,Bc];omega
   have L1:=Hr (c:=Ij m) (f:=K6 m) (p:=JC m) 0 (fun _=>([],0)) (x0:=([],0)) rfl (fun k h=>by omega) (by
    simp only[Ij,JC,d1,Br,Bool.and_false,Lq]
    exact⟨⟨⟨fun _=>trivial,fun _=>trivial⟩,fun h=>(by cases h),fun _=>trivial⟩,trivial⟩)
   rw[L1.2,d2];exact⟨L1.1,⟨fun _=>trivial,fun h=>(by cases h)⟩,by rw[DN];rfl,by rw[Ad h]⟩
theorem ga(m:Int):Il m∧Im m∧Ey m=DF m∧(DF m).length≤4:=by
 obtain⟨a,b,c,d⟩:=gC m;refine⟨a,b,c,?_⟩;rw[d];split
 · exact Mu m 4
 · simp
theorem UU(sep x:List UInt8):∀ (l:List (List UInt8)),BD (l++[x]) sep=if l=[] then x else BD l sep++sep++x
 |[]=>by simp[BD,List.intercalate]
 |[a]=>by simp[BD,List.intercalate]
 | a::b::r=>by
   have:=UU sep x (b::r)
   simp only[BD,List.intercalate,B3,List.intersperse,EN,reduceCtorEq,AO] at this ⊢
   rw[this]
   simp
theorem Oi(sep:List UInt8)(W:Nat):∀ (l:List (List UInt8)),(∀ w∈l,w.length+sep.length≤W)→(BD l sep).length≤l.length*W
 |[],_=>by simp[BD,List.intercalate]
 | [a],h=>by
   have:=h a (by simp)
   simp[BD,List.intercalate];omega
 | a::b::r,h=>by
   have i:=Oi sep W (b::r) (fun w hw=>h w (by simp[hw]))
   have:=h a (by simp)
   simp only[BD,List.intercalate,List.intersperse,EN,DQ,A4] at i ⊢
   rw[Cu (r.length+1) 1 W]
   omega
theorem Vl(xs:List (List UInt8))(sep:List UInt8)(hl:xs.length≤1048576)(hw:∀ w∈xs,w.length+sep.length≤1000):Iq (xs,sep)∧Hc (xs,sep)=BD xs sep:=by
 rw[ZW,ZQ]
 have tl:∀ k,(BD (xs.take k) sep).length≤1048576000:=fun k=>by
  have h1:=Oi sep 1000 (xs.take k) (fun w hw'=>hw w (Jb hw'))
  have h2:(xs.take k).length≤1048576:=by rw[SG];omega
  exact Ct h1 (Nat.mul_le_mul h2 (AF _))
 have L:=Hr (c:=K9 (xs,sep)) (f:=Nj (xs,sep)) (p:=Ni (xs,sep)) xs.length (fun k=>(sRow (BD (xs.take k) sep),(k:Int))) (x0:=([],0)) (by simp[BD,List.intercalate,IJ]) (fun k hk=>by
  have i1:iLt (k:Int) (lLen xs)=true:=by rw[AE,Aw];exact IP (by omega)
  have ad:iAdd .i64 (k:Int) 1=((k+1:Nat):Int):=by rw[GO (by unfold CZ;omega)];rfl
  have gk:lGet xs k []=xs.getD k []:=BA _ _ _
  have hwk:(xs.getD k []).length+sep.length≤1000:=by
   rw[Dx,As hk];exact hw _ (Dc _)
  have tk:=tl k
  have sn:BD (xs.take (k+1)) sep=if xs.take k=[] then xs.getD k [] else BD (xs.take k) sep++sep++xs.getD k []:=by
   rw[← Vg xs [] hk,UU]
  simp only[K9,Nj,Ni,i1,ad,gk,OL,Bn,Be,VJ,DQ];refine⟨⟨fun _=>⟨⟨fun _=>IF (by omega),fun _=>trivial⟩,⟨by omega,by omega⟩,hk,?_⟩,fun h=>(by cases h)⟩,trivial,?_⟩
  · refine IF ?_;rw[DN];split<;>simp only[DQ,VJ]<;>omega
  · rw[sn,DN,IW];rcases Kw k with rfl|h0
    · simp[IJ,BD,List.intercalate]
    · have h1:xs.take k≠[]:=fun e=>by
       have:=congrArg List.length e;rw[SG,AW] at this;omega
      have h2:decide ((0:Int)<(k:Int))=true:=IP (by omega)
      rw[Ad h1,h2,Ab rfl,Vt,Vt]) (by
  have i1:iLt (xs.length:Int) (lLen xs)=false:=by rw[AE,Aw];exact IL (by omega)
  simp only[K9,Ni,i1]
  exact⟨⟨fun h=>(by cases h),fun _=>trivial⟩,trivial⟩)
 rw[L.2,IY,eZ];exact⟨L.1,rfl⟩
theorem VL(xs:List (List UInt8))(sep:List UInt8)(hl:xs.length≤1048576)(hw:∀ w∈xs,w.length+sep.length≤100):Iq (xs,sep)∧Hc (xs,sep)=BD xs sep:=Vl xs sep hl fun w h=>Ct (hw w h) (by decide)
end
section
set_option maxRecDepth 20000
theorem fo(n:Nat)(h:n<10):Lib.decDigits n=[UInt8.ofNat (48+n)]:=by
 unfold Lib.decDigits;rw[dif_pos h]
theorem bj(n:Int)(h0:0≤n)(h1:n≤3):Gm n∧Io n∧FJ n=CO n∧(CO n).length≤1:=by
 obtain⟨k,rfl⟩:∃ k:Nat,n=k:=⟨n.toNat,by omega⟩
 have hk:k=0∨k=1∨k=2∨k=3:=by omega
 have ei:FJ (k:Int)=[UInt8.ofNat (48+k)]:=by
  rw[Za,TG,Be,fo k (by omega)]
 have oi:Io (k:Int):=by rw[Y4,TE];omega
 rw[ei]
 have hne:iNe (0:Int) 0=false:=by rw[EO];rfl
 rw[YZ,YU];rcases Kw k with rfl|hp
 · have e:iEq ((0:Nat):Int) 0=true:=by rw[HB];rfl
   rw[e,DW];exact⟨⟨fun _=>trivial,fun h=>(by cases h)⟩,oi,rfl,by simp⟩
 · have e:iEq (k:Int) 0=false:=by rw[HB];exact IL (by omega)
   have e2:iLt (k:Int) 0=false:=by rw[AE];exact IL (by omega)
   have e3:iNe (k:Int) 0=true:=by rw[EO];simp;omega
   have hr:iRem (k:Int) 10=(k:Int):=by rw[iK (by omega)];omega
   have hq:iQuo .i64 (k:Int) 10=0:=by rw[hZ (by omega) (by unfold CZ;omega)];omega
   have hd:rowS [iConv .u8 (iAdd .i64 48 (bSel (iLt (iRem (k:Int) 10) 0) (iNeg .i64 (iRem (k:Int) 10)) (iRem (k:Int) 10)))]=[UInt8.ofNat (48+k)]:=by
    rw[hr,e2,Da,GO (by unfold CZ;omega),iL (by omega) (by omega),WE]
    have:((48:Int)+(k:Int)).toNat=48+k:=by omega
    simp[this]
   have L:=Hr (c:=Ik) (f:=JF) (p:=Nd) 1 (fun j=>if j=0 then ([],(k:Int)) else ([UInt8.ofNat (48+k)],0)) (x0:=([],(k:Int))) rfl (fun j hj=>by
    have:j=0:=by omega
    subst this;simp only[Ik,JF,Nd,hd,hq,e3,Ma,AD]
    exact⟨⟨fun _=>⟨by decide,by simp,by decide⟩,fun h=>(by cases h)⟩,trivial,rfl⟩) (by
    simp only[Ik,Nd,Ad (show ¬ (1:Nat)=0 by decide),hne]
    exact⟨⟨fun h=>(by cases h),fun _=>trivial⟩,trivial⟩)
   rw[e,e2,Da,Da,L.2];exact⟨⟨fun h=>(by cases h),fun _=>⟨L.1,fun h=>(by cases h),fun _=>trivial⟩⟩,oi,rfl,by simp⟩
theorem ef(k c m n:Int)(h:D4 (k,c,m,n)=true):(0≤k∧k≤10)∧(k=3∨k=4∨k=5∨k=7∨k=9→0≤n∧n≤3):=by
 rw[To] at h;simp only[JV,DN,EK,Br,HB,I8,HN] at h;by_cases h0:k=0∨k=1∨k=10
 · omega
 · by_cases h2:k=2
   · omega
   · by_cases h3:k=3∨k=4
     · rcases h3 with rfl|rfl<;>simp at h<;>omega
     · by_cases h5:k=5∨k=9
       · rcases h5 with rfl|rfl<;>simp at h<;>omega
       · by_cases h6:k=6
         · omega
         · by_cases h7:k=7
           · subst h7;simp at h;omega
           · by_cases h8:k=8
             · omega
             · have a0:(k=0)=False:=eq_false (by omega);have a1:(k=1)=False:=eq_false (by omega);have a2:(k=10)=False:=eq_false (by omega);have a3:(k=3)=False:=eq_false (by omega);have a4:(k=4)=False:=eq_false (by omega);have a5:(k=5)=False:=eq_false (by omega);have a9:(k=9)=False:=eq_false (by omega);simp[a0,a1,a2,a3,a4,a5,a9,h2,h6,h7,h8] at h
theorem Nz(x:Int×Int×Int×Int):Na x∧M8 x∧K8 x=CF x∧(CF x).length≤20:=by
 obtain⟨k,c,m,n⟩:=x;obtain⟨c1,c2,c3,c4⟩:=bY c;obtain⟨m1,m2,m3,m4⟩:=ga m;have a1:JI (k,c,m,n):=Tg _;have a2:JG (k,c,m,n):=Th _;rw[Yj,Ye,Ys,Yd,← Uk]
 cases hv:D4 (k,c,m,n) with
 | false=>
   rw[Bs];simp only[Bool.not_false,DW];exact⟨⟨a1,fun _=>trivial,fun h=>(by cases h)⟩,⟨a2,fun _=>trivial,fun h=>(by cases h)⟩,by first|rfl|trivial,by simp⟩
 | true=>
   obtain⟨hk,hn⟩:=ef k c m n hv
   have hn:k=3∨k=4∨k=5∨k=7∨k=9→Gm n∧Io n∧FJ n=CO n∧(CO n).length≤1:=fun h=>bj n (hn h).1 (hn h).2
   simp only[Bs,Pe,Da,HB,EO,DN,Ma,c3,m3,bc,aU,a1,a2];rcases (show k=0∨k=1∨k=2∨k=3∨k=4∨k=5∨k=6∨k=7∨k=8∨k=9∨k=10 by omega) with rfl|rfl|rfl|rfl|rfl|rfl|rfl|rfl|rfl|rfl|rfl
   · simp
   · simp
   · by_cases h0:m=0
     · subst h0;simp[c1,c2,c4];omega
     · simp[h0,c1,c2,m1,m2];omega
   · obtain⟨i1,i2,i3,i4⟩:=hn (by omega);simp[i1,i2,i3];omega
   · obtain⟨i1,i2,i3,i4⟩:=hn (by omega);simp[i1,i2,i3];omega
   · obtain⟨i1,i2,i3,i4⟩:=hn (by omega);simp[i1,i2,i3];omega
   · simp[c1,c2,m1,m2];omega
   · obtain⟨i1,i2,i3,i4⟩:=hn (by omega);simp[i1,i2,i3,c1,c2];omega
   · simp[m1,m2];omega
   · obtain⟨i1,i2,i3,i4⟩:=hn (by omega);simp[i1,i2,i3];omega
   · simp
end
theorem fL(x:Int×Int×Int×Int)(h:Of x):Lg x∧Ez x=x:=by
 rw[ZJ,ZP];exact⟨trivial,rfl⟩
def Iy(x:List (Int×Int×Int×Int)):Prop:=x.length≤1048576∧∀ a∈x,Of a
def Uz(x:List (Int×Int×Int×Int)):Prop:=x.length≤9223372036854775807∧∀ a∈x,U4 a
theorem dQ(x:List (Int×Int×Int×Int))(hw:Uz x)(l:Int)(h0:0≤l)(h1:l≤1048576):Lb (x,l)∧(CG (x,l)<0∨(0≤CG (x,l)∧CG (x,l)≤l∧Iy x)):=by
 rw[YV,Zc];have hl:x.length≤9223372036854775807:=hw.1
 have hs:iSub .i64 l (lLen x)=l-x.length:=by rw[Aw];exact Ri (by unfold CZ;omega)
 refine⟨trivial,?_⟩;simp only[hs,AE,DN,Bc];split
 · left;omega
 · right;exact⟨by omega,by omega,⟨by omega,fun a _=>by simp[Of]⟩⟩
def JX(x:List (List (Int×Int×Int×Int))):Prop:=x.length≤1048576∧∀ a∈x,Iy a
def Uc(x:List (List (Int×Int×Int×Int))):Prop:=x.length≤9223372036854775807∧∀ a∈x,Uz a
theorem cO(x:List (List (Int×Int×Int×Int)))(hw:Uc x)(l:Int)(h0:0≤l)(h1:l≤1048576):Ng (x,l)∧(Ha (x,l)<0∨(0≤Ha (x,l)∧Ha (x,l)≤l∧JX x)):=by
 rw[YR,YP];obtain⟨hl,hw2⟩:=hw
 have hs:iSub .i64 l (lLen x)=l-x.length:=by rw[Aw];exact Ri (by unfold CZ;omega)
 simp only[hs];by_cases hneg:l-(x.length:Int)<0
 · have hb:iLt (l-(x.length:Int)) 0=true:=by rw[AE];simpa using hneg
   rw[hb];exact⟨⟨fun _=>trivial,fun h=>(by cases h)⟩,by rw[DW];left;omega⟩
 · have hb:iLt (l-(x.length:Int)) 0=false:=by rw[AE];simpa using hneg
   rw[hb]
   have hg:∀ i:Nat,i<x.length→∀ m:Int,0≤m→m≤1048576→Lb (x.getD i [],m)∧(CG (x.getD i [],m)<0∨(0≤CG (x.getD i [],m)∧CG (x.getD i [],m)≤m∧Iy (x.getD i []))):=fun i hi m g0 g1=>dQ _ (hw2 _ (Ht x i [] hi)) m g0 g1
   refine⟨⟨fun h=>(by cases h),fun _=>km x [] Iy (fun a m=>CG (a,m)) (l-(x.length:Int)) (by omega) (by omega) (by omega) (fun i hi m g0 g1=>(hg i hi m g0 g1).2) (fun m i hi=>by simp only[Br,AE,Aw,Bn,BA,Bs,Be,Kz]) (fun m i hi=>by simp only[Bn,BA,Be]) (fun m i g0 g1 hi=>?_)⟩,?_⟩
   · simp only[AE,Aw,Bn,BA,Bc,Be];exact⟨fun hh=>⟨by omega,by omega,(hg i (by omega) m g0 g1).1⟩,fun _=>trivial⟩
   · rw[Da];have hv:=k9 (c:=fun st:Int×Int=>bAnd (iLt st.2 (lLen x)) (bNot (iLt (CG ((lGet x (iNat st.2) []),st.1)) 0))) (f:=fun st=>(CG ((lGet x (iNat st.2) []),st.1),iAdd .i64 st.2 1)) x [] Iy (fun a m=>CG (a,m)) (l-(x.length:Int)) (by omega) (by omega) (by omega) (fun i hi m g0 g1=>(hg i hi m g0 g1).2) (fun m i hi=>by simp only[Br,AE,Aw,Bn,BA,Bs,Be,Kz]) (fun m i hi=>by simp only[Bn,BA,Be]);rcases jZ (l:=l) (by omega) hv with h|⟨h2,h3,h4⟩
     · exact .inl h
     · exact .inr ⟨h2,h3,(by omega),h4⟩
def Hl(x:Int×(List (List (Int×Int×Int×Int)))):Prop:=JX x.2∧True
def QH(x:Int×(List (List (Int×Int×Int×Int)))):Prop:=Uc x.2∧True
theorem fP(x:Int×(List (List (Int×Int×Int×Int))))(hw:QH x)(l:Int)(h0:0≤l)(h1:l≤1048576):Nu (x,l)∧(FL (x,l)<0∨(0≤FL (x,l)∧FL (x,l)≤l∧Hl x)):=by
 rw[ZX,ZY];have hx:=hw;unfold QH at hw;obtain⟨k0,g0⟩:=cO x.2 hw.1 l (by omega) (by omega);generalize hz0:Ha (x.2,l)=z0 at g0 ⊢;rcases g0 with g0|⟨g0,g0',g0''⟩
 · have hb:iLt z0 0=true:=by rw[AE];simpa using g0
   refine⟨?_,?_⟩
   · simp[k0,hb]
   · simp only[hb,DW];left;omega
 have hb0:iLt z0 0=false:=by rw[AE];simpa using g0
 simp only[hb0,Da];exact⟨by simp[k0],.inr ⟨by omega,by omega,g0'',trivial⟩⟩
theorem du(x:List (Int×Int×Int×Int))(h:Iy x):La x∧JJ x=x:=by
 rw[YY,Zl];obtain⟨h1,h2⟩:=h
 have hY:∀ i:Nat,i<x.length→Lg ((x.getD i (0,0,0,0)).1,(x.getD i (0,0,0,0)).2.1,(x.getD i (0,0,0,0)).2.2.1,(x.getD i (0,0,0,0)).2.2.2)∧Ez ((x.getD i (0,0,0,0)).1,(x.getD i (0,0,0,0)).2.1,(x.getD i (0,0,0,0)).2.2.1,(x.getD i (0,0,0,0)).2.2.2)=x.getD i (0,0,0,0):=fun i hi=>fL _ (h2 _ (Ht x i (0,0,0,0) hi))
 refine⟨⟨⟨by rw[Aw];omega,VU (by rw[Aw];omega) (by rw[Aw];omega) (by omega)⟩,Vo x (0,0,0,0) (0,0,0,0) h1 (fun _=>rfl) (fun l i hi=>by simp only[LX,BA,Bn,Be];rw[(hY i hi).2]) (fun l i hl hi=>?_)⟩,Wx x (0,0,0,0) (0,0,0,0) h1 (fun _=>rfl) (fun l i hi=>by simp only[LX,BA,Bn,Be];rw[(hY i hi).2])⟩;simp only[AE,Aw,Bn,BA,Bc,Be];exact⟨fun hh=>⟨by omega,by omega,(hY i (by omega)).1,by omega,by omega⟩,fun _=>trivial⟩
theorem cJ(x:List (List (Int×Int×Int×Int)))(h:JX x):Nk x∧Nn x=x:=by
 rw[YL,Yy];obtain⟨h1,h2⟩:=h
 have hY:∀ i:Nat,i<x.length→La (x.getD i [])∧JJ (x.getD i [])=x.getD i []:=fun i hi=>du _ (h2 _ (Ht x i [] hi))
 refine⟨⟨⟨by rw[Aw];omega,VU (by rw[Aw];omega) (by rw[Aw];omega) (by omega)⟩,Vo x [] [] h1 (fun _=>rfl) (fun l i hi=>by simp only[LX,BA,Bn,Be];rw[(hY i hi).2]) (fun l i hl hi=>?_)⟩,Wx x [] [] h1 (fun _=>rfl) (fun l i hi=>by simp only[LX,BA,Bn,Be];rw[(hY i hi).2])⟩;simp only[AE,Aw,Bn,BA,Bc,Be];exact⟨fun hh=>⟨by omega,by omega,(hY i (by omega)).1,by omega,by omega⟩,fun _=>trivial⟩
theorem ed(x:Int×(List (List (Int×Int×Int×Int))))(h:Hl x):JH x∧Dn x=x:=by
 rw[ZG,ZZ];have k0:=cJ x.2 (by unfold Hl at h;exact h.1);refine⟨k0.1,?_⟩;simp only[k0.2]
theorem dJ(a b:List (Int×Int×Int×Int))(h:Iy a):Ld (a,b)∧(Gv (a,b)=true↔a=b):=by
 rw[YT,YX];obtain⟨h1,h2⟩:=h
 have hY:∀ i:Nat,i<a.length→Lh (((lGet a i (0,0,0,0)).1,(lGet a i (0,0,0,0)).2.1,(lGet a i (0,0,0,0)).2.2.1,(lGet a i (0,0,0,0)).2.2.2),((lGet b i (0,0,0,0)).1,(lGet b i (0,0,0,0)).2.1,(lGet b i (0,0,0,0)).2.2.1,(lGet b i (0,0,0,0)).2.2.2))∧(Gy (((lGet a i (0,0,0,0)).1,(lGet a i (0,0,0,0)).2.1,(lGet a i (0,0,0,0)).2.2.1,(lGet a i (0,0,0,0)).2.2.2),((lGet b i (0,0,0,0)).1,(lGet b i (0,0,0,0)).2.1,(lGet b i (0,0,0,0)).2.2.1,(lGet b i (0,0,0,0)).2.2.2))=true↔a.getD i (0,0,0,0)=b.getD i (0,0,0,0)):=fun i hi=>by
  have:=eL (a.getD i (0,0,0,0)) (b.getD i (0,0,0,0)) (h2 _ (Ht a i (0,0,0,0) hi));rw[BA,BA];exact this
 by_cases hl:a.length=b.length
 · refine⟨⟨fun _=>trivial,fun _=>XG a b (0,0,0,0) (fun i=>bNot (Gy (((lGet a i (0,0,0,0)).1,(lGet a i (0,0,0,0)).2.1,(lGet a i (0,0,0,0)).2.2.1,(lGet a i (0,0,0,0)).2.2.2),((lGet b i (0,0,0,0)).1,(lGet b i (0,0,0,0)).2.1,(lGet b i (0,0,0,0)).2.2.1,(lGet b i (0,0,0,0)).2.2.2)))) hl (fun i hi=>by simp only[Bs,El,(hY i hi).2]) (by omega) (fun i hi=>by simp only[Br,AE,Aw,Bn,Bs,Be,Kz]) (fun i hi=>rfl) (fun i hi=>?_)⟩,?_⟩
   · simp only[AE,Aw,Bn,Bc,Be];exact⟨fun hh=>⟨by omega,by omega,by omega,by omega,(hY i (by omega)).1⟩,fun _=>trivial⟩
   · have hv:=XV (c:=fun i:Int=>bAnd (iLt i (lLen a)) (bNot ((fun i=>bNot (Gy (((lGet a i (0,0,0,0)).1,(lGet a i (0,0,0,0)).2.1,(lGet a i (0,0,0,0)).2.2.1,(lGet a i (0,0,0,0)).2.2.2),((lGet b i (0,0,0,0)).1,(lGet b i (0,0,0,0)).2.1,(lGet b i (0,0,0,0)).2.2.1,(lGet b i (0,0,0,0)).2.2.2)))) i.toNat))) (f:=fun i=>iAdd .i64 i 1) a b (0,0,0,0) (fun i=>bNot (Gy (((lGet a i (0,0,0,0)).1,(lGet a i (0,0,0,0)).2.1,(lGet a i (0,0,0,0)).2.2.1,(lGet a i (0,0,0,0)).2.2.2),((lGet b i (0,0,0,0)).1,(lGet b i (0,0,0,0)).2.1,(lGet b i (0,0,0,0)).2.2.1,(lGet b i (0,0,0,0)).2.2.2)))) hl (fun i hi=>by simp only[Bs,El,(hY i hi).2]) (by omega) (fun i hi=>by simp only[Br,AE,Aw,Bs,Be,Kz]) (fun i hi=>rfl)
     have e1:bNot (iNe (lLen a) (lLen b))=true:=by rw[Bs,EO,Aw,Aw,hl];simp
     rw[e1,Br true,Bool.true_and,Bs (iLt _ (lLen a)),AE _ (lLen a)];simp only[← Bn,Aw] at hv ⊢;simp only[Cv,BQ];rw[hv];simp
 · have e1:bNot (iNe (lLen a) (lLen b))=false:=by rw[Bs,EO,Aw,Aw];simp;omega
   refine⟨⟨fun _=>trivial,fun h=>?_⟩,?_⟩
   · rw[Bs] at e1;rw[h] at e1;cases e1
   · rw[e1,Br,KF];constructor
     · intro h;cases h
     · intro e;subst e;exact absurd rfl hl
theorem cQ(a b:List (List (Int×Int×Int×Int)))(h:JX a):Nh (a,b)∧(Np (a,b)=true↔a=b):=by
 rw[YC,YI];obtain⟨h1,h2⟩:=h
 have hY:∀ i:Nat,i<a.length→Ld ((lGet a i []),(lGet b i []))∧(Gv ((lGet a i []),(lGet b i []))=true↔a.getD i []=b.getD i []):=fun i hi=>by
  have:=dJ (a.getD i []) (b.getD i []) (h2 _ (Ht a i [] hi));rw[BA,BA];exact this
 by_cases hl:a.length=b.length
 · refine⟨⟨fun _=>trivial,fun _=>XG a b [] (fun i=>bNot (Gv ((lGet a i []),(lGet b i [])))) hl (fun i hi=>by simp only[Bs,El,(hY i hi).2]) (by omega) (fun i hi=>by simp only[Br,AE,Aw,Bn,Bs,Be,Kz]) (fun i hi=>rfl) (fun i hi=>?_)⟩,?_⟩
   · simp only[AE,Aw,Bn,Bc,Be];exact⟨fun hh=>⟨by omega,by omega,by omega,by omega,(hY i (by omega)).1⟩,fun _=>trivial⟩
   · have hv:=XV (c:=fun i:Int=>bAnd (iLt i (lLen a)) (bNot ((fun i=>bNot (Gv ((lGet a i []),(lGet b i [])))) i.toNat))) (f:=fun i=>iAdd .i64 i 1) a b [] (fun i=>bNot (Gv ((lGet a i []),(lGet b i [])))) hl (fun i hi=>by simp only[Bs,El,(hY i hi).2]) (by omega) (fun i hi=>by simp only[Br,AE,Aw,Bs,Be,Kz]) (fun i hi=>rfl)
     have e1:bNot (iNe (lLen a) (lLen b))=true:=by rw[Bs,EO,Aw,Aw,hl];simp
     rw[e1,Br true,Bool.true_and,Bs (iLt _ (lLen a)),AE _ (lLen a)];simp only[← Bn,Aw] at hv ⊢;simp only[Cv,BQ];rw[hv];simp
 · have e1:bNot (iNe (lLen a) (lLen b))=false:=by rw[Bs,EO,Aw,Aw];simp;omega
   refine⟨⟨fun _=>trivial,fun h=>?_⟩,?_⟩
   · rw[Bs] at e1;rw[h] at e1;cases e1
   · rw[e1,Br,KF];constructor
     · intro h;cases h
     · intro e;subst e;exact absurd rfl hl
theorem eX(a b:Int×(List (List (Int×Int×Int×Int))))(h:Hl a):Nq (a,b)∧(NC (a,b)=true↔a=b):=by
 obtain⟨a0,a1⟩:=a;obtain⟨b0,b1⟩:=b;have k0:=cQ a1 b1 (by unfold Hl at h;exact h.1);rw[ZE,ZD];refine⟨by simp[k0.1,k0.2],?_⟩;simp only[k0.1,k0.2,Bs,Br,Rv,EO,Ai,Bool.not_not,Bc,Ak,AB]
 try (constructor<;>intro h<;>simp_all)
theorem cR(x:Int×List (List (Int×Int×Int×Int))):JN x=He x:=by
 rw[Zz,Tx,WM,WM]
 have inner:∀ (i a n:Int) (A B:Bool),bNot (bOr A (bSel (iEq a 1) (bOr (iEq i 0) B) B))=bNot (bOr A (bSel (iEq i 0) (bOr (iEq a 1) B) B)):=by
  intro i a n A B;simp only[Bs,EK,DN,HB];by_cases h1:a=1<;>by_cases h2:i=0<;>simp[h1,h2]
 simp only[Uk,fun i a A B=>inner i a 0 A B];generalize bNot (iLt (Ar _ _ _) (lLen x.2))=L;rw[Bool.eq_iff_iff];simp only[Br,Bs,EK,AE,IW,Aw,Ai,BS,Cv,El,Jk,CV,Bc,BQ,Mq,SP,AB,RW];cases L<;>simp<;>omega
theorem bt(x:Int×List (List (Int×Int×Int×Int)))(h:Hl x):Ns x∧Nv x:=by
 obtain⟨k,x⟩:=x;have h:JX x:=h.1;rw[ZM,Z1]
 have inl:∀ i:Int,0≤i→i<x.length→(lGet x (iNat i) []).length≤1048576:=fun i h0 hi=>by
  rw[BA,Bn];exact(h.2 _ (Ht x i.toNat [] (by omega))).1
 refine⟨⟨?_,fun _=>trivial,fun _=>⟨Wy _,fun _=>Wy _,fun _=>trivial⟩⟩,fun _=>trivial,fun _=>?_⟩
 all_goals
  refine WR (fun st=>st) x.length (by have:=h.1;omega) (fun st _ _ hc=>?_) (fun st=>rfl) (fun st h0 h1=>?_) (by simp) (by simp)
  · rw[Br,AE st,Aw,Ai,Bc] at hc
    exact hc.1
  · refine⟨fun hlt=>?_,fun _=>trivial⟩
    rw[AE,Aw,Bc] at hlt;have hlt:st<(x.length:Int):=hlt
    have h3:iNat st<x.length:=by rw[Bn];omega
    have hl:=inl st h0 hlt;refine⟨⟨h0,hlt⟩,h3,fun _=>trivial,fun _=>?_⟩;refine WR (fun st=>st) (lGet x (iNat st) []).length (by omega) (fun j _ _ hc=>?_) (fun st=>rfl) (fun j j0 j1=>?_) (by simp) (by simp)
    · rw[Br,AE j,Aw,Ai,Bc] at hc;exact hc.1
    · have fin:iLt j (lLen (lGet x (iNat st) []))=true→j<((lGet x (iNat st) []).length:Int)∧iNat j<(lGet x (iNat st) []).length:=fun hj=>by
       rw[AE,Aw,Bc] at hj;exact⟨hj,by rw[Bn];omega⟩
      first
       |exact⟨⟨h0,hlt⟩,h3,fun hj=>⟨⟨h0,hlt⟩,h3,⟨j0,(fin hj).1⟩,(fin hj).2,Tg _⟩,fun _=>trivial⟩
       |exact⟨fun hj=>⟨⟨j0,(fin hj).1⟩,(fin hj).2,Th _⟩,fun _=>trivial⟩
theorem bG{k:Int}{x:List (List (Int×Int×Int×Int))}(h:CT.wf (.sl (.one (.sl B7))) x):QH (k,x):=by
 exact⟨⟨h.1,fun l hl=>⟨(h.2 l hl).1,fun a _=>by simp[U4]⟩⟩,trivial⟩
structure MapOk (k:Int) (x:List (List (Int×Int×Int×Int))):Prop where
 k1:1≤k
 k2:k≤32
 l1:1≤x.length
 l2:x.length≤4
 row:∀ i:Nat,i<x.length→((x.getD i []).length:Int)=k
 act:∀ i j:Nat,i<x.length→j<(x.getD i []).length→Fb ((x.getD i []).getD j (0,0,0,0))=true∧(i=0→((x.getD i []).getD j (0,0,0,0)).1≠1)∧(((x.getD i []).getD j (0,0,0,0)).1≠9→((x.getD i []).getD j (0,0,0,0)).2.2.2<x.length)
theorem b8{k:Int}{x:List (List (Int×Int×Int×Int))}(hs:Hl (k,x))(h:He (k,x)=true):MapOk k x:=by
 rw[Tx,Br,Ai] at h;obtain⟨h1,h2⟩:=h;simp only[Bs,EK,AE,IW,Aw,Ai,BS,Cv,El,Jk,CV,Bc,BQ,Mq,SP,AB,RW] at h1;rw[Bs,Cv,AE _ (lLen _),Aw,BQ] at h2;have hs:JX x:=hs.1
 have all:=Vz h2 (by show (x.length:Int)≤_;omega) (fun i hi hc=>by
  rw[Br,AE (i:Int),Aw,Ai,Bc] at hc
  have:=hc.1;show i<x.length;simp only at this;omega) (fun i hi=>rfl)
 have row:∀ i:Nat,i<x.length→((x.getD i []).length:Int)=k∧∀ j:Nat,j<(x.getD i []).length→Fb ((x.getD i []).getD j (0,0,0,0))=true∧(i=0→((x.getD i []).getD j (0,0,0,0)).1≠1)∧(((x.getD i []).getD j (0,0,0,0)).1≠9→((x.getD i []).getD j (0,0,0,0)).2.2.2<x.length):=by
  intro i hi;have hc:=all i hi;rw[Br,Br,Ai,Ai] at hc;obtain⟨_,c1,c2⟩:=hc;simp only[Bs,EO,Aw,BA,Bn,Be,Bool.not_not,Bc] at c1;rw[Bs,Cv,AE _ (lLen _),Aw,BQ] at c2;have hli:=(hs.2 _ (Ht x i [] hi)).1
  have hin:(lGet x (iNat (i:Int)) [])=x.getD i []:=by rw[BA,Bn,Be]
  have all2:=Vz c2 (by show ((lGet x (iNat (i:Int)) []).length:Int)≤_;rw[hin];omega) (fun j hj hc=>by
   simp only[Br,AE,Aw,Ai,Bc] at hc
   have:=hc.1;show j<(lGet x (iNat (i:Int)) []).length;omega) (fun j hj=>rfl)
  refine⟨c1,fun j hj=>?_⟩;have hc:=all2 j (by show j<(lGet x (iNat (i:Int)) []).length;rw[hin];exact hj);simp only[hin] at hc;simp only[Br,Bs,EK,DN,HB,EO,I8,Aw,BA,Bn,Be,Ai,Cv,CV,El] at hc;obtain⟨_,d1,d2⟩:=hc;refine⟨d1,fun hz=>?_,fun h9=>?_⟩
  · subst hz;simp only[Int.ofNat_zero,Int.natCast_zero,decide_true,AD,CV,BQ] at d2;exact d2.1
  · split at d2
    · simp only[CV,Jk,BQ,El,Bc] at d2;rcases d2.2 with d2|d2
      · exact absurd d2 h9
      · omega
    · simp only[Jk,BQ,El,Bc] at d2;rcases d2 with d2|d2
      · exact absurd d2 h9
      · omega
 exact⟨by omega,by omega,by omega,by omega,fun i hi=>(row i hi).1,fun i j hi hj=>(row i hi).2 j hj⟩
section
set_option maxRecDepth 20000
theorem Oh {α:Type} {c:List (List UInt8)×Int→Bool} {f:List (List UInt8)×Int→List (List UInt8)×Int} {p:List (List UInt8)×Int→Prop} (l:List α) (d:α) (g:α→List UInt8) (hl:l.length≤1048576)
 (hc:∀ (s:List (List UInt8)) (i:Nat),i≤l.length→c (s,(i:Int))=decide (i<l.length)) (hf:∀ (s:List (List UInt8)) (i:Nat),i<l.length→f (s,(i:Int))=(lApp s [g (l.getD i d)],iAdd .i64 (i:Int) 1))
 (hp:∀ (s:List (List UInt8)) (i:Nat),s.length=i→i≤l.length→p (s,(i:Int))):LoopOk c f p ([],0)∧Ar c f ([],0)=(l.map g,(l.length:Int)):=by
 have:=Hr (c:=c) (f:=f) (p:=p) l.length (fun k=>((l.take k).map g,(k:Int))) (x0:=([],0)) (by simp) (fun k hk=>by
  refine⟨hp _ k (by simp;omega) (by omega),by rw[hc _ k (by omega)];simpa using hk,?_⟩;rw[hf _ k hk,OL,GO (by unfold CZ;omega),← Vg l d hk,Eg]
  rfl) ⟨hp _ _ (by simp) (AF _),by rw[hc _ _ (AF _)];simp⟩
 refine⟨this.1,?_⟩
 rw[this.2,IY]
def EZ(l:List (Int×Int×Int×Int)):List UInt8:=BD (l.map CF) [32]
theorem XT(l:List (Int×Int×Int×Int)):∀ w∈l.map CF,w.length+([32]:List UInt8).length≤21:=fun w hw=>by
 obtain⟨k,_,rfl⟩:=List.mem_map.1 hw
 have:=(Nz k).2.2.2
 simp only[A4,AW];omega
theorem VD(l:List (Int×Int×Int×Int))(h:l.length≤32):(EZ l).length≤700:=by
 have h1:=Oi [32] 21 _ (XT l);rw[A5] at h1;exact Ct h1 (Ct (Nat.mul_le_mul h (AF 21)) (by decide))
theorem Ol(l:List (Int×Int×Int×Int))(h:l.length≤32):(Iq (l.map CF,[32])∧Hc (l.map CF,[32])=EZ l)∧JK (l.map CF,[32])∧It (l.map CF,[32])=EZ l:=by
 have wl:∀ w∈l.map CF,w.length+([32]:List UInt8).length≤100:=fun w hw=>Ct (XT l w hw) (by decide)
 have ln:(l.map CF).length≤32:=by rw[A5];exact h
 refine⟨VL _ [32] (Ct ln (by decide)) wl,?_,?_⟩
 · rw[Tv,P3];exact⟨Ct ln (by decide),Ct (VD l h) (by decide)⟩
 · rw[Tt,P6];rfl
theorem Zn(x:Int×List (List (Int×Int×Int×Int)))(h:Hl x):M9 x∧M7 x∧JE x=JD x:=by
 obtain⟨k,x⟩:=x;obtain⟨s1,s2⟩:=bt (k,x) h;rw[Yk,Yr,Yh,Yq];have hsv:=cR (k,x)
 cases hv:He (k,x) with
 | false=>
   rw[hv] at hsv
   have L1:=Hr (c:=Ih (k,x)) (f:=JB (k,x)) (p:=K0 (k,x)) 0 (fun _=>([],0)) (x0:=([],0)) rfl (fun k h=>by omega) (by
    simp only[Ih,K0,hsv,Br,Bool.and_false]
    exact⟨⟨⟨fun _=>s1,fun _=>trivial⟩,fun h=>(by cases h),fun _=>trivial⟩,trivial⟩)
   obtain⟨j1,j2⟩:=VL [] [32,124,32] (by simp) (by simp);rw[L1.2,Bs];simp only[Bool.not_false,DW,j2];exact⟨⟨L1.1,j1⟩,⟨s2,fun _=>trivial,fun h=>(by cases h)⟩,by first|rfl|trivial⟩
 | true=>
   rw[hv] at hsv;have M:=b8 h hv;have k1:=M.k1;have k2:=M.k2;have l2:=M.l2;have hrow:∀ i:Nat,i<x.length→((x.getD i []).length:Int)=k:=M.row
   have R1:∀ (s:List (List UInt8)) (i:Nat),i<x.length→LoopOk (Ig (k,x)) (Ie (k,x) (s,(i:Int))) (PM (k,x) (s,(i:Int))) ([],0)∧Ar (Ig (k,x)) (Ie (k,x) (s,(i:Int))) ([],0)=((x.getD i []).map CF,((x.getD i []).length:Int)):=fun s i hi=>by
    have hr:=hrow i hi;have gi:lGet x i []=x.getD i []:=BA _ _ _;refine Oh (x.getD i []) (0,0,0,0) CF (by omega) (fun s j hj=>?_) (fun s j hj=>?_) (fun s j hs hj=>?_)
    · simp only[Ig,AE];rw[← hr];simp
    · simp only[Ie,Bn,Be,gi,BA]
    · simp only[PM,Bn,Be,gi,BA,AE,Bc,BQ,A4,AW];exact⟨fun hlt=>⟨⟨by omega,by omega⟩,hi,⟨by omega,by omega⟩,by omega,(Nz _).1,IF (by omega)⟩,fun _=>trivial⟩
   have R2:∀ (s:List (List UInt8)) (i:Nat),i<x.length→LoopOk (Ic (k,x) (s,(i:Int))) (Ii (k,x) (s,(i:Int))) (PL (k,x) (s,(i:Int))) ([],0)∧Ar (Ic (k,x) (s,(i:Int))) (Ii (k,x) (s,(i:Int))) ([],0)=((x.getD i []).map CF,((x.getD i []).length:Int)):=fun s i hi=>by
    have hr:=hrow i hi;have gi:lGet x i []=x.getD i []:=BA _ _ _;refine Oh (x.getD i []) (0,0,0,0) CF (by omega) (fun s j hj=>?_) (fun s j hj=>?_) (fun s j hs hj=>?_)
    · simp only[Ic,AE,Bn,Be,gi,Aw];simp
    · simp only[Ii,Bn,Be,gi,BA,(Nz _).2.2.1]
    · simp only[PL,Bn,Be,gi,BA,AE,Aw,Bc,BQ,A4,AW];exact⟨fun hlt=>⟨⟨by omega,by omega⟩,by omega,(Nz _).2.1,IF (by omega)⟩,fun _=>trivial⟩
   have rl:∀ i:Nat,i<x.length→(x.getD i []).length≤32:=fun i hi=>by have:=hrow i hi;omega
   have L1:=Oh (c:=Ih (k,x)) (f:=JB (k,x)) (p:=K0 (k,x)) x [] EZ (by omega) (fun s i hi=>by
    simp only[Ih,hsv,Br,HS,AE,Aw];simp)
    (fun s i hi=>by simp only[JB,(R1 s i hi).2,(Ol _ (rl i hi)).1.2])
    (fun s i hs hi=>by
     simp only[K0,hsv,Br,HS,AE,Aw,Bc,BQ,A4,AW];refine⟨⟨fun _=>s1,fun _=>trivial⟩,fun hlt=>?_,fun _=>trivial⟩
     have hlt:i<x.length:=by omega
     rw[(R1 s i hlt).2]
     exact⟨(R1 s i hlt).1,(Ol _ (rl i hlt)).1.1,IF (by omega)⟩)
   have L2:=Oh (c:=K4 (k,x)) (f:=K3 (k,x)) (p:=PN (k,x)) x [] EZ (by omega) (fun s i hi=>by
    simp only[K4,AE,Aw];simp)
    (fun s i hi=>by simp only[K3,(R2 s i hi).2,(Ol _ (rl i hi)).2.2])
    (fun s i hs hi=>by
     simp only[PN,AE,Aw,Bn,Be,Bc,BQ,A4,AW];refine⟨fun hlt=>?_,fun _=>trivial⟩
     have hlt:i<x.length:=by omega
     rw[(R2 s i hlt).2]
     exact⟨⟨by omega,by omega⟩,hlt,(R2 s i hlt).1,(Ol _ (rl i hlt)).2.1,IF (by omega)⟩)
   rw[L1.2,L2.2,Bs];simp only[Pe,Da]
   have wl:∀ w∈x.map EZ,w.length+([32,124,32]:List UInt8).length≤1000:=fun w hw=>by
    obtain⟨l,hl,rfl⟩:=List.mem_map.1 hw;obtain⟨i,hi,rfl⟩:=I6 hl;have:=rl i hi;rw[Dx,As hi] at this;have:=VD _ this;simp only[HA] at this;simp only[A4,AW];omega
   have ln:(x.map EZ).length≤4:=by rw[A5];exact l2
   obtain⟨j1,j2⟩:=Vl (x.map EZ) [32,124,32] (Ct ln (by decide)) wl
   have jl:(BD (x.map EZ) [32,124,32]).length≤4000:=
    Ct (Oi [32,124,32] 1000 _ wl) (Nat.mul_le_mul ln (AF _))
   have j3:JK (x.map EZ,[32,124,32]):=by
    rw[Tv,P3];exact⟨Ct ln (by decide),Ct jl (by decide)⟩
   have j4:It (x.map EZ,[32,124,32])=BD (x.map EZ) [32,124,32]:=by rw[Tt,P6]
   rw[j2,j4];exact⟨⟨L1.1,j1⟩,⟨s2,fun h=>(by cases h),fun _=>⟨L2.1,j3⟩⟩,rfl⟩
theorem X8(x:Int×List (List (Int×Int×Int×Int)))(hw:TuX.wf Ex.h x):M5 x∧M6 x=true:=by
 rw[X6,X5];obtain⟨k1,k2⟩:=fP x (bG hw.2) 1048576 (by omega) (by omega);rcases k2 with k2|⟨k2,_,k3⟩
 · have e:iLt (FL (x,1048576)) 0=true:=by rw[AE];simpa using k2
   simp only[e];simp[EK,k1]
 · have e:iLt (FL (x,1048576)) 0=false:=by rw[AE];simpa using k2
   obtain⟨t1,t2⟩:=ed x k3;obtain⟨q1,q2⟩:=eX x x k3;have q2:=q2.2 rfl;obtain⟨r1,r2,r3⟩:=Zn x k3;rw[t2,r3];simp only[e,k1,t1,r1,r2,q1,q2];simp[EK,Br,Bs,Xm]
end
end
end Go.Ag
