/- Part 6 of what FnExactFormatMacro needs. No conditions. -/
import Derived.Test.YtkjnachjeoeihaaDoorLibE
namespace Go.Ag
set_option linter.unusedSimpArgs false
set_option linter.unusedVariables false
noncomputable section
theorem B8(a:Bool):bNot a=!a:=by simp only[Kk]
theorem Bo(a b:Bool):bAnd a b=(a&&b):=by simp only[R6]
theorem ER(a b:Bool):bOr a b=(a||b):=by simp only[Xt]
theorem OJ(a b:Bool):bIff a b=(a == b):=by simp only[WD]
theorem CQ{α:Type}(c:Bool)(x y:α):bSel c x y=if c=true then x else y:=by cases c<;>simp[Fv,Em]
theorem EN(a b:Int):iEq a b=decide (a=b):=by
 rw[Pj];by_cases h:a=b<;>simp[h]
theorem IU(a b:Int):iNe a b=!decide (a=b):=by
 rw[Xi];by_cases h:a=b<;>simp[h]
theorem A3(a b:Int):iLt a b=decide (a<b):=by simp only[Xy]
theorem Fm(a b:Int):iLe a b=decide (a≤b):=by simp only[Xz]
theorem Ks(a b:Int):iGt a b=decide (b<a):=by simp only[Xm]
theorem F3(a b:Int):iGe a b=decide (b≤a):=by simp only[Xj]
theorem jw(a b:List UInt8):sEq a b=(a == b):=by simp only[Xn]
theorem WI(a b:List UInt8):sNe a b=!(a == b):=by simp only[Xu]
section
variable {α:Type}
theorem AY(l:List α):lLen l=(l.length:Int):=by simp only[Sa]
theorem Mv(l:List α):lN l=l.length:=by simp only[MJ]
theorem DQ(l:List α)(j:Nat)(d:α):lGet l j d=l.getD j d:=by simp only[Ko]
theorem RB(l:List α)(j:Nat)(x:α):lSet l j x=l.set j x:=by simp only[Mc]
theorem HC(l:List α)(a b:Nat):lSub l a b=(l.drop a).take (b-a):=by simp only[Sc]
theorem Vv(l:List α)(n:Nat):lTake l n=l.take n:=by simp only[Rr]
theorem FX(l m:List α):lApp l m=l++m:=by simp only[I0]
theorem Wu(n:Int)(x:α):lRep n x=List.replicate n.toNat x:=by simp only[WY]
theorem BQ(a:Int):iNat a=a.toNat:=by simp only[Sn]
theorem IH(a b:List UInt8):sAdd a b=a++b:=by simp only[W2]
end
def CC(n:Int):Prop:=-9223372036854775808≤n∧n≤9223372036854775807
theorem QX{n:Int}(h:CC n):IntKind.i64.wrap n=n:=by
 obtain⟨h1,h2⟩:=h;show (if decide (n % 18446744073709551616≥9223372036854775808)=true then n % 18446744073709551616-18446744073709551616 else n % 18446744073709551616)=n;simp only[Bl];split<;>omega
theorem Cu{a b:Int}(h:CC (a+b)):iAdd .i64 a b=a+b:=by rw[W4];exact QX h
theorem Vu{a b:Int}(h:CC (a-b)):iSub .i64 a b=a-b:=by rw[WZ];exact QX h
theorem fO{a b:Int}(ha:0≤a)(h:CC (a / b)):iQuo .i64 a b=a / b:=by
 rw[WM];rw[Int.tdiv_eq_ediv_of_nonneg ha];exact QX h
theorem iA{a b:Int}(ha:0≤a):iRem a b=a % b:=by rw[Xd];exact Int.tmod_eq_emod_of_nonneg ha
section
variable {X:Type} {c:X→Bool} {f:X→X} {p:X→Prop}
theorem J5(I:X→Prop)(m:X→Nat)(h:∀ x,I x→p x∧(c x=true→I (f x)∧m (f x)<m x)){x0:X}(h0:I x0) :
 LoopOk c f p x0∧I (AZ c f x0)∧c (AZ c f x0)=false:=by
 have go:∀ (n:Nat) (x:X),m x<n→I x→∃ y,LoopTo c f p x y∧I y∧c y=false:=by
  intro n
  induction n with
  |zero=>intro x hm;exact absurd hm (SH _)
  | succ n ih=>
    intro x hm hI;obtain⟨h1,h2⟩:=h x hI
    cases hc:c x with
    |false=>exact⟨x,.stop h1 hc,hI,hc⟩
    | true=>
      obtain⟨h3,h4⟩:=h2 hc;obtain⟨y,h5,h6,h7⟩:=ih (f x) (by omega) h3;exact⟨y,.go h1 hc h5,h6,h7⟩
 obtain⟨y,h1,h2,h3⟩:=go _ x0 (Sm _) h0
 rw[h1.val]
 exact⟨⟨y,h1⟩,h2,h3⟩
theorem UC(I:X→Prop)(m:X→Nat)(h:∀ x,I x→c x=true→I (f x)∧m (f x)<m x){x0:X}(h0:I x0):I (AZ c f x0)∧c (AZ c f x0)=false:=
 (J5 (p:=fun _=>True) I m (fun x hx=>⟨trivial,h x hx⟩) h0).2
theorem GQ(n:Nat)(st:Nat→X){x0:X}(h0:st 0=x0)(hs:∀ k,k<n→p (st k)∧c (st k)=true∧f (st k)=st (k+1))(he:p (st n)∧c (st n)=false):LoopOk c f p x0∧AZ c f x0=st n:=by
 have go:∀ k,k≤n→LoopTo c f p (st (n-k)) (st n):=by
  intro k
  induction k with
  |zero=>intro _;exact .stop he.1 he.2
  | succ k ih=>
    intro hk;obtain⟨h1,h2,h3⟩:=hs (n-(k+1)) (by omega);refine .go h1 h2 ?_;rw[h3,show n-(k+1)+1=n-k by omega];exact ih (by omega)
 have:=go n (AM _);rw[OO,h0] at this;exact⟨⟨_,this⟩,this.val⟩
end
def CG(t:Nat→Bool):Nat→Nat→Nat
 |0,i=>i
 |k+1,i=>if t i then i else CG t k (i+1)
theorem NW(t:Nat→Bool):∀ k i,i≤CG t k i∧CG t k i≤i+k
 |0,i=>⟨AM _,AM _⟩
 | k+1,i=>by
   unfold CG
   split
   · omega
   · have:=NW t k (i+1);omega
theorem NY(t:Nat→Bool):∀ k i,CG t k i<i+k→t (CG t k i)=true
 |0,i,h=>by unfold CG at h;omega
 | k + 1,i,h=>by
   unfold CG at h ⊢
   split
   · rename_i ht;exact ht
   · rename_i ht
     rw[Ad ht] at h
     exact NY t k (i+1) (by omega)
theorem Qp(t:Nat→Bool):∀ k i j,i≤j→j<CG t k i→t j=false
 |0,i,j,h,h'=>by unfold CG at h';omega
 | k + 1,i,j,h,h'=>by
   unfold CG at h'
   split at h'
   · omega
   · rename_i ht
     by_cases hj:j=i
     · subst hj;simpa using ht
     · exact Qp t k (i+1) j (by omega) h'
theorem dz{c:Int→Bool}{f:Int→Int}{p:Int→Prop}(n:Nat)(t:Nat→Bool)(hn:(n:Int)≤9223372036854775806)(hc:∀ i:Nat,i≤n→c i=(decide (i<n)&&!t i))(hf:∀ i:Nat,i<n→f i=iAdd .i64 i 1)(hp:∀ i:Nat,i≤n→p i) :
 LoopOk c f p 0∧AZ c f 0=(CG t n 0:Nat):=by
 have hle:=NW t n 0
 refine GQ (CG t n 0) (fun k=>(k:Int)) rfl (fun k hk=>?_) ⟨hp _ (by omega),?_⟩
 · have hk':k<n:=by omega
   refine⟨hp k (by omega),?_,?_⟩
   · rw[hc k (by omega),Qp t n 0 k (by omega) hk];simp[hk']
   · rw[hf k hk',Cu (by unfold CC;omega)];omega
 · rw[hc _ (by omega)]
   by_cases h:CG t n 0<n
   · rw[NY t n 0 (by omega)];simp
   · simp[h]
theorem cd{t:Nat→Bool}{n:Nat}:CG t n 0=n↔∀ i,i<n→t i=false:=by
 constructor
 · intro h i hi;exact Qp t n 0 i (by omega) (by omega)
 · intro h;have hle:=NW t n 0;rcases A9 (CG t n 0) n with h1|h1
   · have:=NY t n 0 (by omega);rw[h _ h1] at this;cases this
   · omega
section
variable {α:Type}
theorem gK(x:List α)(k:Nat)(hk:k<x.length)(d:α)(l:List α)(hl:l.length=x.length)(h:l.take k=x.take k):(l.set k (x.getD k d)).take (k+1)=x.take (k+1):=by
 rw[Pf,Pf,List.take_set]
 have:(l.take k).set k (x.getD k d)=l.take k:=by
  apply List.set_eq_of_length_le;rw[G0];exact Nat.min_le_left _ _
 rw[this,h];congr 1;rw[List.getElem?_set_self (by omega),Du,Av hk];simp
end
theorem Wp{α:Type}{c:Int→Bool}{f:Int→Int}{p:Int→Prop}(a b:List α)(d:α)(ne:Nat→Bool)(hl:a.length=b.length)(hne:∀ i,i<a.length→(ne i=false↔a.getD i d=b.getD i d))(hn:(a.length:Int)≤9223372036854775806)(hc:∀ i:Nat,i≤a.length→c i=(decide (i<a.length)&&!ne i))(hf:∀ i:Nat,i<a.length→f i=iAdd .i64 i 1)(hp:∀ i:Nat,i≤a.length→p i) :
 LoopOk c f p 0∧(AZ c f 0<(a.length:Int)↔a≠b):=by
 obtain⟨h1,h2⟩:=dz a.length ne hn hc hf hp
 refine⟨h1,?_⟩
 rw[h2]
 have hle:=NW ne a.length 0
 constructor
 · intro h hab
   subst hab;have:=NY ne a.length 0 (by omega);rw[(hne _ (by omega)).2 rfl] at this;cases this
 · intro h
   rcases A9 (CG ne a.length 0) a.length with h3|h3
   · omega
   · exfalso;apply h
     have h4:CG ne a.length 0=a.length:=by omega
     rw[cd] at h4
     refine R4 hl fun i hi hi'=>?_
     have:=(hne i hi).1 (h4 i hi);rw[Du,Du,Av hi,Av hi'] at this;simpa using this
theorem kl{α:Type}{c:Int→Bool}{f:Int→Int}{p:Int→Prop}(a b:List α)(d:α)(ne:Nat→Bool)(hl:a.length=b.length)(hne:∀ i,i<a.length→(ne i=false↔a.getD i d=b.getD i d))(hn:(a.length:Int)≤9223372036854775806)(hc:∀ i:Nat,i≤a.length→c i=(decide (i<a.length)&&!ne i))(hf:∀ i:Nat,i<a.length→f i=iAdd .i64 i 1)(hp:∀ i:Nat,i≤a.length→p i):LoopOk c f p 0:=(Wp a b d ne hl hne hn hc hf hp).1
theorem kR{α:Type}{c:Int→Bool}{f:Int→Int}(a b:List α)(d:α)(ne:Nat→Bool)(hl:a.length=b.length)(hne:∀ i,i<a.length→(ne i=false↔a.getD i d=b.getD i d))(hn:(a.length:Int)≤9223372036854775806)(hc:∀ i:Nat,i≤a.length→c i=(decide (i<a.length)&&!ne i))(hf:∀ i:Nat,i<a.length→f i=iAdd .i64 i 1):AZ c f 0<(a.length:Int)↔a≠b:=(Wp (p:=fun _=>True) a b d ne hl hne hn hc hf (fun _ _=>trivial)).2
theorem Uk {α:Type} {c:List α×Int→Bool} {f:List α×Int→List α×Int} {p:List α×Int→Prop} (x:List α) (z d:α) (hn:x.length≤1048576)
 (hc:∀ st,c st=iLt st.2 (lLen x)) (hf:∀ (l:List α) (i:Nat),i<x.length→f (l,(i:Int))=(l.set i (x.getD i d),iAdd .i64 i 1))
 (hp:∀ (l:List α) (i:Nat),l.length=x.length→i≤x.length→p (l,i)) :
 LoopOk c f p (lRep (lLen x) z,0)∧(AZ c f (lRep (lLen x) z,0)).1=x:=by
 have h:=J5 (c:=c) (f:=f) (p:=p) (fun st=>st.1.length=x.length∧∃ i:Nat,st.2=i∧i≤x.length∧st.1.take i=x.take i) (fun st=>x.length-st.2.toNat) (fun st hI=>?_) (x0:=(lRep (lLen x) z,0)) ⟨by simp[Wu,AY],0,rfl,Fl _,by simp⟩
 · obtain⟨h1,⟨h2,i,h3,h4,h5⟩,h6⟩:=h
   refine⟨h1,?_⟩;rw[hc,h3,A3,AY,DR] at h6
   have:i=x.length:=by omega
   subst this;rw[I1,← h2,I1] at h5;exact h5
 · obtain⟨l,j⟩:=st
   obtain⟨h2,i,h3,h4,h5⟩:=hI;simp only at h2 h3 h5;subst h3;refine⟨hp l i h2 h4,fun hcc=>?_⟩;rw[hc,A3,AY,Bl] at hcc;simp only at hcc
   have hi:i<x.length:=by omega
   rw[hf l i hi];simp only[Cs];rw[Cu (by unfold CC;omega)];refine⟨⟨by simp[h2],i+1,by omega,by omega,gK x i hi d l h2 h5⟩,by omega⟩
theorem gF {α:Type} {c:List α×Int→Bool} {f:List α×Int→List α×Int} {p:List α×Int→Prop} (x:List α) (z d:α) (hn:x.length≤1048576)
 (hc:∀ st,c st=iLt st.2 (lLen x)) (hf:∀ (l:List α) (i:Nat),i<x.length→f (l,(i:Int))=(l.set i (x.getD i d),iAdd .i64 i 1))
 (hp:∀ (l:List α) (i:Nat),l.length=x.length→i≤x.length→p (l,i)):LoopOk c f p (lRep (lLen x) z,0):=(Uk x z d hn hc hf hp).1
theorem iQ {α:Type} {c:List α×Int→Bool} {f:List α×Int→List α×Int} (x:List α) (z d:α) (hn:x.length≤1048576)
 (hc:∀ st,c st=iLt st.2 (lLen x)) (hf:∀ (l:List α) (i:Nat),i<x.length→f (l,(i:Int))=(l.set i (x.getD i d),iAdd .i64 i 1)):(AZ c f (lRep (lLen x) z,0)).1=x:=(Uk (p:=fun _=>True) x z d hn hc hf (fun _ _ _ _=>trivial)).2
theorem Q3{α:Type}(x:List α)(i:Nat)(d:α)(h:i<x.length):x.getD i d∈x:=by
 rw[Du,Av h];exact C9 h
theorem fS{n:Int}{w:Nat}(h0:0≤n)(h:n≤1048576)(hw:w≤1000):AP (n.toNat*w):=by
 show n.toNat*w≤2^40
 have h1:n.toNat≤1048576:=by omega
 have:=Nat.mul_le_mul h1 hw;omega
theorem WK{X:Type}{c:X→Bool}{f:X→X}{p:X→Prop}(ix:X→Int)(n:Int)(hn:n≤9223372036854775806)(hc:∀ x,0≤ix x→ix x≤n→c x=true→ix x<n)(hf:∀ x,ix (f x)=iAdd .i64 (ix x) 1)(hp:∀ x,0≤ix x→ix x≤n→p x){x0:X}(h0:0≤ix x0)(h1:ix x0≤n):LoopOk c f p x0:=by
 refine(J5 (fun x=>0≤ix x∧ix x≤n) (fun x=>(n-ix x).toNat) (fun x hI=>⟨hp x hI.1 hI.2,fun hcc=>?_⟩) ⟨h0,h1⟩).1;have:=hc x hI.1 hI.2 hcc;obtain⟨k1,k2⟩:=hI;have e:=hf x;rw[Cu (by unfold CC;omega)] at e;refine⟨by omega,by omega⟩
theorem NL(x:Int×Int×Int×Int):D6 x=EF x:=by
 simp only[Ts,YH,Ip,ZU,Z1,Zr,B8,Bo,ER,OJ,CQ,EN,IU,A3,Fm,Ks,F3,jw,WI,AY,Mv,DQ,RB,HC,Vv,FX,Wu,BQ,IH];rw[Bool.eq_iff_iff]
 repeat' split
 all_goals simp only[Ah,B1,C8,Jh,SJ,El,Bl,DR,SL,Bool.not_eq_false,AA,beq_eq_false_iff_ne] at *
 all_goals omega
theorem Tg(x:Int×Int×Int×Int):JC x:=by
 have h:∀ y,FO y:=fun y=>by rw[Lh];trivial
 rw[YO];simp[h]
theorem Tf(x:Int×Int×Int×Int):JD x:=by
 have h1:∀ y,JL y:=fun y=>by rw[ZP];trivial
 have h2:∀ y,Im y:=fun y=>by rw[az];trivial
 have h3:∀ y,La y:=fun y=>by rw[Y7];trivial
 rw[YJ];simp[h1,h2,h3]
theorem iH(a b c:Int):BA (a,b,c)=(decide (b≤a)&&decide (a≤c)):=by rw[Ip];simp only[Bo,F3,Fm]
theorem Qv{α:Type}(x:List α)(d:α){i:Nat}(h:i<x.length):x.take i++[x.getD i d]=x.take (i+1):=by
 rw[Pf,Du,Av h];rfl
theorem iv{n:Int}(h0:0≤n)(h1:n<256):IntKind.u8.wrap n=n:=by
 simp only[IntKind.wrap,IntKind.bits,IntKind.signed,KA,Aw,AK];omega
theorem ic{n:Int}(h0:0≤n)(h1:n<256):iConv .u8 n=n:=by rw[V6];exact iv h0 h1
def Bytes(x:List Int):Prop:=∀ a∈x,0≤a∧a<256
theorem Bytes.get{x:List Int}(h:Bytes x)(i:Nat):∃ n:Nat,n<256∧x.getD i 0=(n:Int):=by
 by_cases hi:i<x.length
 · obtain⟨h0,h1⟩:=h _ (Q3 x i 0 hi);exact⟨(x.getD i 0).toNat,by omega,by omega⟩
 · exact⟨0,by omega,by rw[Du,A0 (by omega)];rfl⟩
theorem Bytes.of{x:List Int}(h:CT.wf (.sl (.one (.int .u8))) x):Bytes x:=by
 intro a ha;have:=h.2 a ha;simp only[RT.wf,CT.wf] at this
 have h:IntKind.u8.min≤a∧a≤IntKind.u8.max:=by simpa [Lit.wf] using this
 have e1:IntKind.u8.min=0:=by decide
 have e2:IntKind.u8.max=255:=by decide
 rw[e1,e2] at h;omega
def RepOk(x:Int×List Int):Prop:=(0≤x.1∧x.1≤15)∧∀ i,i<x.2.length→(1≤x.2.getD i 0∧x.2.getD i 0≤56)∧(0<i→x.2.getD (i-1) 0<x.2.getD i 0)
theorem RepOk.code{x:Int×List Int}(h:RepOk x)(i:Nat)(hi:i<x.2.length):(i:Int)+1≤x.2.getD i 0:=by
 induction i with
 |zero=>have:=(h.2 0 hi).1;omega
 | succ i ih=>
   have h1:=ih (by omega);have h2:=(h.2 (i+1) hi).2 (by omega);rw[Nat.add_sub_cancel] at h2;omega
theorem RepOk.len{x:Int×List Int}(h:RepOk x):x.2.length≤56:=by
 rcases A9 56 x.2.length with h1|h1
 · have h2:=h.code 56 h1;have h3:=(h.2 56 h1).1;omega
 · exact h1
section
set_option maxRecDepth 20000
theorem LJ{n:Nat}(h:n≤1048577000):AP n:=by unfold AP;exact DX h (by decide)
theorem iL(s:List UInt8)(j:Int):sGet s j=((s.getD j.toNat 0).toNat:Int):=by simp only[WN]
theorem IE(s:List UInt8):sRow s=s.map fun b=>((b.toNat:Nat):Int):=by simp only[WE]
theorem VX(l:List Int):rowS l=l.map fun n=>UInt8.ofNat n.toNat:=by simp only[WG]
theorem dP(s:List UInt8):rowS (sRow s)=s:=by
 rw[IE,VX,List.map_map]
 conv=>rhs;rw[← List.map_id s]
 apply List.map_congr_left;intro b _;simp
theorem Vj(a b:List UInt8):sRow (a++b)=sRow a++sRow b:=by rw[IE,IE,IE,DU]
theorem Vq(a:List UInt8):(sRow a).length=a.length:=by rw[IE,Az]
def Ej:List UInt8→Int→List (List UInt8)
 |[],_=>[[]]
 |b::r,c=>if (b.toNat:Int)=c then []::Ej r c else match Ej r c with|[]=>[[b]]|w::ws=>(b::w)::ws
theorem Ub:∀ (s:List UInt8) (c:Int),(∀ b∈s,(b.toNat:Int)≠c)→Ej s c=[s]
 |[],_,_=>rfl
 | b::r,c,h=>by
   have e:=Ub r c (fun x hx=>h x (by simp[hx]))
   simp[Ej,h b (by simp),e]
theorem UP:∀ (a:List UInt8) (b:UInt8) (r:List UInt8) (c:Int),(∀ x∈a,(x.toNat:Int)≠c)→(b.toNat:Int)=c→Ej (a++b::r) c=a::Ej r c
 |[],b,r,c,_,h=>by simp[Ej,h]
 | x::a,b,r,c,ha,h=>by
   have e:=UP a b r c (fun y hy=>ha y (by simp[hy])) h
   simp[Ej,ha x (by simp),e]
theorem cx{s:List UInt8}{F I:Nat}(h:F≤I)(hI:I<s.length):s.drop F=(s.drop F).take (I-F)++s.getD I 0::s.drop (I+1):=by
 rw[Du,Av hI,ID]
 conv=>lhs;rw[← List.take_append_drop (I-F) (s.drop F)]
 rw[List.drop_drop,show F+(I-F)=I by omega,OM hI]
theorem dU(s:List UInt8)(c:Int)(h:s.length≤1048576):Nb (s,c)∧Nh (s,c)=Ej s c:=by
 rw[Ym,Yz]
 have key:=J5 (c:=KY (s,c)) (f:=M6 (s,c)) (p:=PF (s,c))
  (fun st=>∃ (out:List (List UInt8)) (F I:Nat),st=(out,(F:Int),(I:Int))∧out.length≤I∧((F≤I∧I≤s.length∧(∀ b∈(s.drop F).take (I-F),(b.toNat:Int)≠c)∧Ej s c=out++Ej (s.drop F) c)∨(I=s.length+1∧Ej s c=out)))
  (fun st=>s.length+1-st.2.2.toNat) (fun st hI=>?_) (x0:=([],0,0)) ⟨[],0,0,rfl,by simp,.inl ⟨AM _,Fl _,by simp,rfl⟩⟩
 · obtain⟨k1,⟨out,F,I,e,_,hh⟩,k2⟩:=key;refine⟨k1,?_⟩;rw[e] at k2 ⊢;simp only[KY,Fm,AY,DR] at k2;rcases hh with⟨_,h1,_⟩|⟨_,h1⟩
   · omega
   · exact h1.symm
 · obtain⟨out,F,I,rfl,hl,hh⟩:=hI;simp only[KY,M6,PF,Fm,EN,AY,BQ,Cs,HC,FX,iL,ER,CQ,Bl,DR,A6,AV]
   have ha:iAdd .i64 (I:Int) 1=((I+1:Nat):Int):=by
    rw[Cu (by unfold CC;rcases hh with⟨_,h1,_⟩|⟨h1,_⟩<;>omega)];rfl
   rw[ha];rcases hh with⟨hFI,hIl,hfree,hs⟩|⟨hI1,hs⟩
   · refine⟨⟨fun _=>⟨⟨fun _=>trivial,fun hne=>⟨by omega,by omega⟩⟩,fun _=>⟨⟨⟨by omega,by omega⟩,by omega,by omega⟩,LJ (by omega)⟩,fun _=>trivial⟩,fun _=>trivial⟩,fun _=>?_⟩;by_cases hlt:I<s.length
     · have hne:decide ((I:Int)=(s.length:Int))=false:=GU (by omega);rw[hne,Bool.false_or];by_cases hc:((s.getD I 0).toNat:Int)=c
       · simp only[hc,decide_true,AB];refine⟨⟨_,I+1,I+1,rfl,by simp;omega,.inl ⟨AM _,by omega,by simp,?_⟩⟩,by simp only[Cs];omega⟩;rw[hs]
         conv=>lhs;rw[cx hFI hlt,UP _ _ _ _ hfree hc]
         simp
       · simp only[hc,decide_false,Aw,AK];refine⟨⟨_,F,I+1,rfl,by omega,.inl ⟨by omega,by omega,fun b hb=>?_,hs⟩⟩,by simp only[Cs];omega⟩
         have e:(s.drop F).take (I+1-F)=(s.drop F).take (I-F)++[s.getD I 0]:=by
          rw[show I+1-F=(I-F)+1 by omega,Pf,I7,show F+(I-F)=I by omega,Av hlt,Du,Av hlt];rfl
         rw[e,Da,List.mem_singleton] at hb;rcases hb with hb|rfl
         · exact hfree b hb
         · exact hc
     · have e:I=s.length:=by omega
       subst e;simp only[decide_true,Bool.true_or,AB];refine⟨⟨_,s.length+1,s.length+1,rfl,by simp;omega,.inr ⟨rfl,?_⟩⟩,by simp only[Cs];omega⟩;have e2:(s.drop F).take (s.length-F)=s.drop F:=OW (by rw[L7];exact AM _);rw[e2] at hfree ⊢;rw[hs,Ub _ _ hfree]
   · subst hI1;refine⟨⟨fun hh=>by omega,fun _=>trivial⟩,fun hh=>by omega⟩
theorem bE:Ej B7 32=BO:=by decide
theorem cI:Nu PUnit.unit∧JK PUnit.unit=BO:=by
 rw[ZF,ZE];have:=dU B7 32 (by decide);rw[bE] at this;exact this
theorem bg(k:Int):Il k∧Ik k∧FL k=E8 k∧(E8 k).length≤5:=by
 obtain⟨n1,n2⟩:=cI;have hl:BO.length=56:=rfl
 have hw:∀ w∈BO,w.length≤5:=by decide
 rw[YN,YF,YY,YT,n2,YI,YL];simp only[Lh,Ip,B8,Bo,ER,CQ,F3,Fm,A3,Ks,DQ,BQ,hl];by_cases h:1≤k∧k≤56
 · have e:iSub .i64 k 1=k-1:=Vu (by unfold CC;omega);rw[e];have d1:decide (1≤k)=true:=HD h.1;have d2:decide (k≤56)=true:=HD h.2;have d3:decide (k<1)=false:=GU (by omega);have d4:decide (56<k)=false:=GU (by omega);simp only[d1,d2,d3,d4];refine⟨⟨trivial,fun h=>(by cases h),fun _=>⟨n1,⟨by omega,by omega⟩,by omega⟩⟩,⟨fun h=>(by cases h),fun _=>⟨⟨⟨by first|rfl|trivial,by first|rfl|trivial⟩,trivial⟩,⟨by omega,by omega⟩,by omega⟩⟩,rfl,?_⟩;show (BO.getD (k-1).toNat []).length≤5;rw[Du,Av (show (k-1).toNat<BO.length by omega)];exact hw _ (C9 _)
 · have d:(decide (1≤k)&&decide (k≤56))=false:=by
    rw[SJ,DR,DR];omega
   have d':(decide (k<1)||decide (56<k))=true:=by
    rw[B1,Bl,Bl];omega
   simp only[d,d'];exact⟨⟨trivial,fun _=>trivial,fun h=>(by cases h)⟩,⟨fun _=>trivial,fun h=>(by cases h)⟩,rfl,by simp⟩
def kX(m:Int)(k:Nat):Bool:=iEq (iAnd .i64 (iShr .i64 m (k:Int)) 1) 1
def fm(m:Int):Nat→List UInt8
 |0=>[]
 |k+1=>if kX m k then fm m k++[([67,83,65,71]:List UInt8).getD k 0] else fm m k
theorem Mf(m:Int):∀ k,(fm m k).length≤k
 |0=>AM _
 | k+1=>by
   unfold fm
   split
   · simp;exact Mf m k
   · exact Nat.le_succ_of_le (Mf m k)
theorem fJ(m:Int):Ig m∧Ih m∧EE m=Dk m∧(Dk m=fm m 4∨Dk m=[]):=by
 rw[Yg,Yl,Yk,Yh];by_cases h:1≤m∧m≤15
 · have d1:BA (m,1,15)=true:=by simp only[Ip,Bo,F3,Fm];simp[h.1,h.2]
   have d2:bOr (iLt m 1) (iGt m 15)=false:=by simp only[ER,A3,Ks,El,DR];omega
   have hk:∀ k:Nat,k<4→k=0∨k=1∨k=2∨k=3:=fun k hk=>by omega
   have ad:∀ k:Nat,k<4→iAdd .i64 (k:Int) 1=((k+1:Nat):Int):=fun k hk=>by rw[Cu (by unfold CC;omega)];rfl
   have sub:∀ k:Nat,k<4→lSub ([67,83,65,71]:List UInt8) k (k+1)=[([67,83,65,71]:List UInt8).getD k 0]:=fun k h4=>by
    rw[HC];rcases hk k h4 with rfl|rfl|rfl|rfl<;>rfl
   have gt:∀ k:Nat,k<4→lGet ([[67],[83],[65],[71]]:List (List UInt8)) k []=[([67,83,65,71]:List UInt8).getD k 0]:=fun k h4=>by
    rw[DQ];rcases hk k h4 with rfl|rfl|rfl|rfl<;>rfl
   have L1:=GQ (c:=Ic m) (f:=KW m) (p:=Jx m) 4 (fun k=>(fm m k,(k:Int))) (x0:=([],0)) rfl (fun k h4=>by
    have i4:iLt (k:Int) 4=true:=by rw[A3];exact HD (by omega)
    have len:=Mf m k;simp only[Ic,KW,Jx,d1,i4,ad k h4,sub k h4,Bo,BM,Lh,BQ,Cs,A6,AV];refine⟨⟨⟨fun _=>trivial,fun h=>(by cases h)⟩,fun _=>⟨by omega,fun _=>⟨⟨⟨by omega,by omega⟩,by omega,by omega⟩,by omega⟩,fun _=>trivial⟩,fun h=>(by cases h)⟩,trivial,?_⟩;rw[fm,CQ,IH]
    rfl) (by
    have i4:iLt ((4:Nat):Int) 4=false:=by rw[A3];rfl
    simp only[Ic,Jx,i4,Bo,KA]
    exact⟨⟨⟨fun h=>(by cases h),fun _=>trivial⟩,fun h=>(by cases h),fun _=>trivial⟩,trivial⟩)
   have L2:=GQ (c:=KX) (f:=M3 m) (p:=MZ m) 4 (fun k=>(fm m k,(k:Int))) (x0:=([],0)) rfl (fun k h4=>by
    have i4:iLt (k:Int) (lLen ([[67],[83],[65],[71]]:List (List UInt8)))=true:=by rw[A3,AY];exact HD (by simp;omega)
    have len:=Mf m k;simp only[KX,M3,MZ,i4,ad k h4,gt k h4,bU,bO,BQ,Cs,A6,AV];refine⟨⟨fun _=>⟨⟨by omega,by omega⟩,by omega,by omega,fun _=>by omega,fun _=>trivial⟩,fun h=>(by cases h)⟩,trivial,?_⟩;rw[fm,CQ,IH]
    rfl) (by
    have i4:iLt ((4:Nat):Int) (lLen ([[67],[83],[65],[71]]:List (List UInt8)))=false:=by rw[A3,AY];rfl
    simp only[KX,MZ,i4]
    exact⟨⟨fun h=>(by cases h),fun _=>trivial⟩,trivial⟩)
   rw[L1.2,L2.2,d2];exact⟨L1.1,⟨fun h=>(by cases h),fun _=>L2.1⟩,by rw[CQ];rfl,.inl rfl⟩
 · have d1:BA (m,1,15)=false:=by
    simp only[Ip,Bo,F3,Fm,SJ,DR];omega
   have d2:bOr (iLt m 1) (iGt m 15)=true:=by simp only[ER,A3,Ks,B1,Bl];omega
   have L1:=GQ (c:=Ic m) (f:=KW m) (p:=Jx m) 0 (fun _=>([],0)) (x0:=([],0)) rfl (fun k h=>by omega) (by
    simp only[Ic,Jx,d1,Bo,Bool.and_false,Lh]
    exact⟨⟨⟨fun _=>trivial,fun _=>trivial⟩,fun h=>(by cases h),fun _=>trivial⟩,trivial⟩)
   rw[L1.2,d2];exact⟨L1.1,⟨fun _=>trivial,fun h=>(by cases h)⟩,by rw[CQ];rfl,.inr rfl⟩
theorem gG(m:Int):Ig m∧Ih m∧EE m=Dk m∧(Dk m).length≤4:=by
 obtain⟨a,b,c,d⟩:=fJ m;refine⟨a,b,c,?_⟩;rcases d with d|d<;>rw[d]
 · exact Mf m 4
 · simp
theorem U2(sep x:List UInt8):∀ (l:List (List UInt8)),BH (l++[x]) sep=if l=[] then x else BH l sep++sep++x
 |[]=>by simp[BH,List.intercalate]
 |[a]=>by simp[BH,List.intercalate]
 | a::b::r=>by
   have:=U2 sep x (b::r)
   simp only[BH,List.intercalate,B0,List.intersperse,EP,reduceCtorEq,AK] at this ⊢
   rw[this]
   simp
theorem Q6(sep:List UInt8)(W:Nat):∀ (l:List (List UInt8)),(∀ w∈l,w.length+sep.length≤W)→(BH l sep).length≤l.length*W
 |[],_=>by simp[BH,List.intercalate]
 | [a],h=>by
   have:=h a (by simp)
   simp[BH,List.intercalate];omega
 | a::b::r,h=>by
   have i:=Q6 sep W (b::r) (fun w hw=>h w (by simp[hw]))
   have:=h a (by simp)
   simp only[BH,List.intercalate,List.intersperse,EP,Cy,A6] at i ⊢
   rw[Cr (r.length+1) 1 W]
   omega
theorem dW(xs:List (List UInt8))(sep:List UInt8)(hl:xs.length≤1048576)(hw:∀ w∈xs,w.length+sep.length≤1000):K4 (xs,sep)∧K9 (xs,sep)=BH xs sep:=by
 rw[YR,YZ]
 have tl:∀ k,(BH (xs.take k) sep).length≤1048576000:=fun k=>by
  have h1:=Q6 sep 1000 (xs.take k) (fun w hw'=>hw w (IY hw'))
  have h2:(xs.take k).length≤1048576:=by rw[G0];omega
  exact DX h1 (Nat.mul_le_mul h2 (AM _))
 have L:=GQ (c:=KZ (xs,sep)) (f:=M9 (xs,sep)) (p:=Na (xs,sep)) xs.length (fun k=>(sRow (BH (xs.take k) sep),(k:Int))) (x0:=([],0)) (by simp[BH,List.intercalate,IE]) (fun k hk=>by
  have i1:iLt (k:Int) (lLen xs)=true:=by rw[A3,AY];exact HD (by omega)
  have ad:iAdd .i64 (k:Int) 1=((k+1:Nat):Int):=by rw[Cu (by unfold CC;omega)];rfl
  have gk:lGet xs k []=xs.getD k []:=DQ _ _ _
  have hwk:(xs.getD k []).length+sep.length≤1000:=by
   rw[Du,Av hk];exact hw _ (C9 _)
  have tk:=tl k
  have sn:BH (xs.take (k+1)) sep=if xs.take k=[] then xs.getD k [] else BH (xs.take k) sep++sep++xs.getD k []:=by
   rw[← Qv xs [] hk,U2]
  simp only[KZ,M9,Na,i1,ad,gk,FX,BQ,Cs,Vq,Cy];refine⟨⟨fun _=>⟨⟨fun _=>LJ (by omega),fun _=>trivial⟩,⟨by omega,by omega⟩,hk,?_⟩,fun h=>(by cases h)⟩,trivial,?_⟩
  · refine LJ ?_;rw[CQ];split<;>simp only[Cy,Vq]<;>omega
  · rw[sn,CQ,Ks];rcases Ku k with rfl|h0
    · simp[IE,BH,List.intercalate]
    · have h1:xs.take k≠[]:=fun e=>by
       have:=congrArg List.length e;rw[G0,AV] at this;omega
      have h2:decide ((0:Int)<(k:Int))=true:=HD (by omega)
      rw[Ad h1,h2,Ab rfl,Vj,Vj]) (by
  have i1:iLt (xs.length:Int) (lLen xs)=false:=by rw[A3,AY];exact GU (by omega)
  simp only[KZ,Na,i1]
  exact⟨⟨fun h=>(by cases h),fun _=>trivial⟩,trivial⟩)
 rw[L.2,I1,dP];exact⟨L.1,rfl⟩
theorem VU(xs:List (List UInt8))(sep:List UInt8)(hl:xs.length≤1048576)(hw:∀ w∈xs,w.length+sep.length≤100):K4 (xs,sep)∧K9 (xs,sep)=BH xs sep:=dW xs sep hl fun w h=>DX (hw w h) (by decide)
end
section
set_option maxRecDepth 20000
theorem eX(n:Nat)(h:n<10):Lib.decDigits n=[UInt8.ofNat (48+n)]:=by
 unfold Lib.decDigits;rw[dif_pos h]
theorem aM(n:Int)(h0:0≤n)(h1:n≤3):Gs n∧Ii n∧FK n=CO n∧(CO n).length≤1:=by
 obtain⟨k,rfl⟩:∃ k:Nat,n=k:=⟨n.toNat,by omega⟩
 have hk:k=0∨k=1∨k=2∨k=3:=by omega
 have ei:FK (k:Int)=[UInt8.ofNat (48+k)]:=by
  rw[Yy,TC,Cs,eX k (by omega)]
 have oi:Ii (k:Int):=by rw[Yq,Tt];omega
 rw[ei]
 have hne:iNe (0:Int) 0=false:=by rw[IU];rfl
 rw[Yp,Yr];rcases Ku k with rfl|hp
 · have e:iEq ((0:Nat):Int) 0=true:=by rw[EN];rfl
   rw[e,Fv];exact⟨⟨fun _=>trivial,fun h=>(by cases h)⟩,oi,rfl,by simp⟩
 · have e:iEq (k:Int) 0=false:=by rw[EN];exact GU (by omega)
   have e2:iLt (k:Int) 0=false:=by rw[A3];exact GU (by omega)
   have e3:iNe (k:Int) 0=true:=by rw[IU];simp;omega
   have hr:iRem (k:Int) 10=(k:Int):=by rw[iA (by omega)];omega
   have hq:iQuo .i64 (k:Int) 10=0:=by rw[fO (by omega) (by unfold CC;omega)];omega
   have hd:rowS [iConv .u8 (iAdd .i64 48 (bSel (iLt (iRem (k:Int) 10) 0) (iNeg .i64 (iRem (k:Int) 10)) (iRem (k:Int) 10)))]=[UInt8.ofNat (48+k)]:=by
    rw[hr,e2,Em,Cu (by unfold CC;omega),ic (by omega) (by omega),VX]
    have:((48:Int)+(k:Int)).toNat=48+k:=by omega
    simp[this]
   have L:=GQ (c:=Ie) (f:=Jz) (p:=M8) 1 (fun j=>if j=0 then ([],(k:Int)) else ([UInt8.ofNat (48+k)],0)) (x0:=([],(k:Int))) rfl (fun j hj=>by
    have:j=0:=by omega
    subst this;simp only[Ie,Jz,M8,hd,hq,e3,IH,AB]
    exact⟨⟨fun _=>⟨by decide,by simp,by decide⟩,fun h=>(by cases h)⟩,trivial,rfl⟩) (by
    simp only[Ie,M8,Ad (show ¬ (1:Nat)=0 by decide),hne]
    exact⟨⟨fun h=>(by cases h),fun _=>trivial⟩,trivial⟩)
   rw[e,e2,Em,Em,L.2];exact⟨⟨fun h=>(by cases h),fun _=>⟨L.1,fun h=>(by cases h),fun _=>trivial⟩⟩,oi,rfl,by simp⟩
theorem eU(k c m n:Int)(h:D6 (k,c,m,n)=true):(0≤k∧k≤10)∧(k=3∨k=4∨k=5∨k=7∨k=9→0≤n∧n≤3):=by
 rw[Ts] at h;simp only[Ip,CQ,ER,Bo,EN,F3,Fm] at h;by_cases h0:k=0∨k=1∨k=10
 · omega
 · by_cases h2:k=2
   · omega
   · by_cases h3:k=3∨k=4
     · rcases h3 with rfl|rfl<;>simp at h<;>omega
     · by_cases h5:k=5∨k=9
       · rcases h5 with rfl|rfl<;>simp at h<;>omega
       · by_cases h6:k=6
         · omega
         · by_cases h7:k=7
           · subst h7;simp at h;omega
           · by_cases h8:k=8
             · omega
             · have a0:(k=0)=False:=eq_false (by omega);have a1:(k=1)=False:=eq_false (by omega);have a2:(k=10)=False:=eq_false (by omega);have a3:(k=3)=False:=eq_false (by omega);have a4:(k=4)=False:=eq_false (by omega);have a5:(k=5)=False:=eq_false (by omega);have a9:(k=9)=False:=eq_false (by omega);simp[a0,a1,a2,a3,a4,a5,a9,h2,h6,h7,h8] at h
theorem PN(x:Int×Int×Int×Int):M1 x∧M4 x∧Jy x=Hl x∧(Hl x).length≤20:=by
 obtain⟨k,c,m,n⟩:=x;obtain⟨c1,c2,c3,c4⟩:=bg c;obtain⟨m1,m2,m3,m4⟩:=gG m;have a1:JC (k,c,m,n):=Tg _;have a2:JD (k,c,m,n):=Tf _;rw[XW,XU,XP,XV,← NL]
 cases hv:D6 (k,c,m,n) with
 | false=>
   rw[B8];simp only[Bool.not_false,Fv];exact⟨⟨a1,fun _=>trivial,fun h=>(by cases h)⟩,⟨a2,fun _=>trivial,fun h=>(by cases h)⟩,by first|rfl|trivial,by simp⟩
 | true=>
   obtain⟨hk,hn⟩:=eU k c m n hv
   have hn:k=3∨k=4∨k=5∨k=7∨k=9→Gs n∧Ii n∧FK n=CO n∧(CO n).length≤1:=fun h=>aM n (hn h).1 (hn h).2
   simp only[B8,OL,Em,EN,IU,CQ,IH,c3,m3,ZR,ae,a1,a2];rcases (show k=0∨k=1∨k=2∨k=3∨k=4∨k=5∨k=6∨k=7∨k=8∨k=9∨k=10 by omega) with rfl|rfl|rfl|rfl|rfl|rfl|rfl|rfl|rfl|rfl|rfl
   · simp
   · simp
   · by_cases h0:m=0
     · subst h0;simp[c1,c2,c4];omega
     · simp[h0,c1,c2,m1,m2];omega
   · obtain⟨i1,i2,i3,i4⟩:=hn (by omega);simp[i1,i2,i3];omega
   · obtain⟨i1,i2,i3,i4⟩:=hn (by omega);simp[i1,i2,i3];omega
   · obtain⟨i1,i2,i3,i4⟩:=hn (by omega);simp[i1,i2,i3];omega
   · simp[c1,c2,m1,m2];omega
   · obtain⟨i1,i2,i3,i4⟩:=hn (by omega);simp[i1,i2,i3,c1,c2];omega
   · simp[m1,m2];omega
   · obtain⟨i1,i2,i3,i4⟩:=hn (by omega);simp[i1,i2,i3];omega
   · simp
end
def OD(_:Int×Int×Int):Prop:=True
def VZ(_:Int×Int×Int):Prop:=True
def QV(x:List (Int×Int×Int)):Prop:=x.length≤1048576∧∀ a∈x,OD a
def VS(x:List (Int×Int×Int)):Prop:=x.length≤9223372036854775807∧∀ a∈x,VZ a
theorem fZ(x:List (Int×Int×Int))(hw:VS x)(l:Int)(h0:0≤l)(h1:l≤1048576):Np (x,l)∧(FM (x,l)<0∨(0≤FM (x,l)∧FM (x,l)≤l∧QV x)):=by
 rw[ZD,Zf];have hl:x.length≤9223372036854775807:=hw.1
 have hs:iSub .i64 l (lLen x)=l-x.length:=by rw[AY];exact Vu (by unfold CC;omega)
 refine⟨trivial,?_⟩;simp only[hs,A3,CQ,Bl];split
 · left;omega
 · right;exact⟨by omega,by omega,⟨by omega,fun a _=>by simp[OD]⟩⟩
theorem h9(x:Int×Int×Int)(h:OD x):Lf x∧FN x=x:=by
 rw[ZS,ZQ];exact⟨trivial,rfl⟩
theorem fH(x:List (Int×Int×Int))(h:QV x):JH x∧Dq x=x:=by
 rw[Ze,Zv];obtain⟨h1,h2⟩:=h
 have hY:∀ i:Nat,i<x.length→Lf ((x.getD i (0,0,0)).1,(x.getD i (0,0,0)).2.1,(x.getD i (0,0,0)).2.2)∧FN ((x.getD i (0,0,0)).1,(x.getD i (0,0,0)).2.1,(x.getD i (0,0,0)).2.2)=x.getD i (0,0,0):=fun i hi=>h9 _ (h2 _ (Q3 x i (0,0,0) hi))
 refine⟨⟨⟨by rw[AY];omega,fS (by rw[AY];omega) (by rw[AY];omega) (by omega)⟩,gF x (0,0,0) (0,0,0) h1 (fun _=>rfl) (fun l i hi=>by simp only[RB,DQ,BQ,Cs];rw[(hY i hi).2]) (fun l i hl hi=>?_)⟩,iQ x (0,0,0) (0,0,0) h1 (fun _=>rfl) (fun l i hi=>by simp only[RB,DQ,BQ,Cs];rw[(hY i hi).2])⟩;simp only[A3,AY,BQ,DQ,Bl,Cs];exact⟨fun hh=>⟨by omega,by omega,(hY i (by omega)).1,by omega,by omega⟩,fun _=>trivial⟩
theorem iJ(a b:Int×Int×Int)(h:OD a):Lb (a,b)∧(GG (a,b)=true↔a=b):=by
 obtain⟨a0,a1,a2⟩:=a;obtain⟨b0,b1,b2⟩:=b;rw[aa,Z0];refine⟨by simp,?_⟩;simp only[B8,Bo,OJ,IU,Ah,Bool.not_not,Bl,Ak,AA]
 try (constructor<;>intro h<;>simp_all)
theorem gz(a b:List (Int×Int×Int))(h:QV a):Nt (a,b)∧(Nw (a,b)=true↔a=b):=by
 rw[Zh,Zl];obtain⟨h1,h2⟩:=h
 have hY:∀ i:Nat,i<a.length→Lb (((lGet a i (0,0,0)).1,(lGet a i (0,0,0)).2.1,(lGet a i (0,0,0)).2.2),((lGet b i (0,0,0)).1,(lGet b i (0,0,0)).2.1,(lGet b i (0,0,0)).2.2))∧(GG (((lGet a i (0,0,0)).1,(lGet a i (0,0,0)).2.1,(lGet a i (0,0,0)).2.2),((lGet b i (0,0,0)).1,(lGet b i (0,0,0)).2.1,(lGet b i (0,0,0)).2.2))=true↔a.getD i (0,0,0)=b.getD i (0,0,0)):=fun i hi=>by
  have:=iJ (a.getD i (0,0,0)) (b.getD i (0,0,0)) (h2 _ (Q3 a i (0,0,0) hi));rw[DQ,DQ];exact this
 by_cases hl:a.length=b.length
 · refine⟨⟨fun _=>trivial,fun _=>kl a b (0,0,0) (fun i=>bNot (GG (((lGet a i (0,0,0)).1,(lGet a i (0,0,0)).2.1,(lGet a i (0,0,0)).2.2),((lGet b i (0,0,0)).1,(lGet b i (0,0,0)).2.1,(lGet b i (0,0,0)).2.2)))) hl (fun i hi=>by simp only[B8,Jh,(hY i hi).2]) (by omega) (fun i hi=>by simp only[Bo,A3,AY,BQ,B8,Cs,Int.ofNat_lt]) (fun i hi=>rfl) (fun i hi=>?_)⟩,?_⟩
   · simp only[A3,AY,BQ,Bl,Cs];exact⟨fun hh=>⟨by omega,by omega,by omega,by omega,(hY i (by omega)).1⟩,fun _=>trivial⟩
   · have hv:=kR (c:=fun i:Int=>bAnd (iLt i (lLen a)) (bNot ((fun i=>bNot (GG (((lGet a i (0,0,0)).1,(lGet a i (0,0,0)).2.1,(lGet a i (0,0,0)).2.2),((lGet b i (0,0,0)).1,(lGet b i (0,0,0)).2.1,(lGet b i (0,0,0)).2.2)))) i.toNat))) (f:=fun i=>iAdd .i64 i 1) a b (0,0,0) (fun i=>bNot (GG (((lGet a i (0,0,0)).1,(lGet a i (0,0,0)).2.1,(lGet a i (0,0,0)).2.2),((lGet b i (0,0,0)).1,(lGet b i (0,0,0)).2.1,(lGet b i (0,0,0)).2.2)))) hl (fun i hi=>by simp only[B8,Jh,(hY i hi).2]) (by omega) (fun i hi=>by simp only[Bo,A3,AY,B8,Cs,Int.ofNat_lt]) (fun i hi=>rfl)
     have e1:bNot (iNe (lLen a) (lLen b))=true:=by rw[B8,IU,AY,AY,hl];simp
     rw[e1,Bo true,Bool.true_and,B8 (iLt _ (lLen a)),A3 _ (lLen a)];simp only[← BQ,AY] at hv ⊢;simp only[C8,DR];rw[hv];simp
 · have e1:bNot (iNe (lLen a) (lLen b))=false:=by rw[B8,IU,AY,AY];simp;omega
   refine⟨⟨fun _=>trivial,fun h=>?_⟩,?_⟩
   · rw[B8] at e1;rw[h] at e1;cases e1
   · rw[e1,Bo,KA];constructor
     · intro h;cases h
     · intro e;subst e;exact absurd rfl hl
def Bz(h:Int×Int×Int×Int×Int):Int×Int:=(h.2.2.1,h.2.2.2.1)
theorem dr(dn:List (Int×Int×Int×Int×Int))(i:Nat):(dn.map Bz).getD i (0,0)=Bz (dn.getD i (0,0,0,0,0)):=by
 rw[Du,Du,En];cases dn[i]?<;>rfl
theorem jj{c:Int→Bool}{f:Int→Int}(n:Int)(h0:0≤n)(hn:n≤9223372036854775806)(hc:∀ st:Int,c st=true→st<n)(hf:∀ st,f st=iAdd .i64 st 1):0≤AZ c f 0:=
 (UC (fun st=>0≤st∧st≤n) (fun st=>(n-st).toNat) (fun st hI h=>by
  have:=hc st h
  rw[hf,Cu (by constructor<;>omega)]
  exact⟨by omega,by omega⟩) ⟨by omega,h0⟩).1.1
theorem V0(dn:List (Int×Int×Int×Int×Int))(k c m:Int):DG (dn,k,c,m)=Bq (dn.map Bz,c,m):=by
 rw[ZL,TL];simp only[DQ,dr,AY,Az,Bz]
theorem QN(dm:List (Int×Int))(q:Int×Int)(h:dm.length≤1048576):Bq (dm,q)=-1∨(0≤Bq (dm,q)∧Bq (dm,q)<dm.length):=by
 rw[TL,CQ,A3,AY];split
 · rename_i hlt;rw[Bl] at hlt;refine .inr ⟨jj dm.length (by omega) (by omega) (fun st hc=>?_) (fun _=>rfl),hlt⟩;rw[Bo,A3,Ah,Bl] at hc;exact hc.1
 · exact .inl rfl
theorem iw(dn:List (Int×Int×Int×Int×Int))(q:Int×Int×Int)(h:dn.length≤1048576):Nz (dn,q):=by
 rw[ZT];refine WK (fun st=>st) dn.length (by omega) (fun st _ _ h=>?_) (fun _=>rfl) (fun st h0 h1=>⟨fun hlt=>?_,fun _=>trivial⟩) (by simp) (by simp)
 · rw[Bo,A3,AY,Ah,Bl] at h;exact h.1
 · rw[A3,AY,Bl] at hlt;have a:(0:Int)≤st∧st<(dn.length:Int):=⟨h0,hlt⟩
   have b:iNat st<dn.length:=by rw[BQ];omega
   exact⟨a,b,fun _=>⟨a,b⟩,fun _=>trivial⟩
theorem iO(dm:List (Int×Int))(q:Int×Int)(h:dm.length≤1048576):Nv (dm,q):=by
 rw[Z3];refine WK (fun st=>st) dm.length (by omega) (fun st _ _ h=>?_) (fun _=>rfl) (fun st h0 h1=>⟨fun hlt=>?_,fun _=>trivial⟩) (by simp) (by simp)
 · rw[Bo,A3,AY,Ah,Bl] at h;exact h.1
 · rw[A3,AY,Bl] at hlt;exact⟨⟨h0,hlt⟩,by rw[BQ];omega⟩
theorem bQ(dn:List (Int×Int×Int×Int×Int))(p:Int)(h0:0≤p)(h1:p<dn.length) :
 (FJ (dn,p)).map Bz=lApp (lTake (dn.map Bz) (lN (lSub (dn.map Bz) 0 (iNat p)))) (lSub (dn.map Bz) (iNat (iAdd .i64 p 1)) (lN (dn.map Bz))):=by
 have hm:min p.toNat dn.length=p.toNat:=by omega
 rw[Tj]
 simp only[FX,Vv,Mv,HC,BQ,G3,O8,G0,DU,OX,List.map_drop,Az,BL,hm]
theorem bL(dn:List (Int×Int×Int×Int×Int))(p:Int)(h0:0≤p)(h1:p<dn.length)(h:dn.length≤1048576):(FJ (dn,p)).length≤dn.length:=by
 rw[Tj];simp only[FX,Mv,HC,BQ,G3,O8,G0,L7,Cy,BL];rw[Cu (by constructor<;>omega)];omega
theorem QU(K p:Int)(A:Bool):bNot (bOr (bNot (BA (K,0,2))) (bOr (bNot A) (bNot (bIff (iEq K 2) (iGe p 0)))))=
 bAnd (bNot (bNot A)) (bSel (bOr (iEq K 0) (iEq K 1)) (bNot (iGe p 0)) (bAnd (iEq K 2) (bNot (iLt p 0)))):=by
 have hp:decide (p<0)=!decide (0≤p):=by simp only[← decide_not,Int.not_le]
 rw[Ip]
 simp only[Bo,B8,ER,OJ,CQ,EN,F3,Fm,A3,hp]
 generalize decide (0≤p)=P
 have h:K=0∨K=1∨K=2∨(¬ (0≤K∧K≤2)):=by omega
 rcases h with h|h|h|h
 · subst h;cases A<;>cases P<;>decide
 · subst h;cases A<;>cases P<;>decide
 · subst h;cases A<;>cases P<;>decide
 · have e0:K≠0:=by omega
   have e1:K≠1:=by omega
   have e2:K≠2:=by omega
   have e3:(decide (0≤K)&&decide (K≤2))=false:=by rw[← Bool.decide_and];exact GU h
   simp only[e3,e0,e1,e2,decide_false];cases A<;>rfl
theorem fQ {l:List (Int×Int×Int)} {cs:List (Int×Int×Int×Int×Int)×Int→Bool} {fs} {ci:List (Int×Int)×Int→Bool} {fi}
 (h:∀ (dn:List (Int×Int×Int×Int×Int)) (i:Int),0≤i→i≤l.length→dn.length≤i→cs (dn,i)=ci (dn.map Bz,i)∧(cs (dn,i)=true→i<l.length∧∃ dn':List (Int×Int×Int×Int×Int),fs (dn,i)=(dn',i+1)∧fi (dn.map Bz,i)=(dn'.map Bz,i+1)∧dn'.length≤i+1)) :
 bAnd (bNot (iLt (AZ cs fs ([],0)).2 (lLen l))) (bAnd (iLe (lLen l) 8) (iEq (lLen (AZ cs fs ([],0)).1) 0))=
 bAnd (bNot (iGt (lLen l) 8)) (bAnd (bNot (iLt (AZ ci fi ([],0)).2 (lLen l))) (iEq (lLen (AZ ci fi ([],0)).1) 0)):=by
 have go:∀ (n:Nat) (dn:List (Int×Int×Int×Int×Int)) (i:Int),0≤i→i≤l.length→dn.length≤i→(l.length-i).toNat<n →
  ∃ (en:List (Int×Int×Int×Int×Int)) (j:Int),LoopTo cs fs (fun _=>True) (dn,i) (en,j)∧LoopTo ci fi (fun _=>True) (dn.map Bz,i) (en.map Bz,j):=by
  intro n
  induction n with
  |zero=>intro _ _ _ _ _ hm;exact absurd hm (SH _)
  | succ n ih=>
    intro dn i h0 h1 h2 hm;obtain⟨a,b⟩:=h dn i h0 h1 h2
    cases hc:cs (dn,i) with
    |false=>exact⟨dn,i,.stop trivial hc,.stop trivial (by rw[← a,hc])⟩
    | true=>
      obtain⟨c1,dn',c2,c3,c4⟩:=b hc;obtain⟨en,j,d1,d2⟩:=ih dn' (i+1) (by omega) (by omega) c4 (by omega);exact⟨en,j,.go trivial hc (by rw[c2];exact d1),.go trivial (by rw[← a,hc]) (by rw[c3];exact d2)⟩
 obtain⟨en,j,d1,d2⟩:=go _ [] 0 (by omega) (by omega) (by simp) (Sm _)
 have d2:LoopTo ci fi (fun _=>True) ([],0) (en.map Bz,j):=d2
 rw[d1.val,d2.val]
 simp only[Bo,B8,Fm,Ks,AY,Az,← decide_not,Int.not_lt]
 exact Bool.and_left_comm ..
theorem QI (dn:List (Int×Int×Int×Int×Int)) (K c m p i:Int) (t:Bool) (n:Int) (hp:p=-1∨(0≤p∧p<dn.length)) (hd:dn.length≤i) (hi:i<n) (hn:n≤1048576)
 (hc:bSel (bOr (iEq K 0) (iEq K 1)) (bNot (iGe p 0)) (bAnd (iEq K 2) (bNot (iLt p 0)))=true) :
 bSel (bOr (iEq K 0) (iEq K 1)) (bSel (iEq K 1) (lApp (dn.map Bz) [(c,m)]) (dn.map Bz)) (lApp (lTake (dn.map Bz) (lN (lSub (dn.map Bz) 0 (iNat p)))) (lSub (dn.map Bz) (iNat (iAdd .i64 p 1)) (lN (dn.map Bz))))=
  (bSel (iEq K 1) (lApp dn [(0,2,c,m,0)]) (bSel (iEq K 2) (FJ (dn,p)) dn)).map Bz ∧
 ((bSel (iEq K 1) (lApp dn [(0,2,c,m,0)]) (bSel (iEq K 2) (FJ (dn,p)) dn)).length:Int)≤i+1:=by
 simp only[CQ,ER,Bo,B8,EN,F3,A3,B1,Bl] at hc ⊢
 by_cases k1:K=1
 · subst k1
   simp[FX,Bz];omega
 · by_cases k0:K=0
   · subst k0;simp;omega
   · simp only[k0,k1,or_self,AK,Ah,Bl,C8,DR] at hc ⊢
     have h0:0≤p:=by omega
     have h1:p<dn.length:=by omega
     rw[Ab hc.1];refine⟨(bQ dn p h0 h1).symm,?_⟩;have:=bL dn p h0 h1 (by omega);omega
theorem cL(x:List (Int×Int×Int))(h:x.length≤1048576):Hn x=JJ x:=by
 rw[TB,Y8];refine fQ (fun dn i h0 h1 h2=>?_);have hr:=QN (dn.map Bz) ((lGet x (iNat i) (0,0,0)).2.1,(lGet x (iNat i) (0,0,0)).2.2) (by rw[Az];omega);rw[Az] at hr;simp only[V0,NL,K6,QU];generalize Bq (dn.map Bz,(lGet x (iNat i) (0,0,0)).2.1,(lGet x (iNat i) (0,0,0)).2.2)=p at hr ⊢;refine⟨trivial,fun hc=>?_⟩;rw[Bo,Bo,A3,AY,Ah,Ah,Bl] at hc;obtain⟨hc1,hc2,hc3⟩:=hc;obtain⟨s1,s2⟩:=QI dn (lGet x (iNat i) (0,0,0)).1 (lGet x (iNat i) (0,0,0)).2.1 (lGet x (iNat i) (0,0,0)).2.2 p i true x.length hr h2 hc1 (by omega) hc3;rw[Cu (a:=i) (b:=1) (by constructor<;>omega)];exact⟨hc1,_,rfl,by rw[s1],s2⟩
theorem Lz{k w:Nat}(h:k≤1048577)(hw:w≤1000):AP (k*w):=by
 unfold AP;exact DX (Nat.mul_le_mul h hw) (by decide)
theorem cZ(dn:List (Int×Int×Int×Int×Int))(p:Int)(h0:0≤p)(h1:p<dn.length)(h:dn.length≤1048576):Nc (dn,p):=by
 rw[Yx,Cu (a:=p) (b:=1) (by constructor<;>omega)];simp only[BQ,Mv,FX,HC,G3,O8,G0,L7,Cy,AV,BL];refine⟨⟨h0,by omega,by omega,by omega⟩,⟨by omega,by omega,by omega,by omega⟩,Lz (by omega) (by omega),Lz (by omega) (by omega)⟩
theorem ah(x:List (Int×Int×Int))(h:x.length≤1048576):Nr x:=by
 rw[Za];refine(J5 (fun st:List (Int×Int×Int×Int×Int)×Int=>0≤st.2∧st.2≤(x.length:Int)∧(st.1.length:Int)≤st.2) (fun st=>((x.length:Int)-st.2).toNat) (fun st hI=>?_) ⟨by simp,by simp,by simp⟩).1;obtain⟨dn,i⟩:=st;obtain⟨i0,i1,i2⟩:=hI;simp only at i0 i1 i2;have hr:=QN (dn.map Bz) ((lGet x (iNat i) (0,0,0)).2.1,(lGet x (iNat i) (0,0,0)).2.2) (by rw[Az];omega);rw[Az] at hr;have hf:=iw dn ((lGet x (iNat i) (0,0,0)).1,(lGet x (iNat i) (0,0,0)).2.1,(lGet x (iNat i) (0,0,0)).2.2) (by omega);simp only[V0,NL,K6,QU,Tg,Tl,Lh];generalize Bq (dn.map Bz,(lGet x (iNat i) (0,0,0)).2.1,(lGet x (iNat i) (0,0,0)).2.2)=p at hr ⊢;refine⟨⟨fun hlt=>?_,fun _=>trivial⟩,fun hc=>?_⟩
 · rw[A3,AY,Bl] at hlt;refine⟨⟨i0,hlt⟩,by rw[BQ];omega,hf,⟨trivial,fun _=>trivial,fun _=>⟨trivial,trivial⟩⟩,fun _=>trivial,fun hc=>⟨fun _=>⟨trivial,Lz (by simp only[A6,AV];omega) (by omega)⟩,fun k1=>⟨fun k2=>?_,fun _=>trivial⟩⟩⟩;have hc:=congrArg bNot hc;rw[QU] at hc;simp only[CQ,ER,Bo,B8,EN,F3,A3,Bl] at hc k1 k2;simp[k2] at hc;exact cZ dn p (by omega) (by omega) (by omega)
 · rw[Bo,Bo,A3,AY,Ah,Ah,Bl] at hc;obtain⟨hc1,hc2,hc3⟩:=hc;obtain⟨s1,s2⟩:=QI dn (lGet x (iNat i) (0,0,0)).1 (lGet x (iNat i) (0,0,0)).2.1 (lGet x (iNat i) (0,0,0)).2.2 p i true x.length hr i2 hc1 (by omega) hc3;rw[Cu (a:=i) (b:=1) (by constructor<;>omega)];exact⟨⟨by show 0≤i+1;omega,by show i+1≤_;omega,s2⟩,by show (_-(i+1)).toNat<_;omega⟩
theorem ai(x:List (Int×Int×Int))(h:x.length≤1048576):Nq x:=by
 rw[Zw];refine⟨fun _=>trivial,fun _=>?_⟩;refine(J5 (fun st:List (Int×Int)×Int=>0≤st.2∧st.2≤(x.length:Int)∧∃ dn:List (Int×Int×Int×Int×Int),st.1=dn.map Bz∧(dn.length:Int)≤st.2) (fun st=>((x.length:Int)-st.2).toNat) (fun st hI=>?_) ⟨by simp,by simp,[],rfl,by simp⟩).1;obtain⟨dm,i⟩:=st;obtain⟨i0,i1,dn,rfl,i2⟩:=hI;simp only at i0 i1 i2;have hr:=QN (dn.map Bz) ((lGet x (iNat i) (0,0,0)).2.1,(lGet x (iNat i) (0,0,0)).2.2) (by rw[Az];omega);have hf:=iO (dn.map Bz) ((lGet x (iNat i) (0,0,0)).2.1,(lGet x (iNat i) (0,0,0)).2.2) (by rw[Az];omega);rw[Az] at hr;simp only[Tf];generalize Bq (dn.map Bz,(lGet x (iNat i) (0,0,0)).2.1,(lGet x (iNat i) (0,0,0)).2.2)=p at hr ⊢;refine⟨⟨fun hlt=>?_,fun _=>trivial⟩,fun hc=>?_⟩
 · rw[A3,AY,Bl] at hlt;refine⟨⟨i0,hlt⟩,by rw[BQ];omega,hf,trivial,fun _=>trivial,fun _=>⟨fun _=>⟨fun _=>trivial,fun _=>⟨fun _=>Lz (by simp only[Az,A6,AV];omega) (by omega),fun _=>trivial⟩⟩,fun _=>⟨fun _=>⟨fun _=>trivial,fun hp=>?_⟩,fun _=>trivial⟩⟩⟩;rw[A3,DR] at hp
   have h0:0≤p:=by omega
   have h1:p<dn.length:=by omega
   rw[Cu (a:=p) (b:=1) (by constructor<;>omega)];simp only[BQ,Mv,HC,G3,O8,G0,L7,Az];exact⟨⟨h0,by omega,by omega,by omega⟩,⟨by omega,by omega,by omega,by omega⟩,by omega,by omega,Lz (by omega) (by omega)⟩
 · rw[Bo,Bo,A3,AY,Ah,Ah,Bl] at hc;obtain⟨hc1,hc2,hc3⟩:=hc;obtain⟨s1,s2⟩:=QI dn (lGet x (iNat i) (0,0,0)).1 (lGet x (iNat i) (0,0,0)).2.1 (lGet x (iNat i) (0,0,0)).2.2 p i true x.length hr i2 hc1 (by omega) hc3;rw[Cu (a:=i) (b:=1) (by constructor<;>omega)];exact⟨⟨by show 0≤i+1;omega,by show i+1≤_;omega,_,s1,s2⟩,by show (_-(i+1)).toNat<_;omega⟩
abbrev Hh:=List (Int×Int×Int×Int×Int)
section
set_option maxRecDepth 20000
def mA(s:Int×Int×Int):Int×Int×Int×Int×Int:=(0,2,s.2.1,s.2.2,0)
def SX(dn:Hh)(s:Int×Int×Int):Hh:=if s.1=1 then dn++[mA s] else if s.1=2 then FJ (dn,DG (dn,s)) else dn
def PD(dn:Hh)(s:Int×Int×Int):Prop:=0≤s.1∧s.1≤2∧EF (2,s.2.1,s.2.2,0)=true∧(s.1=2↔0≤DG (dn,s))
def Hg(x:List (Int×Int×Int))(i:Nat):Hh:=(x.take i).foldl SX []
theorem gH(x:List (Int×Int×Int)){i:Nat}(h:i<x.length):Hg x (i+1)=SX (Hg x i) (x.getD i (0,0,0)):=by
 unfold Hg;rw[← Qv x (0,0,0) h,List.foldl_append];rfl
theorem gY {c:Hh×Int→Bool} {f:Hh×Int→Hh×Int} (x:List (Int×Int×Int)) (h1:¬ (AZ c f ([],0)).2<lLen x) (hc:∀ (dn:Hh) (i:Nat),c (dn,(i:Int))=true→i<x.length∧PD dn (x.getD i (0,0,0)))
 (hf:∀ (dn:Hh) (i:Nat),i<x.length→f (dn,(i:Int))=(SX dn (x.getD i (0,0,0)),(i:Int)+1)):(AZ c f ([],0)).1=Hg x x.length∧∀ i,i<x.length→PD (Hg x i) (x.getD i (0,0,0)):=by
 have key:=UC (c:=c) (f:=f) (fun st=>∃ i:Nat,st=(Hg x i,(i:Int))∧i≤x.length∧∀ j,j<i→PD (Hg x j) (x.getD j (0,0,0))) (fun st=>x.length-st.2.toNat) (fun st hI hcc=>by
  obtain⟨i,rfl,hi,hj⟩:=hI;obtain⟨g1,g2⟩:=hc _ i hcc;rw[hf _ i g1];refine⟨⟨i+1,by rw[gH x g1];simp,by omega,fun j hj'=>?_⟩,by simp only;omega⟩;rcases A9 j i with h|h
  · exact hj j h
  · have:j=i:=by omega
    subst this;exact g2) (x0:=([],0)) ⟨0,rfl,Fl _,fun j hj=>by omega⟩
 obtain⟨⟨i,e,hi,hj⟩,_⟩:=key
 rw[e,AY] at h1
 rw[e]
 simp only at h1
 have:i=x.length:=by omega
 subst this
 exact⟨rfl,hj⟩
theorem bZ(x:List (Int×Int×Int))(h:x.length≤1048576)(hm:Hn x=true):x.length≤8∧Hg x x.length=[]∧∀ i,i<x.length→PD (Hg x i) (x.getD i (0,0,0)):=by
 rw[TB,Bo,Bo,Ah,Ah] at hm;obtain⟨h1,h2,h3⟩:=hm;rw[B8,C8,A3 _ (lLen x),DR] at h1;rw[Fm,AY,Bl] at h2;rw[EN,AY,Bl] at h3
 obtain⟨g1,g2⟩:=gY x h1 (fun dn i hc=>by
  simp only[AY,DQ,BQ,Cs,K6,NL,iH,Bo,B8,ER,OJ,A3,EN,F3,Ah,C8,El,Jh,Bl,AA] at hc;obtain⟨c1,⟨c2,c3⟩,c4,c5⟩:=hc;refine⟨by omega,c2,c3,c4,?_⟩;have:=congrArg (·=true) c5
  simpa using this) (fun dn i hi=>by
  simp only[DQ,BQ,Cs,K6,CQ,EN,Bl,FX];rw[Cu (by unfold CC;omega)]
  rfl)
 refine⟨by omega,?_,g2⟩;rw[← g1];exact Dy (by omega)
end
section
set_option maxRecDepth 20000
def D0(s:Int×Int×Int):List UInt8:=([([116,100,117]:List UInt8).getD s.1.toNat 0]++[61])++Hl (2,s.2.1,s.2.2,0)
theorem eN(s:Int×Int×Int):(D0 s).length≤22:=by
 have:=(PN (2,s.2.1,s.2.2,0)).2.2.2;unfold D0;simp only[Cy,A6,AV];omega
theorem ZI(x:List (Int×Int×Int))(h:x.length≤1048576):M7 x∧M5 x∧JB x=JA x:=by
 have s1:=ah x h;have s2:=ai x h;rw[X7,X4,Yd,Ya,← cL x h]
 cases hv:Hn x with
 | false=>
   have L1:=GQ (c:=Hj x) (f:=Jw x) (p:=Ju x) 0 (fun _=>([],0)) (x0:=([],0)) rfl (fun k h=>by omega) (by
    simp only[Hj,Ju,hv,Bo,Bool.and_false]
    exact⟨⟨⟨fun _=>s1,fun _=>trivial⟩,fun h=>(by cases h),fun _=>trivial⟩,trivial⟩)
   obtain⟨j1,j2⟩:=VU [] [32] (by simp) (by simp);rw[L1.2,B8];simp only[Bool.not_false,Fv,j2];exact⟨⟨L1.1,j1⟩,⟨s2,fun _=>trivial,fun h=>(by cases h)⟩,by first|rfl|trivial⟩
 | true=>
   obtain⟨hl,_,hok⟩:=bZ x h hv
   have sub:∀ K:Int,0≤K→K≤2→lSub ([116,100,117]:List UInt8) K.toNat (K+1).toNat=[([116,100,117]:List UInt8).getD K.toNat 0]:=fun K h0 h2=>by
    rcases (show K=0∨K=1∨K=2 by omega) with rfl|rfl|rfl<;>rw[HC]<;>rfl
   have stp:∀ k,k<x.length→(x.take (k+1)).map D0=(x.take k).map D0++[D0 (x.getD k (0,0,0))]:=fun k hk=>by
    rw[← Qv x (0,0,0) hk,DU];rfl
   have L1:=GQ (c:=Hj x) (f:=Jw x) (p:=Ju x) x.length (fun k=>((x.take k).map D0,(k:Int))) (x0:=([],0)) (by simp) (fun k hk=>by
    have i1:iLt (k:Int) (lLen x)=true:=by rw[A3,AY];exact HD (by omega)
    have ad:iAdd .i64 (k:Int) 1=((k+1:Nat):Int):=by rw[Cu (by unfold CC;omega)];rfl
    obtain⟨o0,o2,_⟩:=hok k hk;have sp:=stp k hk;have gk:lGet x k (0,0,0)=x.getD k (0,0,0):=DQ _ _ _;simp only[Hj,Jw,Ju,i1,hv,ad,sp,BQ,Cs,gk,K6,Tl,FX,IH,Bo,BM];generalize x.getD k (0,0,0)=s at o0 o2;obtain⟨K,c,m⟩:=s;have o0:0≤K:=o0;have o2:K≤2:=o2;obtain⟨f1,_,_,f4⟩:=PN (2,c,m,0);have ak:iAdd .i64 K 1=K+1:=Cu (by unfold CC;omega);simp only[ak,sub K o0 o2,Cy,A6,AV,Az,G0];refine⟨?_,trivial,rfl⟩
    repeat' (first|exact trivial|assumption|omega|exact LJ (by omega)|apply And.intro|(intro hh;first|cases hh;done|skip))) (by
    have i1:iLt (x.length:Int) (lLen x)=false:=by rw[A3,AY];exact GU (by omega)
    simp only[Hj,Ju,i1,Bo,KA]
    exact⟨⟨⟨fun h=>(by cases h),fun _=>trivial⟩,fun h=>(by cases h),fun _=>trivial⟩,trivial⟩)
   have L2:=GQ (c:=Jv x) (f:=KV x) (p:=MY x) x.length (fun k=>((x.take k).map D0,(k:Int))) (x0:=([],0)) (by simp) (fun k hk=>by
    have i1:iLt (k:Int) (lLen x)=true:=by rw[A3,AY];exact HD (by omega)
    have ad:iAdd .i64 (k:Int) 1=((k+1:Nat):Int):=by rw[Cu (by unfold CC;omega)];rfl
    obtain⟨o0,o2,_⟩:=hok k hk;have sp:=stp k hk;have gk:lGet x k (0,0,0)=x.getD k (0,0,0):=DQ _ _ _;simp only[Jv,KV,MY,i1,ad,sp,BQ,Cs,gk,FX,IH];generalize x.getD k (0,0,0)=s at o0 o2;obtain⟨K,c,m⟩:=s;have o0:0≤K:=o0;have o2:K≤2:=o2;obtain⟨_,f2,f3,f4⟩:=PN (2,c,m,0);have ak:iAdd .i64 K 1=K+1:=Cu (by unfold CC;omega);simp only[ak,sub K o0 o2,f3,Cy,A6,AV,Az,G0];refine⟨?_,trivial,rfl⟩
    repeat' (first|exact trivial|assumption|omega|exact LJ (by omega)|apply And.intro|(intro hh;first|cases hh;done|skip))) (by
    have i1:iLt (x.length:Int) (lLen x)=false:=by rw[A3,AY];exact GU (by omega)
    simp only[Jv,MY,i1]
    exact⟨⟨fun h=>(by cases h),fun _=>trivial⟩,trivial⟩)
   rw[L1.2,L2.2,B8];simp only[OL,Em,I1]
   have wl:∀ w∈x.map D0,w.length+([32]:List UInt8).length≤100:=fun w hw=>by
    obtain⟨k,hk,rfl⟩:=List.mem_map.1 hw;have:=eN k;simp only[A6,AV];omega
   have ln:(x.map D0).length≤1048576:=by rw[Az];exact h
   obtain⟨j1,j2⟩:=VU (x.map D0) [32] ln wl
   have jl:(BH (x.map D0) [32]).length≤104857600:=
    DX (Q6 [32] 100 _ wl) (Nat.mul_le_mul ln (AM _))
   have j3:Nd (x.map D0,[32]):=by
    rw[YC,Tw];exact⟨DX ln (by decide),DX jl (by decide)⟩
   have j4:Nn (x.map D0,[32])=BH (x.map D0) [32]:=by rw[YU,Tx]
   rw[j2,j4];exact⟨⟨L1.1,j1⟩,⟨s2,fun h=>(by cases h),fun _=>⟨L2.1,j3⟩⟩,rfl⟩
theorem XO(x:List (Int×Int×Int))(hw:TuX.wf ED.h x):MW x∧MX x=true:=by
 rw[XL,XM];have hwl:VS x:=⟨hw.1,fun a _=>by simp[VZ]⟩;obtain⟨k1,k2⟩:=fZ x hwl 1048576 (by omega) (by omega);rcases k2 with k2|⟨k2,_,k3⟩
 · have e:iLt (FM (x,1048576)) 0=true:=by rw[A3];simpa using k2
   simp only[e];simp[ER,k1]
 · have e:iLt (FM (x,1048576)) 0=false:=by rw[A3];simpa using k2
   obtain⟨t1,t2⟩:=fH x k3;obtain⟨q1,q2⟩:=gz x x k3;have q2:=q2.2 rfl;obtain⟨r1,r2,r3⟩:=ZI x k3.1;rw[t2,r3];simp only[e,k1,t1,r1,r2,q1,q2];simp[ER,Bo,B8,WI]
end
end
end Go.Ag
