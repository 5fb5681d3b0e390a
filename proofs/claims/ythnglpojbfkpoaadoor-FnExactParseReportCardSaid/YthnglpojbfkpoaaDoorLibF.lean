/- Part 6 of what FnExactParseReport needs. No conditions. -/
import Derived.Test.YthnglpojbfkpoaaDoorLibE
namespace Go.Ag
set_option linter.unusedSimpArgs false
set_option linter.unusedVariables false
noncomputable section
theorem iM(a:Int):iAdd .i64 a 1=IntKind.i64.wrap (a+1):=by simp only[SD]
theorem gD(k:IntKind)(a:Int):iConv k a=k.wrap a:=by simp only[R6]
theorem iL(a b:Int):iRem a b=a.tmod b:=by simp only[Sy]
section
variable {α:Type} {f:α→Int→α×Int} {l:List α} {c:Nat} {m:Int}
def TF(f:α→Int→α×Int)(l:List α)(c:Nat):Prop:=∀ a∈l,∀ m:Int,0≤m→m+c≤2305843009213693952→m≤(f a m).2∧(f a m).2≤m+c
theorem WJ(hf:TF f l c)(h0:0≤m)(h1:m+(l.length*c:Nat)≤2305843009213693952)(d:α):∀ i,i≤l.length→m≤(BE f l m i).2∧(BE f l m i).2≤m+(i*c:Nat):=by
 intro i
 induction i with
 |zero=>intro _;rw[Vd];simp
 | succ i ih=>
   intro hi;obtain⟨h2,h3⟩:=ih (by omega);rw[LD f l m (by omega) d];have hm:l.getD i d∈l:=Rk l i d (by omega);have hmul:(i+1)*c≤l.length*c:=Ev _ (by omega);rw[Co,Gk] at hmul ⊢;obtain⟨h4,h5⟩:=hf _ hm (BE f l m i).2 (by omega) (by omega);exact⟨by omega,by simp only;omega⟩
theorem lV(hf:TF f l c)(h0:0≤m)(h1:m+(l.length*c:Nat)≤2305843009213693952):m≤(Bs f l m).2∧(Bs f l m).2≤m+(l.length*c:Nat):=by
 cases l with
 |nil=>simp[Bs]
 | cons a r=>
   have:=WJ hf h0 h1 a (a::r).length (AA _);rw[LL] at this;exact this
theorem jr(f:α→Int→α×Int)(l:List α)(m:Int){i:Nat}(hi:i<l.length)(d:α):(Bs f l m).1.getD i d=(f (l.getD i d) (BE f l m i).2).1:=by
 have h1:=LD f l m hi d
 have h2:(BE f l m (i+1)).1.getD i d=(f (l.getD i d) (BE f l m i).2).1:=by
  rw[h1];simp only;rw[Cw,List.getElem?_set_self (by rw[Oo];exact hi)];rfl
 rw[← h2,← LL f l m]
 have:∀ k,i<k→k≤l.length→(BE f l m k).1.getD i d=(BE f l m (i+1)).1.getD i d:=by
  intro k
  induction k with
  |zero=>intro h;omega
  | succ k ih=>
    intro h h';by_cases hk:k=i
    · rw[hk]
    · rw[← ih (by omega) (by omega),LD f l m (by omega) d];simp only[Cw];rw[List.getElem?_set_ne hk]
 exact this _ hi (AA _)
theorem fW {C:Int×Int→Bool} {F:Int×Int→Int×Int} {p:Int×Int→Prop} (hl:l.length≤1048576) (d:α)
 (hs:∀ i,i<l.length→p ((BE f l m i).2,(i:Int))∧C ((BE f l m i).2,(i:Int))=true∧F ((BE f l m i).2,(i:Int))=((f (l.getD i d) (BE f l m i).2).2,iAdd .i64 (i:Int) 1))
 (he:p ((Bs f l m).2,(l.length:Int))∧C ((Bs f l m).2,(l.length:Int))=false):LoopOk C F p (m,0)∧AF C F (m,0)=((Bs f l m).2,(l.length:Int)):=by
 have:=FC (p:=p) (c:=C) (f:=F) l.length (fun i=>((BE f l m i).2,(i:Int))) (x0:=(m,0)) rfl (fun k hk=>by
  obtain⟨h1,h2,h3⟩:=hs k hk;refine⟨h1,h2,?_⟩;rw[h3,LD f l m hk d,Ck (by unfold BD;omega)]
  simp) (by rw[LL];exact he)
 simp only[LL] at this
 exact this
end
theorem iE{i n c:Nat}(h:i<n):i*c+c≤n*c:=by
 have:=Ev c (show i+1≤n from h);rw[Co,Gk] at this;exact this
theorem kx{n m c B:Nat}(h:n≤m)(e:m*c=B):n*c≤B:=e▸Ev c h
theorem Yx{m:Int}(h0:0≤m)(h1:m≤2305843009213693960):IntKind.i64.wrap (m+1)=m+1:=Yd (by omega)
section
set_option maxRecDepth 20000
def Em(a:Int)(k:Int):(Int)×Int:=(k,(IntKind.i64.wrap (k+1)))
theorem kj(x:List (Int))(h:Si x)(m:Int)(h0:0≤m)(h1:m+1048576≤2305843009213693952):Ny x∧(m≤(Ft x m).2∧(Ft x m).2≤m+1048576)∧NC ((Ft x m).1,m)∧Ln ((Ft x m).1,m)=(Ft x m).2:=by
 have hl:x.length≤1048576:=h
 have hU:TF Em x 1:=by
  intro a ha k k0 k1;have e0:IntKind.i64.wrap (k+1)=k+1:=Yx (by omega) (by omega)
  have ee:(Em a k).2=(k+1):=by simp only[Em,e0]
  rw[ee];omega
 have hB:x.length*1≤1048576:=kx hl (by decide);have up:=lV (m:=m) hU h0 (by omega)
 have hmg:Ft x m=Bs Em x m:=by unfold Em;rw[T1];rfl
 rw[hmg];have hL:=IX Em x m
 have hg:∀ i,i<x.length→(Bs Em x m).1.getD i 0=(Em (x.getD i 0) (BE Em x m i).2).1:=fun i hi=>jr _ _ _ hi _
 have hok:Ny x:=by rw[ZF];exact⟨D8 h (by decide),fun a ha=>trivial⟩
 rw[ZU,Z9];dsimp only;generalize (Bs Em x m).1=L at hL hg ⊢
 have key:LoopOk (fun(x0:(Int×Int))=>(bAnd (iLt x0.2 (lLen L)) (bNot (iNe (lGet L (iNat x0.2) 0) x0.1)))) (fun(x0:(Int×Int))=>((iAdd .i64 x0.1 1),(iAdd .i64 x0.2 1))) (fun(x0:(Int×Int))=>(((iLt x0.2 (lLen L))=true→((((0:Int)≤x0.2)∧(x0.2<(((List.length L):Int))))∧((iNat x0.2)<(List.length L))))∧((iLt x0.2 (lLen L))=false→True))) (m,0)∧AF (fun(x0:(Int×Int))=>(bAnd (iLt x0.2 (lLen L)) (bNot (iNe (lGet L (iNat x0.2) 0) x0.1)))) (fun(x0:(Int×Int))=>((iAdd .i64 x0.1 1),(iAdd .i64 x0.2 1))) (m,0)=((Bs Em x m).2,(x.length:Int)):=by
  refine fW hl 0 (fun i hi=>?_) ?_
  · obtain⟨b1,b2⟩:=WJ (m:=m) hU h0 (by omega) 0 i (by omega);have bm:i*1+1≤x.length*1:=iE hi;have g:=hg i hi
    have hlt:(i:Int)<(L.length:Int):=by omega
    have hlN:i<L.length:=by omega
    have ha:=Rk x i 0 hi;generalize (BE Em x m i).2=k at b1 b2 g ⊢;generalize x.getD i 0=a at g ha ⊢;have e0:IntKind.i64.wrap (k+1)=k+1:=Yx (by omega) (by omega);simp only[B3,Bu,AP,BA,iM,gD,E9,Bf,Mn,iL,BL,B4,RV,g,Em,e0];simp[hlt,hlN]
  · simp[Bf,AP,hL,BL]
 refine⟨hok,⟨up.1,by omega⟩,key.1,?_⟩;simp only[key.2];simp[CU,Bf,AP,hL]
theorem gY(x:Int×List (Int))(h:J9 x)(m:Int)(h0:0≤m)(h1:m+1048576≤2305843009213693952):JI x∧(m≤(B0 x m).2∧(B0 x m).2≤m+1048576)∧Lf ((x.1,(B0 x m).1.2),m)∧Fo ((x.1,(B0 x m).1.2),m)=(B0 x m).2:=by
 unfold J9 at h;obtain⟨k0,⟨p0,q0⟩,y0,z0⟩:=kj x.2 h.1 m (by omega) (by omega)
 have t0:¬ (Ft x.2 m).2<0:=by omega
 have e:B0 x m=((x.1,(Ft x.2 m).1),(Ft x.2 m).2):=by rw[TP,T1];rfl
 have hok:JI x:=by rw[TQ];exact⟨trivial,⟨D8 h.1 (by decide),fun a ha=>trivial⟩⟩
 rw[e];refine⟨hok,⟨by simp only;omega,by simp only;omega⟩,?_,?_⟩
 · rw[Zt];simp[Bf,CU,y0,z0,t0]
 · rw[Zl];simp[Bf,CU,y0,z0,t0]
end
theorem QV{α:Type}(x:List α)(d:α){i:Nat}(h:i<x.length):x.take i++[x.getD i d]=x.take (i+1):=by
 rw[Pc,Cw,Ar h];rfl
theorem HO{n:Int}(h0:0≤n)(h1:n<9223372036854775808):iConv .i64 n=n:=e8 (by unfold BD;omega)
def Bytes(x:List Int):Prop:=∀ a∈x,0≤a∧a<256
theorem Bytes.get{x:List Int}(h:Bytes x)(i:Nat):∃ n:Nat,n<256∧x.getD i 0=(n:Int):=by
 by_cases hi:i<x.length
 · obtain⟨h0,h1⟩:=h _ (Rk x i 0 hi);exact⟨(x.getD i 0).toNat,by omega,by omega⟩
 · exact⟨0,by omega,by rw[Cw,AY (by omega)];rfl⟩
theorem Bytes.of{x:List Int}(h:CT.wf (.sl (.one (.int .u8))) x):Bytes x:=by
 intro a ha;have:=h.2 a ha;simp only[RT.wf,CT.wf] at this
 have h:IntKind.u8.min≤a∧a≤IntKind.u8.max:=by simpa [Lit.wf] using this
 have e1:IntKind.u8.min=0:=by decide
 have e2:IntKind.u8.max=255:=by decide
 rw[e1,e2] at h;omega
theorem nG(a:Int×List Int)(h:J9 a):JQ (a,a)∧F9 (a,a)=true:=⟨(VQ a a h).1,(VQ a a h).2.2 rfl⟩
def RepOk(x:Int×List Int):Prop:=(0≤x.1∧x.1≤15)∧∀ i,i<x.2.length→(1≤x.2.getD i 0∧x.2.getD i 0≤56)∧(0<i→x.2.getD (i-1) 0<x.2.getD i 0)
theorem RepOk.code{x:Int×List Int}(h:RepOk x)(i:Nat)(hi:i<x.2.length):(i:Int)+1≤x.2.getD i 0:=by
 induction i with
 |zero=>have:=(h.2 0 hi).1;omega
 | succ i ih=>
   have h1:=ih (by omega);have h2:=(h.2 (i+1) hi).2 (by omega);rw[Nat.add_sub_cancel] at h2;omega
theorem RepOk.len{x:Int×List Int}(h:RepOk x):x.2.length≤56:=by
 rcases A3 56 x.2.length with h1|h1
 · have h2:=h.code 56 h1;have h3:=(h.2 56 h1).1;omega
 · exact h1
def H8(l:List Int)(i:Nat):Bool:=!(decide (1≤l.getD i 0)&&decide (l.getD i 0≤56))||(decide (0<i)&&decide (l.getD i 0≤l.getD (i-1) 0))
theorem Vg{m:Int}{l:List Int}:((0≤m∧m≤15)∧∀ i,i<l.length→H8 l i=false)↔RepOk (m,l):=by
 unfold RepOk H8;refine and_congr Iff.rfl (forall_congr' fun i=>imp_congr Iff.rfl ?_);simp only[DP,KT,Aj,B7,MO,CS];omega
theorem b6(m:Int)(l:List Int)(h:l.length≤1048576):Ll (m,l)∧(DE (m,l)=true↔RepOk (m,l)):=by
 rw[aG,ZY]
 obtain⟨a1,a2⟩:=QZ (c:=JJ (m,l)) (f:=Lh) (p:=Qa (m,l)) l.length (H8 l) (by omega) (fun i hi=>by
  simp only[JJ,H8,W5,AP,B3,Bu,BL,B4,Et,Bf,FP,E2,BA];by_cases h0:0<i
  · rw[EP (by unfold BD;omega)]
    have e:((i:Int)-1).toNat=i-1:=by omega
    rw[e];simp[h0]
  · simp[h0]) (fun i _=>rfl) (fun i hi=>by
  unfold Qa
  repeat' (first|exact trivial|assumption|decide|apply And.intro|(intro hh;(try simp(disch:=first|omega|(unfold BD;omega)) only[AP,Gx,B3,Bu,HS,DH,Eo,HZ,List.length_set,BT,As,Az,List.length_replicate,Dp,E1,BA,DN,AQ,Ck,EP,HH,HN,HU,HO,L3,Bf,D9,FP,E2,Mn,E9,B4,BL,Et,Aj,Cf,MO,DP,Dr,KT,B7,CS,Bool.not_not] at hh))|omega|(unfold A5;simp(disch:=first|omega|(unfold BD;omega)) only[AP,Gx,B3,Bu,HS,DH,Eo,HZ,List.length_set,BT,As,Az,List.length_replicate,Dp,E1,BA,DN,AQ,Ck,EP,HH,HN,HU,HO,L3];omega)|(simp(disch:=first|omega|(unfold BD;omega)) only[AP,Gx,B3,Bu,HS,DH,Eo,HZ,List.length_set,BT,As,Az,List.length_replicate,Dp,E1,BA,DN,AQ,Ck,EP,HH,HN,HU,HO,L3];done)|(simp(disch:=first|omega|(unfold BD;omega)) only[AP,Gx,B3,Bu,HS,DH,Eo,HZ,List.length_set,BT,As,Az,List.length_replicate,Dp,E1,BA,DN,AQ,Ck,EP,HH,HN,HU,HO,L3];omega)))
 refine⟨⟨a1,fun _=>trivial,fun _=>L3 _⟩,?_⟩;have hle:=J4 (H8 l) l.length 0;rw[← Vg,← Qu,a2,W5];simp only[BL,B4,Bf,AP,Aj,Dr,CS,B7];omega
theorem bT(m:Int)(l:List Int)(h:l.length≤1048576):JO (m,l)∧(Ga (m,l)=true↔RepOk (m,l)):=by
 rw[ZX,ZS]
 obtain⟨a1,a2⟩:=QZ (c:=Nu (m,l)) (f:=Qb) (p:=P9 (m,l)) l.length (H8 l) (by omega) (fun i hi=>by
  simp only[Nu,H8,fY,AP,B3,Bu,BL,B4,Et,Bf,FP,E2,BA];by_cases h0:0<i
  · rw[EP (by unfold BD;omega)]
    have e:((i:Int)-1).toNat=i-1:=by omega
    rw[e];simp[h0]
  · simp[h0]) (fun i _=>rfl) (fun i hi=>by
  unfold P9
  repeat' (first|exact trivial|assumption|decide|apply And.intro|(intro hh;(try simp(disch:=first|omega|(unfold BD;omega)) only[AP,Gx,B3,Bu,HS,DH,Eo,HZ,List.length_set,BT,As,Az,List.length_replicate,Dp,E1,BA,DN,AQ,Ck,EP,HH,HN,HU,HO,Oz,Bf,D9,FP,E2,Mn,E9,B4,BL,Et,Aj,Cf,MO,DP,Dr,KT,B7,CS,Bool.not_not] at hh))|omega|(unfold A5;simp(disch:=first|omega|(unfold BD;omega)) only[AP,Gx,B3,Bu,HS,DH,Eo,HZ,List.length_set,BT,As,Az,List.length_replicate,Dp,E1,BA,DN,AQ,Ck,EP,HH,HN,HU,HO,Oz];omega)|(simp(disch:=first|omega|(unfold BD;omega)) only[AP,Gx,B3,Bu,HS,DH,Eo,HZ,List.length_set,BT,As,Az,List.length_replicate,Dp,E1,BA,DN,AQ,Ck,EP,HH,HN,HU,HO,Oz];done)|(simp(disch:=first|omega|(unfold BD;omega)) only[AP,Gx,B3,Bu,HS,DH,Eo,HZ,List.length_set,BT,As,Az,List.length_replicate,Dp,E1,BA,DN,AQ,Ck,EP,HH,HN,HU,HO,Oz];omega)))
 refine⟨⟨fun _=>trivial,fun _=>a1⟩,?_⟩;have hle:=J4 (H8 l) l.length 0;rw[← Vg,← Qu,a2];simp only[BL,B4,Et,Bf,FP,AP,Aj,Dr,DP,CS,B7];omega
theorem UG(x:Int×List Int)(h:x.2.length≤1048576):Ll x∧JO x∧Ga x=DE x∧(DE x=true↔RepOk x):=by
 obtain⟨m,l⟩:=x;obtain⟨a1,a2⟩:=b6 m l h;obtain⟨b1,b2⟩:=bT m l h;exact⟨a1,b1,by rw[Bool.eq_iff_iff,a2,b2],a2⟩
section
set_option maxRecDepth 20000
theorem G8{n:Nat}(h:n≤1048577000):A5 n:=by unfold A5;exact D8 h (by decide)
theorem Xd(s:List UInt8)(j:Int):sGet s j=((s.getD j.toNat 0).toNat:Int):=by simp only[XQ]
theorem IZ(s:List UInt8):sRow s=s.map fun b=>((b.toNat:Nat):Int):=by simp only[Xu]
theorem j7(l:List Int):rowS l=l.map fun n=>UInt8.ofNat n.toNat:=by simp only[XV]
theorem fU(s:List UInt8):rowS (sRow s)=s:=by
 rw[IZ,j7,List.map_map]
 conv=>rhs;rw[← List.map_id s]
 apply List.map_congr_left;intro b _;simp
theorem V5(a b:List UInt8):sRow (a++b)=sRow a++sRow b:=by rw[IZ,IZ,IZ,D6]
theorem V6(a:List UInt8):(sRow a).length=a.length:=by rw[IZ,A6]
def Bz:List UInt8→Int→List (List UInt8)
 |[],_=>[[]]
 |b::r,c=>if (b.toNat:Int)=c then []::Bz r c else match Bz r c with|[]=>[[b]]|w::ws=>(b::w)::ws
theorem N3:∀ (s:List UInt8) (c:Int),(∀ b∈s,(b.toNat:Int)≠c)→Bz s c=[s]
 |[],_,_=>rfl
 | b::r,c,h=>by
   have e:=N3 r c (fun x hx=>h x (by simp[hx]))
   simp[Bz,h b (by simp),e]
theorem Ox:∀ (a:List UInt8) (b:UInt8) (r:List UInt8) (c:Int),(∀ x∈a,(x.toNat:Int)≠c)→(b.toNat:Int)=c→Bz (a++b::r) c=a::Bz r c
 |[],b,r,c,_,h=>by simp[Bz,h]
 | x::a,b,r,c,ha,h=>by
   have e:=Ox a b r c (fun y hy=>ha y (by simp[hy])) h
   simp[Bz,ha x (by simp),e]
theorem Vn{s:List UInt8}{F I:Nat}(h:F≤I)(hI:I<s.length):s.drop F=(s.drop F).take (I-F)++s.getD I 0::s.drop (I+1):=by
 rw[Cw,Ar hI,Ih]
 conv=>lhs;rw[← List.take_append_drop (I-F) (s.drop F)]
 rw[List.drop_drop,show F+(I-F)=I by omega,Ms hI]
theorem Q3(s:List UInt8)(c:Int)(h:s.length≤1048576):JM (s,c)∧Be (s,c)=Bz s c:=by
 rw[Zv,ZD]
 have key:=RM (c:=Ld (s,c)) (f:=Nq (s,c)) (p:=P7 (s,c))
  (fun st=>∃ (out:List (List UInt8)) (F I:Nat),st=(out,(F:Int),(I:Int))∧out.length≤I∧((F≤I∧I≤s.length∧(∀ b∈(s.drop F).take (I-F),(b.toNat:Int)≠c)∧Bz s c=out++Bz (s.drop F) c)∨(I=s.length+1∧Bz s c=out)))
  (fun st=>s.length+1-st.2.2.toNat) (fun st hI=>?_) (x0:=([],0,0)) ⟨[],0,0,rfl,by simp,.inl ⟨AA _,FL _,by simp,rfl⟩⟩
 · obtain⟨k1,⟨out,F,I,e,_,hh⟩,k2⟩:=key;refine⟨k1,?_⟩;rw[e] at k2 ⊢;simp only[Ld,D9,AP,CS] at k2;rcases hh with⟨_,h1,_⟩|⟨_,h1⟩
   · omega
   · exact h1.symm
 · obtain⟨out,F,I,rfl,hl,hh⟩:=hI;simp only[Ld,Nq,P7,D9,Mn,AP,Bu,BA,Eo,DH,Xd,Et,CU,B7,CS,As,Az]
   have ha:iAdd .i64 (I:Int) 1=((I+1:Nat):Int):=by
    rw[Ck (by unfold BD;rcases hh with⟨_,h1,_⟩|⟨h1,_⟩<;>omega)];rfl
   rw[ha];rcases hh with⟨hFI,hIl,hfree,hs⟩|⟨hI1,hs⟩
   · refine⟨⟨fun _=>⟨⟨fun _=>trivial,fun hne=>⟨by omega,by omega⟩⟩,fun _=>⟨⟨⟨by omega,by omega⟩,by omega,by omega⟩,G8 (by omega)⟩,fun _=>trivial⟩,fun _=>trivial⟩,fun _=>?_⟩;by_cases hlt:I<s.length
     · have hne:decide ((I:Int)=(s.length:Int))=false:=Hc (by omega);rw[hne,Bool.false_or];by_cases hc:((s.getD I 0).toNat:Int)=c
       · simp only[hc,decide_true,AE];refine⟨⟨_,I+1,I+1,rfl,by simp;omega,.inl ⟨AA _,by omega,by simp,?_⟩⟩,by simp only[BA];omega⟩;rw[hs]
         conv=>lhs;rw[Vn hFI hlt,Ox _ _ _ _ hfree hc]
         simp
       · simp only[hc,decide_false,AB,AG];refine⟨⟨_,F,I+1,rfl,by omega,.inl ⟨by omega,by omega,fun b hb=>?_,hs⟩⟩,by simp only[BA];omega⟩
         have e:(s.drop F).take (I+1-F)=(s.drop F).take (I-F)++[s.getD I 0]:=by
          rw[show I+1-F=(I-F)+1 by omega,Pc,Hn,show F+(I-F)=I by omega,Ar hlt,Cw,Ar hlt];rfl
         rw[e,CL,List.mem_singleton] at hb;rcases hb with hb|rfl
         · exact hfree b hb
         · exact hc
     · have e:I=s.length:=by omega
       subst e;simp only[decide_true,Bool.true_or,AE];refine⟨⟨_,s.length+1,s.length+1,rfl,by simp;omega,.inr ⟨rfl,?_⟩⟩,by simp only[BA];omega⟩;have e2:(s.drop F).take (s.length-F)=s.drop F:=KC (by rw[E1];exact AA _);rw[e2] at hfree ⊢;rw[hs,N3 _ _ hfree]
   · subst hI1;refine⟨⟨fun hh=>by omega,fun _=>trivial⟩,fun hh=>by omega⟩
theorem dz:Bz Ci 32=Bo:=by decide
theorem QB:NK PUnit.unit∧JV PUnit.unit=Bo:=by
 rw[aP,aI];have:=Q3 Ci 32 (by decide);rw[dz] at this;exact this
theorem Lv(k:Int):Lk k∧NG k∧Lp k=B1 k∧(B1 k).length≤5:=by
 obtain⟨n1,n2⟩:=QB;have hl:Bo.length=56:=rfl
 have hw:∀ w∈Bo,w.length≤5:=by decide
 rw[aq,ah,Qh,au,n2,NB,Ua];simp only[NY,Lt,B4,BL,Et,CU,E2,D9,Bf,FP,B3,Bu,hl];by_cases h:1≤k∧k≤56
 · have e:iSub .i64 k 1=k-1:=EP (by unfold BD;omega);rw[e];have d1:decide (1≤k)=true:=D4 h.1;have d2:decide (k≤56)=true:=D4 h.2;have d3:decide (k<1)=false:=Hc (by omega);have d4:decide (56<k)=false:=Hc (by omega);simp only[d1,d2,d3,d4];refine⟨⟨trivial,fun h=>(by cases h),fun _=>⟨n1,⟨by omega,by omega⟩,by omega⟩⟩,⟨fun h=>(by cases h),fun _=>⟨⟨⟨by first|rfl|trivial,by first|rfl|trivial⟩,trivial⟩,⟨by omega,by omega⟩,by omega⟩⟩,rfl,?_⟩;show (Bo.getD (k-1).toNat []).length≤5;rw[Cw,Ar (show (k-1).toNat<Bo.length by omega)];exact hw _ (CY _)
 · have d:(decide (1≤k)&&decide (k≤56))=false:=by
    rw[MO,CS,CS];omega
   have d':(decide (k<1)||decide (56<k))=true:=by
    rw[Cf,B7,B7];omega
   simp only[d,d'];exact⟨⟨trivial,fun _=>trivial,fun h=>(by cases h)⟩,⟨fun _=>trivial,fun h=>(by cases h)⟩,rfl,by simp⟩
def nE(m:Int)(k:Nat):Bool:=iEq (iAnd .i64 (iShr .i64 m (k:Int)) 1) 1
def fm(m:Int):Nat→List UInt8
 |0=>[]
 |k+1=>if nE m k then fm m k++[([67,83,65,71]:List UInt8).getD k 0] else fm m k
theorem Mi(m:Int):∀ k,(fm m k).length≤k
 |0=>AA _
 | k+1=>by
   unfold fm
   split
   · simp;exact Mi m k
   · exact Nat.le_succ_of_le (Mi m k)
theorem Wl(m:Int):JK m∧JL m∧Hz m=DB m∧(DB m=fm m 4∨DB m=[]):=by
 rw[Zo,Zp,Zs,Zr];by_cases h:1≤m∧m≤15
 · have d1:Dl (m,1,15)=true:=by simp only[Lt,BL,E2,D9];simp[h.1,h.2]
   have d2:bOr (iLt m 1) (iGt m 15)=false:=by simp only[Et,Bf,FP,DP,CS];omega
   have hk:∀ k:Nat,k<4→k=0∨k=1∨k=2∨k=3:=fun k hk=>by omega
   have ad:∀ k:Nat,k<4→iAdd .i64 (k:Int) 1=((k+1:Nat):Int):=fun k hk=>by rw[Ck (by unfold BD;omega)];rfl
   have sub:∀ k:Nat,k<4→lSub ([67,83,65,71]:List UInt8) k (k+1)=[([67,83,65,71]:List UInt8).getD k 0]:=fun k h4=>by
    rw[Eo];rcases hk k h4 with rfl|rfl|rfl|rfl<;>rfl
   have gt:∀ k:Nat,k<4→lGet ([[67],[83],[65],[71]]:List (List UInt8)) k []=[([67,83,65,71]:List UInt8).getD k 0]:=fun k h4=>by
    rw[B3];rcases hk k h4 with rfl|rfl|rfl|rfl<;>rfl
   have L1:=FC (c:=IC m) (f:=La m) (p:=JH m) 4 (fun k=>(fm m k,(k:Int))) (x0:=([],0)) rfl (fun k h4=>by
    have i4:iLt (k:Int) 4=true:=by rw[Bf];exact D4 (by omega)
    have len:=Mi m k;simp only[IC,La,JH,d1,i4,ad k h4,sub k h4,BL,Cb,NY,Bu,BA,As,Az];refine⟨⟨⟨fun _=>trivial,fun h=>(by cases h)⟩,fun _=>⟨by omega,fun _=>⟨⟨⟨by omega,by omega⟩,by omega,by omega⟩,by omega⟩,fun _=>trivial⟩,fun h=>(by cases h)⟩,trivial,?_⟩;rw[fm,CU,RY]
    rfl) (by
    have i4:iLt ((4:Nat):Int) 4=false:=by rw[Bf];rfl
    simp only[IC,JH,i4,BL,PK]
    exact⟨⟨⟨fun h=>(by cases h),fun _=>trivial⟩,fun h=>(by cases h),fun _=>trivial⟩,trivial⟩)
   have L2:=FC (c:=K8) (f:=Np m) (p:=Nn m) 4 (fun k=>(fm m k,(k:Int))) (x0:=([],0)) rfl (fun k h4=>by
    have i4:iLt (k:Int) (lLen ([[67],[83],[65],[71]]:List (List UInt8)))=true:=by rw[Bf,AP];exact D4 (by simp;omega)
    have len:=Mi m k;simp only[K8,Np,Nn,i4,ad k h4,gt k h4,dw,cY,Bu,BA,As,Az];refine⟨⟨fun _=>⟨⟨by omega,by omega⟩,by omega,by omega,fun _=>by omega,fun _=>trivial⟩,fun h=>(by cases h)⟩,trivial,?_⟩;rw[fm,CU,RY]
    rfl) (by
    have i4:iLt ((4:Nat):Int) (lLen ([[67],[83],[65],[71]]:List (List UInt8)))=false:=by rw[Bf,AP];rfl
    simp only[K8,Nn,i4]
    exact⟨⟨fun h=>(by cases h),fun _=>trivial⟩,trivial⟩)
   rw[L1.2,L2.2,d2];exact⟨L1.1,⟨fun h=>(by cases h),fun _=>L2.1⟩,by rw[CU];rfl,.inl rfl⟩
 · have d1:Dl (m,1,15)=false:=by
    simp only[Lt,BL,E2,D9,MO,CS];omega
   have d2:bOr (iLt m 1) (iGt m 15)=true:=by simp only[Et,Bf,FP,Cf,B7];omega
   have L1:=FC (c:=IC m) (f:=La m) (p:=JH m) 0 (fun _=>([],0)) (x0:=([],0)) rfl (fun k h=>by omega) (by
    simp only[IC,JH,d1,BL,Bool.and_false,NY]
    exact⟨⟨⟨fun _=>trivial,fun _=>trivial⟩,fun h=>(by cases h),fun _=>trivial⟩,trivial⟩)
   rw[L1.2,d2];exact⟨L1.1,⟨fun _=>trivial,fun h=>(by cases h)⟩,by rw[CU];rfl,.inr rfl⟩
theorem OI(m:Int):JK m∧JL m∧Hz m=DB m∧(DB m).length≤4:=by
 obtain⟨a,b,c,d⟩:=Wl m;refine⟨a,b,c,?_⟩;rcases d with d|d<;>rw[d]
 · exact Mi m 4
 · simp
theorem VP(sep x:List UInt8):∀ (l:List (List UInt8)),BC (l++[x]) sep=if l=[] then x else BC l sep++sep++x
 |[]=>by simp[BC,List.intercalate]
 |[a]=>by simp[BC,List.intercalate]
 | a::b::r=>by
   have:=VP sep x (b::r)
   simp only[BC,List.intercalate,BS,List.intersperse,Eu,reduceCtorEq,AG] at this ⊢
   rw[this]
   simp
theorem Rv(sep:List UInt8)(W:Nat):∀ (l:List (List UInt8)),(∀ w∈l,w.length+sep.length≤W)→(BC l sep).length≤l.length*W
 |[],_=>by simp[BC,List.intercalate]
 | [a],h=>by
   have:=h a (by simp)
   simp[BC,List.intercalate];omega
 | a::b::r,h=>by
   have i:=Rv sep W (b::r) (fun w hw=>h w (by simp[hw]))
   have:=h a (by simp)
   simp only[BC,List.intercalate,List.intersperse,Eu,BT,As] at i ⊢
   rw[Co (r.length+1) 1 W]
   omega
theorem jG(xs:List (List UInt8))(sep:List UInt8)(hl:xs.length≤1048576)(hw:∀ w∈xs,w.length+sep.length≤100):NH (xs,sep)∧Lo (xs,sep)=BC xs sep:=by
 rw[al,Z7]
 have tl:∀ k,(BC (xs.take k) sep).length≤104857600:=fun k=>by
  have h1:=Rv sep 100 (xs.take k) (fun w hw'=>hw w (I6 hw'))
  have h2:(xs.take k).length≤1048576:=by rw[Dp];omega
  exact D8 h1 (Nat.mul_le_mul h2 (AA _))
 have L:=FC (c:=Lg (xs,sep)) (f:=Nv (xs,sep)) (p:=Nt (xs,sep)) xs.length (fun k=>(sRow (BC (xs.take k) sep),(k:Int))) (x0:=([],0)) (by simp[BC,List.intercalate,IZ]) (fun k hk=>by
  have i1:iLt (k:Int) (lLen xs)=true:=by rw[Bf,AP];exact D4 (by omega)
  have ad:iAdd .i64 (k:Int) 1=((k+1:Nat):Int):=by rw[Ck (by unfold BD;omega)];rfl
  have gk:lGet xs k []=xs.getD k []:=B3 _ _ _
  have hwk:(xs.getD k []).length+sep.length≤100:=by
   rw[Cw,Ar hk];exact hw _ (CY _)
  have tk:=tl k
  have sn:BC (xs.take (k+1)) sep=if xs.take k=[] then xs.getD k [] else BC (xs.take k) sep++sep++xs.getD k []:=by
   rw[← QV xs [] hk,VP]
  simp only[Lg,Nv,Nt,i1,ad,gk,DH,Bu,BA,V6,BT];refine⟨⟨fun _=>⟨⟨fun _=>G8 (by omega),fun _=>trivial⟩,⟨by omega,by omega⟩,hk,?_⟩,fun h=>(by cases h)⟩,trivial,?_⟩
  · refine G8 ?_;rw[CU];split<;>simp only[BT,V6]<;>omega
  · rw[sn,CU,FP];rcases Mu k with rfl|h0
    · simp[IZ,BC,List.intercalate]
    · have h1:xs.take k≠[]:=fun e=>by
       have:=congrArg List.length e;rw[Dp,Az] at this;omega
      have h2:decide ((0:Int)<(k:Int))=true:=D4 (by omega)
      rw[Ad h1,h2,Ac rfl,V5,V5]) (by
  have i1:iLt (xs.length:Int) (lLen xs)=false:=by rw[Bf,AP];exact Hc (by omega)
  simp only[Lg,Nt,i1]
  exact⟨⟨fun h=>(by cases h),fun _=>trivial⟩,trivial⟩)
 rw[L.2,I3,fU];exact⟨L.1,rfl⟩
theorem Ue(x:Int×List Int)(h:x.2.length≤1048576):K9 x∧K7 x∧Lc x=Ed x∧Ed x=bSel (bNot (DE x)) [] (DB x.1++[58]++BC (x.2.map B1) [44]):=by
 obtain⟨m,K⟩:=x;obtain⟨r1,r2,r3,_⟩:=UG (m,K) h;obtain⟨m1,m2,m3,m4⟩:=OI m;rw[Y3,YW,TN,YX,r3,m3];have h:K.length≤1048576:=h
 have stp:∀ k,k<K.length→(K.take (k+1)).map B1=(K.take k).map B1++[B1 (K.getD k 0)]:=fun k hk=>by
  rw[← QV K 0 hk,D6];rfl
 have L1:=FC (c:=IA (m,K)) (f:=JD (m,K)) (p:=Nl (m,K)) K.length (fun k=>((K.take k).map B1,(k:Int))) (x0:=([],0)) (by simp) (fun k hk=>by
  have i1:iLt (k:Int) (lLen K)=true:=by rw[Bf,AP];exact D4 (by omega)
  have ad:iAdd .i64 (k:Int) 1=((k+1:Nat):Int):=by rw[Ck (by unfold BD;omega)];rfl
  have gk:lGet K k 0=K.getD k 0:=B3 _ _ _;simp only[IA,JD,Nl,i1,ad,gk,DH,Bu,BA,A6,Dp,As,Az,stp k hk]
  exact⟨⟨fun _=>⟨⟨by omega,by omega⟩,hk,(Lv _).1,G8 (by omega)⟩,fun h=>(by cases h)⟩,trivial,trivial⟩) (by
  have i1:iLt (K.length:Int) (lLen K)=false:=by rw[Bf,AP];exact Hc (by omega)
  simp only[IA,Nl,i1]
  exact⟨⟨fun h=>(by cases h),fun _=>trivial⟩,trivial⟩)
 have L2:=FC (c:=IB (m,K)) (f:=JE (m,K)) (p:=Nk (m,K)) K.length (fun k=>((K.take k).map B1,(k:Int))) (x0:=([],0)) (by simp) (fun k hk=>by
  have i1:iLt (k:Int) (lLen K)=true:=by rw[Bf,AP];exact D4 (by omega)
  have ad:iAdd .i64 (k:Int) 1=((k+1:Nat):Int):=by rw[Ck (by unfold BD;omega)];rfl
  have gk:lGet K k 0=K.getD k 0:=B3 _ _ _;obtain⟨_,c2,c3,_⟩:=Lv (K.getD k 0);simp only[IB,JE,Nk,i1,ad,gk,c3,DH,Bu,BA,A6,Dp,As,Az,stp k hk]
  exact⟨⟨fun _=>⟨⟨by omega,by omega⟩,hk,c2,G8 (by omega)⟩,fun h=>(by cases h)⟩,trivial,trivial⟩) (by
  have i1:iLt (K.length:Int) (lLen K)=false:=by rw[Bf,AP];exact Hc (by omega)
  simp only[IB,Nk,i1]
  exact⟨⟨fun h=>(by cases h),fun _=>trivial⟩,trivial⟩)
 simp only[L1.2,L2.2,I3]
 have wl:∀ w∈K.map B1,w.length+([44]:List UInt8).length≤100:=fun w hw=>by
  obtain⟨k,hk,rfl⟩:=List.mem_map.1 hw;have:=(Lv k).2.2.2;simp only[As,Az];omega
 have ln:(K.map B1).length≤1048576:=by rw[A6];exact h
 obtain⟨j1,j2⟩:=jG (K.map B1) [44] ln wl
 have jl:(BC (K.map B1) [44]).length≤104857600:=by
  refine D8 (Rv [44] 100 _ wl) ?_;exact Nat.mul_le_mul ln (AA _)
 have j3:NI (K.map B1,[44]):=by
  rw[aF,Uj];exact⟨D8 ln (by decide),D8 jl (by decide)⟩
 have j4:Lm (K.map B1,[44])=BC (K.map B1) [44]:=by rw[Z6,Um]
 simp only[j2,j4,RY,BT,As,Az];refine⟨⟨r1,fun _=>trivial,fun _=>⟨L1.1,m1,by omega,j1,by omega⟩⟩,⟨r2,fun _=>trivial,fun _=>⟨L2.1,m2,by omega,j3,by omega⟩⟩,by first|rfl|trivial,by first|rfl|trivial⟩
theorem ZW(x:Int×List Int)(h:x.2.length≤1048576):K9 x∧K7 x∧Lc x=Ed x:=let ⟨a,b,c,_⟩:=Ue x h;⟨a,b,c⟩
theorem ZV(x:Int×List Int)(h:x.2.length≤1048576):Ed x=bSel (bNot (DE x)) [] (DB x.1++[58]++BC (x.2.map B1) [44])∧True:=⟨(Ue x h).2.2.2,trivial⟩
end
section
set_option maxRecDepth 20000
theorem cJ(s:List UInt8)(c:Int)(h:s.length≤1048576):Nx (s,c)∧Fs (s,c)=Bz s c:=by
 rw[ZB,Zw]
 have key:=RM (c:=F7 (s,c)) (f:=GI (s,c)) (p:=P8 (s,c))
  (fun st=>∃ (out:List (List UInt8)) (F I:Nat),st=(out,(F:Int),(I:Int))∧out.length≤I∧F≤I∧I≤s.length∧(∀ b∈(s.drop F).take (I-F),(b.toNat:Int)≠c)∧Bz s c=out++Bz (s.drop F) c)
  (fun st=>s.length-st.2.2.toNat) (fun st hI=>?_) (x0:=([],0,0)) ⟨[],0,0,rfl,by simp,AA _,FL _,by simp,rfl⟩
 · obtain⟨k1,⟨out,F,I,e,hl,hFI,hIl,hfree,hs⟩,k2⟩:=key;rw[e] at k2 ⊢;simp only[F7,Bf,AP,CS] at k2
   have e2:I=s.length:=by omega
   subst e2;simp only[Eo,Gx,DH,Bu,BA,As,Az];have e2:(s.drop F).take (s.length-F)=s.drop F:=KC (by rw[E1];exact AA _);rw[e2] at hfree ⊢;exact⟨⟨k1,⟨by omega,hFI,AA _⟩,G8 (by omega)⟩,by rw[hs,N3 _ _ hfree]⟩
 · obtain⟨out,F,I,rfl,hl,hFI,hIl,hfree,hs⟩:=hI;simp only[F7,GI,P8,Bf,Mn,AP,Bu,BA,Eo,DH,Xd,CU,B7,CS,As,Az]
   have ha:iAdd .i64 (I:Int) 1=((I+1:Nat):Int):=by rw[Ck (by unfold BD;omega)];rfl
   rw[ha];refine⟨⟨fun hlt=>⟨⟨by omega,by omega⟩,fun _=>⟨⟨⟨by omega,by omega⟩,by omega,by omega⟩,G8 (by omega)⟩,fun _=>trivial⟩,fun _=>trivial⟩,fun hlt=>?_⟩
   have hlt:I<s.length:=by omega
   by_cases hc:((s.getD I 0).toNat:Int)=c
   · simp only[hc,AE];refine⟨⟨_,I+1,I+1,rfl,by simp;omega,AA _,by omega,by simp,?_⟩,by simp only[BA];omega⟩;rw[hs]
     conv=>lhs;rw[Vn hFI hlt,Ox _ _ _ _ hfree hc]
     simp
   · simp only[hc,AG];refine⟨⟨_,F,I+1,rfl,by omega,by omega,by omega,fun b hb=>?_,hs⟩,by simp only[BA];omega⟩
     have e:(s.drop F).take (I+1-F)=(s.drop F).take (I-F)++[s.getD I 0]:=by
      rw[show I+1-F=(I-F)+1 by omega,Pc,Hn,show F+(I-F)=I by omega,Ar hlt,Cw,Ar hlt];rfl
     rw[e,CL,List.mem_singleton] at hb;rcases hb with hb|rfl
     · exact hfree b hb
     · exact hc
theorem QA:∀ (s:List UInt8) (c:Int),(Bz s c).length≤s.length+1
 |[],_=>by simp[Bz]
 | b::r,c=>by
   have:=QA r c
   unfold Bz
   split
   · simp;omega
   · split<;>simp_all<;>omega
theorem eD(s:List UInt8)(c:Int):0<(Bz s c).length:=by
 cases s with
 |nil=>simp[Bz]
 |cons b r=>unfold Bz;split<;>(try split)<;>simp
theorem Rg:∀ (s:List UInt8) (b:UInt8),b ∉ s∨∃ x y,s=x++b::y∧b ∉ x
 |[],b=>.inl (by simp)
 | z :: r,b=>by
   by_cases h:z=b
   · subst h;exact .inr ⟨[],r,rfl,by simp⟩
   · rcases Rg r b with h1|⟨x,y,rfl,h2⟩
     · exact .inl (by simp[h1,E6 h])
     · exact .inr ⟨z::x,y,rfl,by simp[h2,E6 h]⟩
theorem Uo:∀ (s:List UInt8) (b:UInt8),b ∉ s→Lib.indexByte s b=-1
 |[],_,_=>rfl
 | z::r,b,h=>by
   have h1:z≠b:=fun e=>h (by simp[e])
   have h2:=Uo r b (fun e=>h (by simp[e]))
   unfold Lib.indexByte
   rw[Ad (by simpa using h1),h2];rfl
theorem UB:∀ (x y:List UInt8) (b:UInt8),b ∉ x→Lib.indexByte (x++b::y) b=(x.length:Int)
 |[],y,b,_=>by simp[Lib.indexByte]
 | z::x,y,b,h=>by
   have h1:z≠b:=fun e=>h (by simp[e])
   have h2:=UB x y b (fun e=>h (by simp[e]))
   rw[BS]
   unfold Lib.indexByte
   rw[Ad (by simpa using h1),h2,Ad (by simp<;>omega),As]
   try rfl
theorem jj(s:List UInt8)(b:UInt8)(h:b ∉ s):JW (s,[b])∧Bt (s,[b])=(s,[],false):=by
 have hi:C5 (s,[b])=-1:=by rw[P2];exact Uo s b h
 have ho:Hy (s,[b]):=by rw[P1];rfl
 have e:iGe (-1) 0=false:=by rw[E2];rfl
 rw[Us,Ut,TM,TL,hi,e,E8];exact⟨⟨ho,fun h=>(by cases h),fun _=>trivial⟩,rfl⟩
theorem lr(x y:List UInt8)(b:UInt8)(h:b ∉ x)(hl:(x++b::y).length≤1048576):JW (x++b::y,[b])∧Bt (x++b::y,[b])=(x,y,true):=by
 have hi:C5 (x++b::y,[b])=(x.length:Int):=by rw[P2];exact UB x y b h
 have ho:Hy (x++b::y,[b]):=by rw[P1];rfl
 have e:iGe (x.length:Int) 0=true:=by rw[E2];exact D4 (by omega)
 rw[BT,As] at hl
 have ad:iAdd .i64 (x.length:Int) (lLen [b])=((x.length+1:Nat):Int):=by
  rw[AP,Ck (by unfold BD;simp only[As,Az];omega)];rfl
 rw[Us,Ut,TM,TL,hi,e,E5];simp only[ad,Bu,BA,Eo,Gx,BT,As];refine⟨⟨ho,fun _=>⟨⟨by omega,by omega,by omega⟩,by omega,by omega,by omega⟩,fun h=>(by cases h)⟩,?_⟩
 have e1:((x++b::y).drop 0).take (x.length-0)=x:=by simp
 have e2:(x++b::y).drop (x.length+1)=y:=by
  rw[← List.drop_drop,List.drop_left];rfl
 rw[e1,e2,KC (by omega)]
theorem US(k:Nat)(h:k<56):B1 ((k:Int)+1)=Bo.getD k []:=by
 obtain⟨_,n2⟩:=QB;rw[Qh,n2]
 have e:iSub .i64 ((k:Int)+1) 1=(k:Int):=by rw[EP (by unfold BD;omega)];omega
 have d:Dl ((k:Int)+1,1,56)=true:=by
  simp only[Lt,BL,E2,D9,Aj,B7];omega
 rw[e,d,B4,CU,B3,Bu];rfl
def F2(x:List UInt8):Nat:=Bo.findIdx (· == x)
theorem XJ(x:List UInt8):F2 x≤56:=List.findIdx_le_length
theorem XB(x:List UInt8){k:Nat}(h:k<F2 x):Bo.getD k []≠x:=by
 have hl:Bo.length=56:=rfl;have h56:=XJ x
 have hk:k<Bo.length:=by omega
 have:=List.not_of_lt_findIdx h;rw[Cw,Ar hk];simpa using this
theorem XP(x:List UInt8)(h:F2 x<56):Bo.getD (F2 x) []=x:=by
 have hl:Bo.length=56:=rfl
 have hk:F2 x<Bo.length:=by omega
 have:=List.findIdx_getElem (w:=hk);rw[Cw,Ar hk];exact eq_of_beq this
theorem Qz(x:List UInt8):NP x∧NL x∧JZ x=Fz x:=by
 have hl:Bo.length=56:=rfl;have h56:=XJ x;rw[bq,bw,aZ,bE,Ua]
 have L1:=FC (c:=JP x) (f:=Li) (p:=ND) (F2 x) (fun k=>(k:Int)+1) (x0:=1) rfl (fun k hk=>by
  have i1:iLe ((k:Int)+1) 56=true:=by rw[D9];exact D4 (by omega)
  have i2:sEq (B1 ((k:Int)+1)) x=false:=by rw[US k (by omega),Pm];simpa using XB x hk
  simp only[JP,Li,ND,i1,i2,BL,B4]
  exact⟨⟨fun _=>(Lv _).1,fun h=>(by cases h)⟩,rfl,by rw[Ck (by unfold BD;omega)];simp⟩) (by
  simp only[JP,ND,BL,B4];refine⟨⟨fun _=>(Lv _).1,fun _=>trivial⟩,?_⟩;rcases A3 (F2 x) 56 with h|h
  · rw[US _ h,XP x h,Pm];simp
  · have i1:iLe ((F2 x:Int)+1) 56=false:=by rw[D9];exact Hc (by omega)
    rw[i1];rfl)
 have L2:=FC (c:=JN x) (f:=Lj) (p:=NF) (F2 x) (fun k=>(k:Int)) (x0:=0) rfl (fun k hk=>by
  have i2:sEq (lGet Bo k []) x=false:=by rw[B3,Pm];simpa using XB x hk
  simp only[JN,Lj,NF,NB,Bu,BA,i2,BL,B4,Bf,AP,hl]
  exact⟨⟨fun _=>⟨⟨by omega,by omega⟩,by omega⟩,fun _=>trivial⟩,by simp;omega,by rw[Ck (by unfold BD;omega)];simp⟩) (by
  simp only[JN,NF,NB,Bu,BA,BL,B4,Bf,AP,hl,B3,Pm,B7];refine⟨⟨fun h=>⟨⟨by omega,by omega⟩,by omega⟩,fun _=>trivial⟩,?_⟩;rcases A3 (F2 x) 56 with h|h
  · rw[XP x h];simp
  · simp;omega)
 rw[L1.2,L2.2];refine⟨L1.1,⟨⟨⟨by first|rfl|trivial,by first|rfl|trivial⟩,trivial⟩,L2.1⟩,?_⟩;rw[NB,Bf,D9,AP,hl,CU,CU,Ck (by unfold BD;omega)];rcases A3 (F2 x) 56 with h|h
 · rw[Ac (D4 (by omega)),Ac (D4 (by omega))]
 · rw[Ad (by simp;omega),Ad (by simp;omega)]
theorem bL(x:List UInt8):Nw x∧Nz x∧F8 x=CQ x:=by
 have ec:Le x=ID x:=by
  funext m;simp only[Le,ID,(OI m).2.2.1]
 have ef:Nr=IE:=rfl
 have key:∀ {p:Int→Prop},(∀ m,p m)→LoopOk (ID x) IE p 1:=fun hp=>
  (RM (fun st=>1≤st∧st≤16) (fun st=>(16-st).toNat) (fun st hI=>⟨hp st,fun hc=>by
   simp only[ID,BL,D9,Aj,B7] at hc;rw[show IE st=st+1 by unfold IE;exact Ck (by unfold BD;omega)]
   omega⟩) (by omega)).1
 rw[ZG,ZH,Zy,ZM,ec,ef];exact⟨key fun m=>⟨fun _=>(OI m).1,fun _=>trivial⟩,key fun m=>⟨fun _=>(OI m).2.1,fun _=>trivial⟩,rfl⟩
theorem Yn(m:Int):∀ k,k≤4→(58:UInt8) ∉ fm m k
 |0,_=>by simp[fm]
 | k + 1,h=>by
   have i:=Yn m k (by omega)
   unfold fm
   split
   · rw[CL,List.mem_singleton]
     rintro(h1|h1)
     · exact i h1
     · rcases (show k=0∨k=1∨k=2∨k=3 by omega) with rfl|rfl|rfl|rfl<;>exact absurd h1 (by decide)
   · exact i
theorem Xn{b:UInt8}{sep:List UInt8}(hs:b ∉ sep):∀ (l:List (List UInt8)),(∀ w∈l,b ∉ w)→b ∉ BC l sep
 |[],_=>by simp[BC,List.intercalate]
 |[a],h=>by simpa [BC,List.intercalate] using h a (by simp)
 | a::c::r,h=>by
   have i:=Xn hs (c::r) (fun w hw=>h w (by simp[hw]))
   have:=h a (by simp)
   simp only[BC,List.intercalate,List.intersperse,Eu,CL] at i ⊢
   rintro(h1|h1|h1)
   · exact this h1
   · exact hs h1
   · exact i h1
end
section
set_option maxRecDepth 20000
theorem Yc{y c:UInt8}(h:y≠c):((y.toNat:Nat):Int)≠((c.toNat:Nat):Int):=fun e=>h (UInt8.toNat_inj.1 (by omega))
theorem Vf{x:List UInt8}(h:(58:UInt8) ∉ x):Bz x 58=[x]:=N3 x 58 fun b hb=>Yc (c:=58) fun e=>h (e▸hb)
theorem QL{a b:List UInt8}(h:(58:UInt8) ∉ a):Bz (a++58::b) 58=a::Bz b 58:=Ox a 58 b 58 (fun y hy=>Yc (c:=58) fun e=>h (e▸hy)) rfl
def Dc(b:List UInt8):List Int:=if b=[] then [] else (Bz b 44).map Fz
theorem ia(b:List UInt8):(Dc b).length≤b.length+1:=by
 unfold Dc;split
 · simp
 · rw[A6];exact QA b 44
theorem kJ(m:Int):(58:UInt8) ∉ DB m:=by
 rcases (Wl m).2.2.2 with e|e<;>rw[e]
 · exact Yn m 4 (AA _)
 · simp
theorem kH(k:Int):(58:UInt8) ∉ B1 k:=by
 obtain⟨_,n2⟩:=QB
 have hw:∀ w∈Bo,(58:UInt8) ∉ w:=by decide
 rw[Qh,n2,CU];split
 · simp
 · rw[B3,Cw];rcases A3 (iNat (iSub .i64 k 1)) Bo.length with h|h
   · rw[Ar h];exact hw _ (CY _)
   · rw[AY h];simp
theorem eZ(x:Int×List Int)(h:x.2.length≤1048576)(hv:DE x=true):∃ a b,Ed x=a++58::b∧(58:UInt8) ∉ a∧(58:UInt8) ∉ b:=by
 obtain⟨f,g⟩:=ZV x h;rw[hv,B4,ME,E8] at f;refine⟨DB x.1,BC (x.2.map B1) [44],?_,kJ _,Xn (by decide) _ fun w hw=>?_⟩
 · rw[f];simp
 · obtain⟨k,_,rfl⟩:=List.mem_map.1 hw;exact kH k
theorem U5 {c:Int×List Int→Bool} {f:Int×List Int→Int×List Int} {p:Int×List Int→Prop} {g:List UInt8→Int} (L:List (List UInt8)) (hl:L.length≤1048577) (hg:∀ w,g w=Fz w)
 (hc:∀ i l,c (i,l)=iLt i (lLen L)) (hf:∀ i l,f (i,l)=(iAdd .i64 i 1,lApp l [g (lGet L (iNat i) [])]))
 (hp:∀ (i:Nat) l,l.length=i→i≤L.length→(i<L.length→p ((i:Int),l))∧(i=L.length→p ((i:Int),l))):LoopOk c f p (0,[])∧(AF c f (0,[])).2=L.map Fz:=by
 have:=FC (c:=c) (f:=f) (p:=p) L.length (fun k=>((k:Int),(L.take k).map Fz)) (x0:=(0,[])) (by simp) (fun k hk=>by
  refine⟨(hp k _ (by simp;omega) (by omega)).1 hk,by rw[hc,Bf,AP];exact D4 (by omega),?_⟩;rw[hf,hg,DH,B3,Bu,Ck (by unfold BD;omega),← QV L [] hk,D6]
  rfl) ⟨(hp L.length _ (by simp) (AA _)).2 rfl,by rw[hc,Bf,AP];exact Hc (by omega)⟩
 refine⟨this.1,?_⟩
 rw[this.2,I3]
theorem aO(x:List UInt8)(h:x.length≤1048576):Ns x∧Lb x∧A0 x=Cz x∧(Cz x).1.2.length≤1048576:=by
 obtain⟨s1,s2⟩:=Q3 x 58 h;rw[Zf,Zc,Zg,Ze];rcases Rg x 58 with hno|⟨a,b,rfl,ha⟩
 · obtain⟨c1,c2⟩:=jj x 58 hno
   have e1:iNe (lLen ([x]:List (List UInt8))) 2=true:=by rw[E9,AP];rfl
   simp only[s2,Vf hno,c2,e1,B4,E5,Bool.not_false];exact⟨⟨s1,fun _=>trivial,fun h=>(by cases h)⟩,⟨c1,fun _=>trivial,fun h=>(by cases h)⟩,trivial,by simp⟩
 · obtain⟨c1,c2⟩:=lr a b 58 ha h
   have hab:a.length+b.length+1≤1048576:=by rw[BT,As] at h;omega
   have hK:=ia b;obtain⟨m1,m2,m3⟩:=bL a
   have kl:(CQ a,Dc b).2.length≤1048576:=by show (Dc b).length≤_;omega
   obtain⟨f1,f2,f3⟩:=ZW (CQ a,Dc b) kl;obtain⟨i1,i2,i3,_⟩:=UG (CQ a,Dc b) kl;obtain⟨p1,p2⟩:=cJ b 44 (by omega);obtain⟨q1,q2⟩:=Q3 b 44 (by omega);have hL:=QA b 44
   have L2:=U5 (c:=F5 (a++58::b)) (f:=F6 (a++58::b)) (p:=P6 (a++58::b)) (g:=JZ) (Bz b 44) (by omega) (fun w=>(Qz w).2.2)
    (fun i l=>by simp only[F5,c2,p2]) (fun i l=>by simp only[F6,c2,p2]) (fun i l hl hi=>by
     simp only[P6,c2,p2,Bf,AP,Bu,BA,B7,CS,As,Az]
     exact⟨fun h1=>⟨fun _=>⟨⟨by omega,by omega⟩,h1,(Qz _).2.1,G8 (by omega)⟩,fun _=>trivial⟩,fun h1=>⟨fun h2=>by omega,fun _=>trivial⟩⟩)
   have eK:bSel (sNe b []) (Bz b 44 |>.map Fz) []=Dc b:=by
    unfold Dc;rw[SY,CU];by_cases hb:b=[]
    · simp[hb]
    · have:(!(b == []))=true:=by simpa using hb
      rw[this,Ad hb];rfl
   have okI:JW (a++58::b,[58])∧((bNot (Bt (a++58::b,[(58:UInt8)])).2.2)=true→True):=⟨c1,fun _=>trivial⟩;simp only[c2,L2.2,eK,m3,B4,ME,E8,i3,f3];by_cases hb:(58:UInt8)∈b
   ·
    obtain⟨c,d,rfl,hc⟩:∃ c d,b=c++58::d∧(58:UInt8) ∉ c:=(Rg b 58).resolve_left (fun hn=>hn hb)
    have e3:Bz (a++58::(c++58::d)) 58=a::c::Bz d 58:=by rw[QL ha,QL hc]
    have e1:iNe (lLen (a::c::Bz d 58)) 2=true:=by
     have:=eD d 58;rw[E9,AP,As,As];simp;omega
    have e4:bOr (!DE (CQ a,Dc (c++58::d))) (sNe (Ed (CQ a,Dc (c++58::d))) (a++58::(c++58::d)))=true:=by
     rw[Et]
     cases hv:DE (CQ a,Dc (c++58::d)) with
     |false=>rfl
     | true=>
       obtain⟨y,z,g1,g2,g3⟩:=eZ _ kl hv
       have:Ed (CQ a,Dc (c++58::d))≠a++58::(c++58::d):=fun e=>by
        have:=congrArg (List.count (58:UInt8)) (g1.symm.trans e);simp only[List.count_append,List.count_cons_self,List.count_eq_zero.2 g2,List.count_eq_zero.2 g3,List.count_eq_zero.2 ha,List.count_eq_zero.2 hc] at this;omega
       rw[SY];simpa using this
    simp only[s2,e3,e1,e4,E5];refine⟨⟨s1,fun _=>trivial,fun h=>(by cases h)⟩,⟨c1,fun h=>(by cases h),fun _=>⟨m2,⟨fun _=>⟨p1,L2.1⟩,fun _=>trivial⟩,i2,fun _=>trivial,fun _=>f2⟩⟩,trivial,by simp⟩
   ·
    have e3:Bz (a++58::b) 58=[a,b]:=by rw[QL ha,Vf hb]
    have e1:iNe (lLen ([a,b]:List (List UInt8))) 2=false:=by rw[E9,AP];rfl
    have g0:lGet ([a,b]:List (List UInt8)) (iNat 0) []=a:=by rw[B3,Bu];rfl
    have g1:lGet ([a,b]:List (List UInt8)) (iNat 1) []=b:=by rw[B3,Bu];rfl
    have L1:=U5 (c:=JF (a++58::b)) (f:=JG (a++58::b)) (p:=P5 (a++58::b)) (g:=Fz) (Bz b 44) (by omega) (fun w=>rfl)
     (fun i l=>by simp only[JF,s2,e3,g1,q2]) (fun i l=>by simp only[JG,s2,e3,g1,q2]) (fun i l hl hi=>by
      simp only[P5,s2,e3,g1,q2];simp only[Bf,AP,Bu,BA,B7,CS,As,Az]
      exact⟨fun h1=>⟨fun _=>⟨⟨by omega,by omega⟩,h1,(Qz _).1,G8 (by omega)⟩,fun _=>trivial⟩,fun h1=>⟨fun h2=>by omega,fun _=>trivial⟩⟩)
    have e4:bOr (!DE (CQ a,Dc b)) (sNe (Ed (CQ a,Dc b)) (a++58::b))=sNe (Ed (CQ a,Dc b)) (a++58::b):=by
     rw[Et]
     cases hv:DE (CQ a,Dc b) with
     |true=>rfl
     | false=>
       have:Ed (CQ a,Dc b)=[]:=by rw[TN,hv,B4];exact E5 _ _
       rw[this,SY];simp
    have n0:iNat 0<2:=by rw[Bu];decide
    have n1:iNat 1<2:=by rw[Bu];decide
    simp only[s2,e3,e1,e4,g0,g1,E8,L1.2,eK,As,Az];refine⟨⟨s1,fun h=>(by cases h),fun _=>⟨⟨by omega,by omega⟩,n0,m1,⟨⟨by omega,by omega⟩,n1,fun _=>⟨⟨by omega,by omega⟩,n1,q1,L1.1⟩,fun _=>trivial⟩,f1⟩⟩,⟨c1,fun h=>(by cases h),fun _=>⟨m2,⟨fun _=>⟨p1,L2.1⟩,fun _=>trivial⟩,i2,fun _=>trivial,fun _=>f2⟩⟩,trivial,?_⟩;rw[CU];split
    · simp
    · exact kl
theorem YU(x:List UInt8)(hw:TuX.wf EO.h x):Ni x∧Nj x=true:=by
 rw[YP,YQ];by_cases hx:x.length≤1048576
 · have hg:iGt (lLen x) 1048576=false:=by rw[FP,AP];simp;omega
   obtain⟨r1,r2,r3,r4⟩:=aO x hx;rw[r3];have hsm:J9 (Cz x).1:=⟨r4,trivial⟩;obtain⟨q1,q2⟩:=nG _ hsm;obtain⟨n1,⟨n2,n3⟩,n4,n5⟩:=gY _ hsm 1 (by omega) (by omega)
   have c2:iLt (B0 (Cz x).1 1).2 0=false:=by rw[Bf];simp;omega
   simp only[hg,r1,r2,q1,q2,n1,n4,n5,c2];simp[Et,BL,B4,RV,E9]
   all_goals exact n1
 · have hg:iGt (lLen x) 1048576=true:=by rw[FP,AP];simp;omega
   simp only[hg];simp[Et]
end
end
end Go.Ag
