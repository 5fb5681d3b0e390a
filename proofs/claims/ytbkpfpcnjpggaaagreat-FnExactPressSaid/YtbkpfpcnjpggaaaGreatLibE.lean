/- Part 5 of what FnExactPress needs. No conditions. -/
import Derived.WalkKit
import Derived.ProofKit
import Derived.OpenShut
import Derived.Carry
import Derived.ChangeSame
import Derived.Attr
import Derived.KernelRfl
import Derived.Test.YtbkpfpcnjpggaaaGreatLibD
namespace Go.Ag
set_option linter.unusedSimpArgs false
set_option linter.unusedVariables false
noncomputable section
theorem Ze4(v:DV):v.enc.isAgg=v.isAgg:=by cases v<;>rfl
theorem ko{v:DV}(h:v.flatc=true):v.enc.flatc=true/\∀q es,v.enc≠.sl q es:=by cases v<;>first|(cases h;done)|exact⟨rfl,λ_ _ h=>(by cases h)⟩
theorem ZeS{s:PS}{hd:Hd}{c:Nat}{v:PV}{os as:List PV}(h:v.flatc=true)(b:Jd s hd (c+1) os as):Jd s hd c (v::os) (v::as):=by
 cases v<;>first|exact⟨rfl,h,b⟩|(cases h;done)
theorem MN{d:DS}{s:PS}(hs:ES d s){hd:Hd}:∀(i:List DV) (c:Nat) {g:PX} {os:List DV},EM d hd c i=some (g,os)->g.den->Jd s hd c (DV.d6 os) (DV.d6 i)
 | [],c,g,os,h,_=>by
   simp only[EM,Ao,An]at h;rw[<- h.2];trivial
 | v :: i,c,g,os,h,b=>by
   have D:v.flatc=true->(match EM d hd (c+1) i with|some (g,os)=>some (g,v::os)|none=>none)=some (g,os)->Jd s hd c (DV.d6 os) (DV.d6 (v::i)):=by
    intro I h;cases h1:EM d hd (c+1) i with
    |none=>rw[h1]at h;cases h
    | some r=>
      obtain⟨G,x⟩:=r;rw[h1]at h;simp only[Ao,An]at h;obtain⟨rfl,rfl⟩:=h;exact ZeS (ko I).1 (MN hs i (c+1) h1 b)
   have z:(if v.flatc=true then (match EM d hd (c+1) i with|some (g,os)=>some (g,v::os)|none=>none)else none)=some (g,os)->Jd s hd c (DV.d6 os) (DV.d6 (v::i)):=by
    intro h;split at h
    ·exact D (by assumption) h
    cases h
   cases v with
   | sl q r l=>
     simp only[EM]at h;split at h
     ·rename_i n;have n:q= .g_ hd [c] true:=(by simpa [D5]using n);subst n;cases h1:EM d hd (c+1) i with
      |none=>rw[h1]at h;split at h<;>simp_all
      | some r=>
        obtain⟨G,x⟩:=r;rw[h1]at h;have C:Cc d hd [c]≠.any:=(by intro e;rw[e]at h;cases h);have A:=Hu hs hd [c] C;split at h
        ·rename_i r' l' F t u j;simp only[Ao,An]at h j;obtain⟨rfl,rfl⟩:=h;obtain⟨rfl,rfl⟩:=j;have b:=(PX.m_ _ _).mp b;have y:l.length=l'.length:=b.1;refine⟨rfl,⟨.own,by rw[A,u];rfl,_,.inl ⟨rfl,rfl⟩,?_⟩,MN hs i (c+1) h1 b.2⟩;rw[Bd,Bd];exact y
        ·rename_i F t u j;simp only[Ao,An]at h j;obtain⟨rfl,rfl⟩:=h;obtain⟨rfl,rfl⟩:=j;have b:=(PX.m_ _ _).mp b;have y:l.length=0:=b.1;refine⟨rfl,⟨.own,by rw[A,u];rfl,_,.inl ⟨rfl,rfl⟩,?_⟩,MN hs i (c+1) h1 b.2⟩;rw[Bd];exact y
        cases h
     split at h
     ·rename_i n;have n:q= .pre hd [c]:=(by simpa [D5]using n);subst n;cases h1:EM d hd (c+1) i with
      |none=>rw[h1]at h;split at h<;>simp_all
      | some r=>
        obtain⟨G,x⟩:=r;rw[h1]at h;have C:Cc d hd [c]≠.any:=(by intro e;rw[e]at h;cases h);have A:=Hu hs hd [c] C;split at h
        ·rename_i w r' l' F t u j;simp only[Ao,An]at h j;obtain⟨rfl,rfl⟩:=h;obtain⟨rfl,rfl⟩:=j;have b:=(PX.m_ _ _).mp b;have y:l.length=l'.length:=b.1;refine⟨rfl,⟨.i6 w,by rw[A,u];rfl,_,.inr ⟨⟨w,rfl⟩,rfl⟩,?_⟩,MN hs i (c+1) h1 b.2⟩;rw[Bd,Bd];exact y
        cases h
     cases h
   | nil q=>
     simp only[EM]at h;split at h
     ·rename_i n;have n:q= .g_ hd [c] true:=(by simpa [D5]using n);subst n;cases h1:EM d hd (c+1) i with
      |none=>rw[h1]at h;split at h<;>simp_all
      | some r=>
        obtain⟨G,x⟩:=r;rw[h1]at h;have C:Cc d hd [c]≠.any:=(by intro e;rw[e]at h;cases h);have A:=Hu hs hd [c] C;split at h
        ·rename_i r' l' F t u j;simp only[Ao,An]at h j;obtain⟨rfl,rfl⟩:=h;obtain⟨rfl,rfl⟩:=j;have b:=(PX.m_ _ _).mp b;have y:l'.length=0:=b.1;refine⟨rfl,⟨.own,by rw[A,u];rfl,_,.inl ⟨rfl,rfl⟩,?_⟩,MN hs i (c+1) h1 b.2⟩;rw[Bd];exact y.symm
        ·rename_i F t u j;simp only[Ao,An]at h j;obtain⟨rfl,rfl⟩:=h;obtain⟨rfl,rfl⟩:=j;exact⟨rfl,⟨.own,by rw[A,u];rfl,_,.inl ⟨rfl,rfl⟩,rfl⟩,MN hs i (c+1) h1 b⟩
        cases h
     cases h
   |_=>exact z h
def DV.flag:List DV->Prop
 |[]=>True|.sl q _ _::r=>q= .own/\DV.flag r|_::r=>DV.flag r
theorem ca:∀(r:RT) (x:r.D),r.pl=true->DV.flag (r.dv .own x)
 |.one t,x,h=>by cases t<;>first|trivial|(cases h;done)|exact⟨rfl,trivial⟩
 | .cons t r,x,h=>by
   rw[RT.pl,Ai]at h;obtain⟨h,b⟩:=h;cases t<;>first|(cases h;done)|exact⟨rfl,ca r x.2 b⟩|exact ca r x.2 b
theorem S0{hd:Hd}{D':DS}{K:PS->Prop}(i:∀u,ES D' u->K u):∀(b:List DV) (c:Nat) {d:DS} {s:PS},ES d s->Je hd c b d=some D'->DV.flag b->OC hd c (DV.d6 b) K s
 | [],c,d,s,hs,h,_=>by
   simp only[Je,Ao]at h;subst h;exact i _ hs
 | v :: b,c,d,s,hs,h,g=>by
   cases v with
   | sl q r l=>
     simp only[Je]at h;have n:Cc d hd [c]≠.any:=(by intro e;rw[e]at h;cases h);have t:=Hu hs hd [c] n;obtain⟨rfl,g⟩:=g;split at h
     ·rename_i j;exact⟨.own,_,rfl,by rw[t,j];rfl,S0 i b (c+1) (Mn hs hd [c] (.sl .own r l) n) h g⟩
     ·rename_i j;exact⟨.own,_,rfl,by rw[t,j];rfl,S0 i b (c+1) (Mn hs hd [c] (.sl .own r l) n) h g⟩
     ·rename_i w _ _ j;exact⟨.i6 w,_,rfl,by rw[t,j];rfl,S0 i b (c+1) (Mn hs hd [c] (.sl (.i6 w) r l) n) h g⟩
     cases h
   |nil q=>cases h
   |_=>exact S0 i b (c+1) hs h g
theorem b9:∀(r:RT) (x y:r.D),r.pl=true->M6 (RT.enc r x) (RT.enc r y)
 |.one t,x,y,h=>by cases t<;>first|(cases h;done)|exact⟨⟨_,rfl⟩,trivial⟩|exact⟨λ_ _ h=>(by cases h),trivial⟩
 | .cons t r,x,y,h=>by
   rw[RT.pl,Ai]at h;obtain⟨h,b⟩:=h;cases t<;>first|(cases h;done)|exact⟨⟨_,rfl⟩,b9 r x.2 y.2 b⟩|exact⟨λ_ _ h=>(by cases h),b9 r x.2 y.2 b⟩
theorem lY:∀ {i:List DV} {c:Nat} {hd:Hd} {b:Nat},X6 c i=some (hd,b)->hd.sb=true
 |[],_,_,_,h=>by cases h
 | v :: i,c,hd,b,h=>by
   unfold X6 at h;split at h
   ·cases h
   ·split at h
    ·rename_i g;simp only[Ai]at g;simp only[Ao,An]at h;rw[<- h.1];exact g.2
    cases h
   ·split at h
    ·rename_i g;simp only[Ai]at g;simp only[Ao,An]at h;rw[<- h.1];exact g.2
    cases h
   rename_i h1;cases h1;exact lY h
theorem ZhQ {d d1:DS}{s:PS}(hs:ES d s){M:DMk}{x y:T_}{g:PX}{v:DV}(h:Ot M x y d=some (g,v,d1))(t:g.den){dst:Option Nat}{k:PS->Prop}(G:∀q,ES d1 q->k (q.put dst v.enc)):et M.P x y dst k s:=by
 unfold Ot at h;split at h
 ·rename_i m hm;split at h
  ·rename_i i;simp only[Ai]at i;obtain⟨i,n⟩:=i;split at h
   ·rename_i hd b I;split at h
    ·rename_i N os F;split at h
     ·rename_i z C;split at h
      ·rename_i f4 J;simp only[Ao,An]at h;obtain⟨rfl,rfl,rfl⟩:=h;have t:=(PX.m_ _ _).mp t;have D:y.t7 s.sl= .fl (.int .i64 m):=by
        have:=y.dev_ev hs;rw[hm]at this;exact this.of (by simp)
       have u:x.t7 s.sl=(x.dev d.sl).enc:=(x.dev_ev hs).of (by intro e;rw[e]at i;cases i.2);refine⟨m,hd,b,M.r.enc z,D,?_,lY I,?_,?_,⟨z,rfl,t.2,b9 _ _ _ n,?_⟩⟩
       ·rw[u,Ze4];exact eq_of_beq i.1
       ·rw[u];exact ae _ i.2
       ·rw[u,Mp,<- Te C];exact MN hs _ b F t.1
       rw[<- du];have L:M.P.vd=M.vd:=rfl;refine S0 (λq A=>?_) _ b hs J (ca _ _ n);have h:=G q A;rw[L];cases j:M.vd with
       |true=>rw[j]at h;exact h
       |false=>rw[j]at h;exact h
      cases h
     cases h
    cases h
   cases h
  cases h
 cases h
theorem Sp{hd:Hd}{D':DS}:∀(b:List DV) (c:Nat) {d:DS},Je hd c b d=some D'->d9 d D'
 | [],c,d,h=>by
   simp only[Je,Ao]at h;subst h;exact d9.refl _
 | v :: b,c,d,h=>by
   cases v with
   | sl q r l=>
     simp only[Je]at h;split at h
     ·exact(d9.y_ _ _ _ _).trans (Sp b _ h)
     ·exact(d9.y_ _ _ _ _).trans (Sp b _ h)
     ·exact(d9.y_ _ _ _ _).trans (Sp b _ h)
     cases h
   |nil q=>cases h
   |_=>exact Sp b _ h
theorem ZeY{d d1:DS}{M:DMk}{x y:T_}{g:PX}{v:DV}(h:Ot M x y d=some (g,v,d1)):d9 d d1:=by
 unfold Ot at h;repeat' split at h
 all_goals first|(cases h;done)|skip
 all_goals
  simp only[Ao,An]at h;obtain⟨_,_,rfl⟩:=h;exact Sp _ _ (by assumption)
theorem ot:∀ {t:CT} {v:DV} {x:t.D},t.ofA v=some x->v.enc.fz=(t.enc x).fz
 | .int k,.int k' n,x,h=>by
   have h:(if k=k' then some n else none)=some x:=h;by_cases g:k=k'
   ·rw[Ac g]at h;cases h;subst g;rfl
   rw[Ae g]at h;cases h
 |.bool,.bool b,x,h=>by cases h;rfl
 |.str,.str s,x,h=>by cases h;rfl
 |.ifc,.ifc b,x,h=>by cases h;rfl
 |.sl r,.nil q,x,h=>by cases h;rfl
 | .sl r,.sl q r' l,x,h=>by
   have h:HP (r':=r') (r:=r) l=some x:=h;obtain⟨rfl,h⟩:=NV h;show PV.sl .Z' _=PV.sl .Z' _;rw[h]
 |.slf r,.nil q,x,h=>by cases h;rfl
 | .slf r,.sl q r' l,x,h=>by
   have h:HP (r':=r') (r:=r) l=some x:=h;obtain⟨rfl,h⟩:=NV h;show PV.sl .Z' _=PV.sl .Z' _;rw[h]
theorem oY:∀ {r:RT} {g:List DV} {x:r.D},r.ofA g=some x->PV.fzL (DV.d6 g)=PV.fzL (RT.enc r x)
 |.one t,[v],x,h=>by simp only[DV.d6,RT.enc,PV.fzL,ot (t:=t) h]
 | .cons t r,v::g,x,h=>by
   have h':(match t.ofA v,r.ofA g with|some x,some y=>some (x,y)|_,_=>none)=some x:=h;split at h'
   ·rename_i a b h1 i;cases h';simp only[DV.d6,RT.enc,PV.fzL,ot h1,oY i]
   cases h'
theorem ZhH{r:RT}{l:List r.D}{idx:List Nat}(h:∀i∈idx,i<l.length):idx.map (Bo (l.map (RT.enc r)))=(idx.map λi=>l.getD i r.dflt).map (RT.enc r):=by
 rw[List.map_map];exact List.map_congr_left λi hi=>Lq r l i (h i hi)
theorem Zjp{d d1:DS}{s:PS}(hs:ES d s){M:DTk}{x y:T_}{g:PX}{v:DV}(h:OQ M x y d=some (g,v,d1))(L:g.den){dst:Option Nat}{k:PS->Prop}(J:∀n,ES d1 n->k (n.put dst v.enc)):eY M.P x y dst k s:=by
 unfold OQ at h;split at h
 ·rename_i t cs G;split at h
  ·rename_i l0 a b O;obtain⟨l,rfl⟩:∃l:List M.row.D,l=l0:=⟨l0,rfl⟩;split at h
   ·rename_i u;simp only[Ai,Bq]at u;simp only[Ao,An]at h;obtain⟨rfl,rfl,rfl⟩:=h;obtain⟨⟨h1,U⟩,R⟩:=u;have A:M.ok a l:=L;obtain⟨F,q,C⟩:=M.law a l A;have j:x.t7 s.sl=(DV.agg cs).enc:=by
     have:=x.dev_ev hs;rw[G]at this;exact this.of (by simp)
    have Y:Aa s.sl t= .sl .own (l.map (RT.enc M.row)):=by
     have h0:=(T_.t t).dev_ev hs;have I:Br d.sl t≠.any:=(by intro e;rw[e]at b;cases b);rw[show Aa s.sl t=(Br d.sl t).enc from h0.of I,eA b];rfl
    refine⟨t,_,rfl,Y,by rw[j];exact ae _ h1,by rw[j,RZ];exact U,(ID _ _).2 λe N=>?_,Df R,⟨a,l,?_,rfl,A,⟨F,λi hi=>by rw[Bd];exact q i hi⟩,?_⟩⟩
    ·obtain⟨z,_,rfl⟩:=List.mem_map.1 N;exact Lx M.row z
    ·rw[j];show PV.nrm (.agg (PV.fzL (DV.d6 cs)))=PV.nrm (.agg (PV.fzL (RT.enc M.ra a)));rw[oY O]
    have Z:(DV.sl .own M.row (M.val a l)).enc= .sl .own ((M.sel a l).map (Bo (l.map (RT.enc M.row)))):=by
     show PV.sl .own ((M.val a l).map (RT.enc M.row))=_;rw[ZhH q,C]
    rw[<- Z];exact J _ ⟨(hs.sl.put t (.inl rfl)).clr _,hs.bx,hs.hp⟩
   cases h
  cases h
 cases h
theorem ZgG{d d1:DS}{M:DTk}{x y:T_}{g:PX}{v:DV}(h:OQ M x y d=some (g,v,d1)):d9 d d1:=by
 unfold OQ at h;repeat' split at h
 all_goals first|(cases h;done)|skip
 simp only[Ao,An]at h;obtain⟨_,_,rfl⟩:=h;exact⟨(Chg.put _ _ _).trans (Chg.clr _ _),j_.refl _,j_.refl _⟩
theorem ZgV{v:DV}{r:Hd×Nat}(h:v.hld=some r):v≠.any/\v.enc.hld=some r:=by
 cases v<;>first|(cases h;done)|exact⟨by simp,h⟩
theorem Zgz{a:DV}{n:Nat}{d d1:DS}{s:PS}{g:PX}{v:DV}(hs:ES d s)(h:On a n d=some (g,v,d1))(t:g.den):∃b,XS a.enc n s=some b/\ES d1 b:=by
 unfold On at h;split at h
 ·rename_i i o;obtain⟨b,q,j⟩:=ZE (p:=.box i o) hs (.inr rfl) h;refine⟨b,?_,j⟩;show (IF true i (some n) (.box i o) s).map (·.2)=some b;rw[q];rfl
 ·rename_i i o;obtain⟨b,q,j⟩:=ZG (p:=.ptr i o) hs (.inr rfl) h t;refine⟨b,?_,j⟩;show (IG true (some n) (.ptr i o) s).map (·.2)=some b;rw[q];rfl
 cases h
theorem Zcp{a:DV}{n:Nat}{d d1:DS}{g:PX}{v:DV}(h:On a n d=some (g,v,d1)):d9 d d1:=by
 unfold On at h;split at h
 ·exact ZW h
 ·exact Z7 h
 cases h
theorem N7{d:DS}{s:PS}(hs:ES d s){hd:Hd}:∀(g:List DV) (c:Nat) {n:List DV},LL d hd c g=some n->Tq s hd c (DV.d6 g) (DV.d6 n)
 | [],c,n,h=>by
   simp only[LL,Ao]at h;subst h;trivial
 | v :: g,c,n,h=>by
   have u:(if v.flatc then (match LL d hd (c+1) g with|some os=>some (v::os)|none=>none)else none)=some n->Tq s hd c (DV.d6 (v::g)) (DV.d6 n):=by
    intro h;split at h
    ·rename_i A;split at h
     ·rename_i os h1;cases h;exact⟨.inl ⟨rfl,λes e=>absurd e ((ko A).2 _ _)⟩,N7 hs g (c+1) h1⟩
     cases h
    cases h
   cases v with
   | sl q r l=>
     simp only[LL]at h;have x:Cc d hd [c]≠.any:=(by intro e;rw[e]at h;cases h);have t:=Hu hs hd [c] x;split at h
     ·rename_i j h1;cases h;exact⟨.inl ⟨rfl,λ_ _=>⟨_,by rw[t,j];rfl⟩⟩,N7 hs g (c+1) h1⟩
     ·rename_i j h1;cases h;exact⟨.inl ⟨rfl,λ_ _=>⟨_,by rw[t,j];rfl⟩⟩,N7 hs g (c+1) h1⟩
     ·rename_i w r' l' os j h1;split at h
      ·rename_i y;simp only[Ai]at y;cases h;have z:q= .own:=(by simpa [D5]using y.2);subst z;obtain⟨i,rfl⟩:∃i,hd= .b i:=(by cases hd<;>first|exact⟨_,rfl⟩|cases y.1);exact⟨.inr ⟨w,_,i,⟨_,rfl⟩,by rw[t,j];rfl,rfl,rfl⟩,N7 hs g (c+1) h1⟩
      cases h
     cases h
   | nil q=>
     simp only[LL]at h;have x:Cc d hd [c]≠.any:=(by intro e;rw[e]at h;cases h);have t:=Hu hs hd [c] x;split at h
     ·rename_i j h1;cases h;exact⟨.inl ⟨rfl,λ_ _=>⟨_,by rw[t,j];rfl⟩⟩,N7 hs g (c+1) h1⟩
     ·rename_i j h1;cases h;exact⟨.inl ⟨rfl,λ_ _=>⟨_,by rw[t,j];rfl⟩⟩,N7 hs g (c+1) h1⟩
     cases h
   |_=>exact u h
theorem Zib{a:T_}{t:Nat}{d d1:DS}{s:PS}{g:PX}(hs:ES d s)(h:OL a t d=some (g,d1))(i:g.den){K:PS->Prop}(F:∀y,ES d1 y->K y):eS a t K s:=by
 unfold OL at h;split at h
 ·rename_i hd b cs J I;have ht:=hs.sl.get t;rw[I]at ht;have ht:=ht.of (by simp);have j:=a.dev_ev hs;obtain⟨q,n⟩:=ZgV J;have j:=j.of q;cases x:EM d hd b cs with
  |none=>rw[x]at h;cases h
  | some r=>
    obtain⟨M,os⟩:=r;rw[x]at h;simp only at h;cases u:On (a.dev d.sl) os.length d with
    |none=>rw[u]at h;cases h
    | some r=>
      obtain⟨L,w,N⟩:=r;rw[u]at h;simp only at h;split at h
      ·rename_i z G;simp only[Ao,An]at h;obtain⟨rfl,rfl⟩:=h;have i:=(PX.m_ _ _).mp i;obtain⟨A,D,C⟩:=Zgz hs u i.2;refine⟨hd,b,DV.d6 os,DV.d6 z,A,by rw[j];exact n,by rw[ht];rfl,?_,N7 hs os b G,?_,F _ (C.put (some t) (.agg z))⟩
       ·rw[ht];exact MN hs cs b x i.1
       rw[j,FN];exact D
      cases h
 cases h
theorem Zfs{a:T_}{t:Nat}{d d1:DS}{g:PX}(h:OL a t d=some (g,d1)):d9 d d1:=by
 unfold OL at h;split at h
 ·rename_i hd b cs u s;cases j:EM d hd b cs with
  |none=>rw[j]at h;cases h
  | some r=>
    obtain⟨q,os⟩:=r;rw[j]at h;simp only at h;cases i:On (a.dev d.sl) os.length d with
    |none=>rw[i]at h;cases h
    | some r=>
      obtain⟨n,w,x⟩:=r;rw[i]at h;simp only at h;split at h
      ·simp only[Ao,An]at h;obtain⟨_,rfl⟩:=h;exact(Zcp i).trans (d9.put _ _ _)
      cases h
 cases h
theorem Ziv{a:DV}{p:PV}{d d1:DS}{s:PS}(hs:ES d s)(g:EV a p)(h:TI a d=some d1):∃b,Yn p s=some b/\ES d1 b:=by cases h
theorem Zfv{a:DV}{d d1:DS}(h:TI a d=some d1):d9 d d1:=by cases h
def Xy(p:Dd)(D:M5):Prop:=∀(args:List DV) (g:PX) (v:DV) (Q:PV->List (List PV)->Prop),D args=some (g,v)->g.den->(∀H,Q v.enc H)->p (DV.d6 args) [] Q
def Qj(p:Dd)(D:Gs):Prop:=∀(args:List DV) (b:List (List DV)) (g:PX) (v:DV) (H:List (List DV)) (Q:PV->List (List PV)->Prop),D args b=some (g,v,H)->g.den->Q v.enc (Ha (JO b H))->p (DV.d6 args) (Ha b) Q
inductive ObD where
 |nv (p:Dd) (D:M5)|wp (p:Dd) (D:Gs)
def ObD.sound:ObD->Prop
 |.nv p D=>Xy p D|.wp p D=>Qj p D
def DOp.t8:DOp->List ObD
 |.a _ _ _=>[]|.aw _ _ _ _=>[]|.call _ _ p D _=>[.nv p D]|.mark _ _ _ _=>[]|.tk _ _ _ _=>[]|.callp _ _ p D _=>[.wp p D]|.callv _ _ p D _ _ _=>[.wp p D]|.fz _=>[]|.clm _ _ _=>[]|.fzb _ _=>[]
def Xc:List DOper->List ObD
 |[]=>[]|o::r=>o.op.t8++Xc r
def d4.t8:d4->List ObD
 |.skip=>[]|.region ops=>Xc ops|.regionU ops=>Xc ops|.seq _ a b=>a.t8++b.t8|.cond _ a b=>a.t8++b.t8|.block _ a=>a.t8|.scope a=>a.t8|.loop _ _ a=>a.t8|.exit _=>[]|.ret=>[]
def AllD:List ObD->Prop
 |[]=>True|o::r=>o.sound/\AllD r
theorem AllD.app:∀ {a b:List ObD},AllD (a++b)->AllD a/\AllD b
 |[],_,h=>⟨trivial,h⟩
 |_::_,_,⟨h1,h2⟩=>⟨⟨h1,(AllD.app h2).1⟩,(AllD.app h2).2⟩
theorem XN{d:DS}{s:PS}(hs:ES d s):∀(args:List T_),IJ (Fx d.sl args)=true->args.map (·.t7 s.sl)=DV.d6 (Fx d.sl args)
 |[],_=>rfl
 | x::r,h=>by
   simp only[Fx,IJ,Ai]at h;simp only[Cf,Fx,DV.d6,XN hs r h.2];rw[(x.dev_ev hs).of (by intro e;rw[e]at h;cases h.1)]
theorem PJ:∀(l:List PV),l.any PV.q_=PV.hasPtrL l
 |[]=>rfl
 |v::r=>by simp only[List.any_cons,PV.hasPtrL,PJ r]
theorem XB:∀(l:List PV),l.map PV.fz=PV.fzL l
 |[]=>rfl
 |v::r=>by simp only[Cf,PV.fzL,XB r]
theorem bC:∀(l:List PV),(l.all λv=>!v.hold)=!PV.holdL l
 |[]=>rfl
 |v::r=>by simp only[FT,PV.holdL,bC r,Bool.not_or]
mutual
theorem kY:∀(v:DV),v.deep=true->v.enc.deep=true
 |.undef,_|.bool _,_|.int _ _,_|.str _,_|.ifc _,_|.ptr _ _,_=>rfl
 |.nil q,h=>by cases q<;>first|rfl|cases h
 | .sl q r l,h=>by
   rw[DV.deep,Ai]at h;obtain⟨h,b⟩:=h;cases q<;>first|(cases h;done)|exact bH r l b
 |.agg cs,h=>ah cs h
 |.f7 cs,h=>ah cs h
theorem ah:∀(l:List DV),DV.deepL l=true->PV.deepL (DV.d6 l)=true
 |[],_=>rfl
 | v::r,h=>by
   simp only[DV.deepL,Ai]at h;simp only[DV.d6,PV.deepL,kY v h.1,ah r h.2,Dy]
end
theorem bQ(v:DV):v.enc.retc=v.retc:=by
 cases v<;>first|rfl|skip
 case nil q=>cases q<;>rfl
 case sl q r l=>cases q<;>rfl
theorem nz:∀(l:List DV),Fv (DV.d6 l)=JT l
 |[]=>rfl
 |v::r=>by simp only[DV.d6,Fv,JT,bQ v,nz r]
theorem ZfL(v:DV):v.enc.retok=v.retok:=by
 cases v<;>first|rfl|skip
 case nil q=>exact bQ (.nil q)
 case sl q r l=>exact bQ (.sl q r l)
 case agg cs=>exact nz cs
theorem ZfG{d:DS}{s:PS}(x:T_)(h:ES d s)(i:∀n,x= .t n->Br d.sl n≠.any):ES (Fo x d).2 (fzOut x s).2:=by
 cases x with
 |c v=>exact h
 | t n=>
   simp only[Fo,TE,fzOut,Yx];have j:=(h.sl.get n).of (i n rfl);rw[j,JE,ZfL];by_cases g:(Br d.sl n).own=true
   ·simp only[g,AS];by_cases b:(Br d.sl n).retok=true
    ·rw[Ac b,Ac b,<- dr];exact⟨(h.sl.put n (.inr rfl)).clr _,h.bx,h.hp⟩
    rw[Ae b,Ae b];exact h
   simp only[g];exact h
theorem iN(v:DV):∀(l:List DC) (k n:Nat),Br l n= .any->k≠n->Br (DA l k v) n= .any
 |[],_,_,_,_=>rfl
 |_::_,0,0,_,hn=>absurd rfl hn
 |_::_,0,_+1,h,_=>h
 |_::_,_+1,0,h,_=>h
 |_::r,k+1,n+1,h,hn=>iN v r k n h (by simpa using hn)
theorem iH(hd:Hd):∀(l:List DC) (n:Nat),Br l n= .any->Br (DB hd l) n= .any
 |[],_,_=>rfl
 | c::_,0,h=>by
   have h:c.v= .any:=h;simp only[DB,h,DV.g_,AY,A3,Br]
 |_::r,n+1,h=>iH hd r n h
theorem ZbU(x:T_)(d:DS)(n:Nat)(h:Br d.sl n= .any):Br (Fo x d).2.sl n= .any:=by
 cases x with
 |c v=>exact h
 | t k=>
   simp only[Fo,TE];split
   ·rename_i b;split
    ·refine iH _ _ _ (iN _ _ _ _ h ?_);rintro rfl;rw[h]at b;cases b
    exact h
   exact h
theorem iR:∀(args:List T_) (d:DS) (n:Nat),Br d.sl n= .any->Br (EZ args d).sl n= .any
 |[],_,_,h=>h
 |x::r,d,n,h=>iR r _ n (ZbU x d n h)
theorem WN:∀(args:List T_) {d:DS} {s:PS},ES d s->(∀x∈args,x.dev (EZ args d).sl≠.any)->ES (EZ args d) (fzArgs args s)
 |[],_,_,h,_=>h
 | x::r,d,s,h,hk=>by
   refine WN r (ZfG x h λn g i=>?_) λy b=>hk y (List.mem_cons_of_mem _ b);subst g;exact hk (.t n) (G6 ..) (iR (.t n::r) d n i)
theorem Wr{sl:List DC}:∀ {args:List T_},IJ (Fx sl args)=true->∀x∈args,x.dev sl≠.any
 |[],_,_,b=>by cases b
 | a::r,h,x,b=>by
   simp only[Fx,IJ,Ai]at h;rcases Cu.mp b with rfl|b
   ·intro e;rw[e]at h;cases h.1
   exact Wr h.2 x b
theorem DS.fzArgs_chg:∀(args:List T_) (d:DS),d9 d (EZ args d)
 |[],d=>d9.refl d
 |x::r,d=>(d9.fzOut x d).trans (DS.fzArgs_chg r _)
section
variable {E:AExit} {D':DS}
def TO(E:AExit)(D':DS)(K:DS->DT)(k:PS->Prop):Prop:=∀d s,ES d s->(K d).ok.den->(K d).lf=some (E,D')->k s
theorem ZgN{A B:Type}(e:A=B)(h:List A=List B)(x:A)(l:List A):h.mp (x::l)=e.mp x::h.mp l:=by subst e;rfl
theorem Zh3{A B:Type}(e:A=B)(h:List A=List B):h.mp []=[]:=by subst e;rfl
theorem Zhc{A A' B i:Type}(g:A=A')(b:B=i)(h:(A×B)=(A'×i))(x:A×B):h.mp x=(g.mp x.1,b.mp x.2):=by subst g;subst b;rfl
mutual
theorem oq:∀(t:CT) (x:t.D),CT.enc t.nrm ((CT.D_nrm t).symm.mp x)=(CT.enc t x).ownr
 |.int _,_|.bool,_|.str,_|.ifc,_=>rfl
 | .sl r,l=>by
   show PV.sl .own _=PV.sl .own _;rw[<- Xl r l];rfl
 | .slf r,l=>by
   show PV.sl .own _=PV.sl .own _;rw[<- Xl r l];rfl
theorem oP:∀(r:RT) (x:r.D),RT.enc r.nrm ((RT.D_nrm r).symm.mp x)=PV.ownrL (RT.enc r x)
 | .one t,x=>by
   show [CT.enc t.nrm ((CT.D_nrm t).symm.mp x)]=[(CT.enc t x).ownr];rw[oq t x]
 | .cons t r,x=>by
   have e:=Zhc (CT.D_nrm t).symm (RT.D_nrm r).symm (RT.D_nrm (.cons t r)).symm x;show RT.enc (.cons t.nrm r.nrm) ((RT.D_nrm (.cons t r)).symm.mp x)=(CT.enc t x.1).ownr::PV.ownrL (RT.enc r x.2);rw[<- oq t x.1,<- oP r x.2];show CT.enc t.nrm ((RT.D_nrm (.cons t r)).symm.mp x).1::RT.enc r.nrm ((RT.D_nrm (.cons t r)).symm.mp x).2=_;rw[show ((RT.D_nrm (.cons t r)).symm.mp x)=_ from e]
theorem Xl:∀(r:RT) (l:List r.D),(Ys r l).map (RT.enc r.nrm)=PV.ownrE (l.map (RT.enc r))
 | r,[]=>by
   unfold Ys;rw[Zh3 (RT.D_nrm r).symm];rfl
 | r,x::l=>by
   have i:=Xl r l;unfold Ys at i ⊢;rw[ZgN (RT.D_nrm r).symm,Cf,Cf,i,oP r x];rfl
end
mutual
theorem pe:∀(t:CT) (x:t.D),t.pl=true->(CT.enc t x).ownr=CT.enc t x
 |.int _,_,_|.bool,_,_|.str,_,_|.ifc,_,_=>rfl
 | .sl r,l,h=>by
   show PV.sl .own _=PV.sl .own _;rw[dc r l h]
 |.slf _,_,h=>by cases h
theorem pU:∀(r:RT) (x:r.D),r.pl=true->PV.ownrL (RT.enc r x)=RT.enc r x
 | .one t,x,h=>by
   show [(CT.enc t x).ownr]=[CT.enc t x];rw[pe t x h]
 | .cons t r,x,h=>by
   rw[RT.pl,Ai]at h;show (CT.enc t x.1).ownr::PV.ownrL (RT.enc r x.2)=CT.enc t x.1::RT.enc r x.2;rw[pe t x.1 h.1,pU r x.2 h.2]
theorem dc:∀(r:RT) (l:List r.D),r.pl=true->PV.ownrE (l.map (RT.enc r))=l.map (RT.enc r)
 |_,[],_=>rfl
 |r,x::l,h=>by rw[Cf,PV.ownrE,pU r x h,dc r l h]
end
theorem mn(v:DV):v.nrm1.enc=v.enc.nrm1:=by
 cases v with
 | sl q r l=>
   cases q with
   | Z'=>
     show (DV.nrm1 (.sl .Z' r l)).enc=PV.sl .Z' _;rw[DV.nrm1];split
     ·rename_i h;show PV.sl .Z' _=PV.sl .Z' _;rw[dc r l h]
     show PV.sl .Z' _=PV.sl .Z' _;rw[Xl r l]
   |_=>rfl
 |nil q=>cases q<;>rfl
 |_=>rfl
theorem lK:∀l:List DV,DV.d6 (DV.nrmA l)=PV.nrmA (DV.d6 l)
 |[]=>rfl
 |v::r=>by simp only[DV.nrmA,DV.d6,PV.nrmA,mn v,lK r]
theorem m9(v:DV):v.nrm.enc=v.enc.nrm:=by
 cases v with
 | agg cs=>
   show PV.agg _=PV.agg _;rw[lK]
 |sl q r l=>exact mn _
 |nil q=>cases q<;>rfl
 |_=>rfl
theorem WO:∀l:List DV,DV.d6 (DV.nrmV l)=(DV.d6 l).map PV.nrm
 |[]=>rfl
 |v::r=>by simp only[DV.nrmV,DV.d6,Cf,m9 v,WO r]
theorem Zg8{D:M5}{p:Dd}(hp:Xy p D){args:List T_}{d d1:DS}{s:PS}{g:PX}{v:DV}{dst:Option Nat}{k:PS->Prop}(hs:ES d s)(h:Oy D args d=some (g,v,d1))(y:g.den)(x:∀j,ES (d1.put dst v) j->k j):cU p args dst k s:=by
 unfold Oy at h;simp only at h;split at h
 ·rename_i q;simp only[Ai,Bq]at q;obtain⟨h1,t⟩:=q;split at h
  ·rename_i A u z;split at h
   ·rename_i n;simp only[Ai,Bq,B7]at n;obtain⟨⟨C,b⟩,i⟩:=n;simp only[Ao,An]at h;obtain⟨rfl,rfl,rfl⟩:=h;have e:=XN hs args h1;refine⟨by rw[e,PJ,Mj,t],by rw[e];exact Wj _ h1,?_⟩;rw[e,PJ,Mj,t];simp only[AY,A3];rw[XB,<- Qd,<- WO];refine hp _ _ _ _ z y λH=>⟨?_,?_⟩
    ·rw[RZ,b,bC,Sc];rcases i with h|h
     ·simp[kY _ h]
     simp[h]
    rw[RZ,b];simp only[AY,A3];exact x _ (hs.put dst u)
   cases h
  cases h
 cases h
theorem ll{D:M5}{args:List T_}{d d1:DS}{g:PX}{v:DV}(h:Oy D args d=some (g,v,d1)):d1=d/\IJ (Fx d.sl args)=true:=by
 unfold Oy at h;simp only at h;split at h
 ·rename_i b;simp only[Ai]at b;split at h
  ·split at h
   ·simp only[Ao,An]at h;exact⟨h.2.2.symm,b.1⟩
   cases h
  cases h
 cases h
theorem eO(q:Ql):∀es,(PV.sl q es).isH=q.isH'/\∀j o,(PV.ep q es j o).isH=q.isH':=by
 intro es;cases q with
 |g_ hd p t=>cases hd<;>exact⟨rfl,λ_ _=>rfl⟩
 |pre hd p=>cases hd<;>exact⟨rfl,λ_ _=>rfl⟩
 |_=>exact⟨rfl,λ_ _=>rfl⟩
mutual
theorem cK:∀(v:DV),v.enc.isH=v.isH
 |.nil q=>(eO q []).1
 |.sl q r l=>(eO q _).1
 |.ep q r l j o=>(eO q _).2 j o
 |.agg cs=>aP cs
 |.f7 vs=>aP vs
 |.any|.undef|.bool _|.int _ _|.str _|.ifc _|.box _ _|.ptr _ _=>rfl
theorem aP:∀(l:List DV),PV.isHL (DV.d6 l)=DV.isHL l
 |[]=>rfl
 |v::r=>by simp only[DV.d6,PV.isHL,DV.isHL,cK v,aP r]
end
theorem EL.clrH:∀ {a:List DC} {b:List PV},EL a b->EL (Ts a) (Go.Ag.clrH b)
 |[],[],_=>trivial
 | c :: a,p::b,h=>by
   refine⟨?_,EL.clrH h.2⟩;by_cases g:c.v.isH=true
   ·rw[Ac g];exact .inl rfl
   rw[Ae g];rcases h.1 with h1|h1
   ·exact .inl h1
   rw[h1,cK,Ae g];exact .inr rfl
theorem EL.all:∀ {a:List DC} {b:List PV},EL a b->DV.okL (Cn a)=true->b=DV.d6 (Cn a)
 |[],[],_,_=>rfl
 | c::a,p::b,h,hk=>by
   simp only[Cn,DV.okL,Ai]at hk;rcases h.1 with h1|h1
   ·rw[h1]at hk;cases hk.1
   simp only[Cn,DV.d6];rw[h1,EL.all h.2 hk.2]
theorem EB.all:∀ {a:List (List DC)} {b:List (List PV)},EB a b->Yy (HR a)=true->b=Ha (HR a)
 |[],[],_,_=>rfl
 | c::a,p::b,h,hk=>by
   simp only[HR,Yy,Ai]at hk;have g:0<c.length:=(by rw[<- WG];exact Df hk.1.1);simp only[HR,Ha];rw[(h.1.to g).all hk.1.2,EB.all h.2 hk.2]
theorem EL.mix:∀(a:List DC) (b:List DV),EL (OI a b) (DV.d6 (F3 (Cn a) b))
 |[],b=>by simp only[OI,Cn,F3];exact EL.news b
 | c :: a,[]=>by
   have:∀(a:List DC),EL a (DV.d6 (Cn a)):=by
    intro a;induction a with
    |nil=>exact trivial
    |cons x r g=>exact⟨.inr rfl,g⟩
   exact this (c::a)
 | c::a,v::b=>by
   simp only[OI,Cn,F3];refine⟨?_,EL.mix a b⟩;by_cases h:v.isAny=true
   ·rw[Ac h,Ac h];exact .inr rfl
   rw[Ae h,Ae h];exact .inr rfl
theorem EB.newsB:∀(b:List (List DV)),EB (Go.Ag.newsB b) (Ha b)
 |[]=>trivial
 |v::r=>⟨.inr (EL.news v),EB.newsB r⟩
theorem EB.mix:∀(a:List (List DC)) (b:List (List DV)),EB (OB a b) (Ha (JO (HR a) b))
 |[],b=>by simp only[OB,HR,JO];exact EB.newsB b
 | c :: a,[]=>by
   have h0:∀(a:List DC),OI a []=a:=(by intro a;cases a<;>rfl);have h1:∀(a:List DC),F3 (Cn a) []=Cn a:=(by intro a;cases a<;>rfl);have:∀(a:List (List DC)),EB a (Ha (HR a)):=by
    intro a;induction a with
    |nil=>exact trivial
    | cons x r ih=>
      refine⟨.inr ?_,ih⟩;have:=EL.mix x [];rw[h0,h1]at this;exact this
   exact this (c::a)
 | c::a,v::b=>by
   simp only[OB,HR,JO];exact⟨.inr (EL.mix c v),EB.mix a b⟩
theorem aH:∀(a:List (List DV)),(Ha a).length=a.length
 |[]=>rfl
 |_::r=>by simp only[Ha,A0,aH r]
theorem kC:∀(a b:List (List DV)),a.length<=(JO a b).length
 |[],_=>EE _
 |_::_,[]=>BH _
 |_::a,_::b=>by simp only[JO,A0];exact Nat.succ_le_succ (kC a b)
theorem lX{D:Gs}{p:Dd}(hp:Qj p D){args:List T_}{d d1:DS}{s:PS}{g:PX}{v:DV}{dst:Option Nat}{k:PS->Prop}(hs:ES d s)(h:LA D args d=some (g,v,d1))(A:g.den)(z:∀y,ES (d1.put dst v) y->k y):Th p args dst k s:=by
 unfold LA at h;simp only at h;split at h
 ·rename_i C;simp only[Ai,Bq]at C;obtain⟨⟨h1,J⟩,I⟩:=C;have e:=XN hs args h1;have F:=hs.hp.all I;have j:((DV.d6 (Fx d.sl args)).all λv=>!v.hold)=true:=(by rw[bC,Sc,J];rfl);split at h
  ·rename_i b;split at h
   ·rename_i L n H x;split at h
    ·rename_i i;simp only[Ai,Bq]at i;simp only[Ao,An]at h;obtain⟨rfl,rfl,rfl⟩:=h;refine⟨by rw[e];exact Wj _ h1,?_⟩;rw[e,PJ,Mj,b];simp only[AS];refine⟨j,?_⟩;rw[XB,<- Qd,<- WO,F];have u:ES { d with sl:=Ts d.sl,hp:=OB d.hp H } { s with sl:=Go.Ag.clrH s.sl,hp:=Ha (JO (HR d.hp) H) }:=⟨hs.sl.clrH,hs.bx,EB.mix d.hp H⟩;refine hp _ _ _ _ _ _ x A ⟨?_,by rw[RZ];exact i.2,z _ (u.put dst n)⟩;rw[aH,aH];exact kC _ _
    cases h
   cases h
  rename_i b;split at h
  ·rename_i t;have t:d.hp=[]:=Dg (by simpa using t);split at h
   ·rename_i L n H x;split at h
    ·rename_i i;simp only[Ao,An]at h;obtain⟨rfl,rfl,rfl⟩:=h;have G:n= .ptr 0 0:=by
      unfold DV.isP0 at i;split at i
      ·rfl
      cases i
     subst G;have q:s.hp=[]:=(by rw[F,t];rfl);refine⟨by rw[e];exact Wj _ h1,?_⟩;rw[e,PJ,Mj];rw[Ae (by simpa using b)];rw[XB,<- Qd,<- WO];have:=hp _ [] _ _ _ (λr H=>(((!r.q_&&r.deep)||(DV.d6 (Fx d.sl args)).all λv=>!v.hold)=true)/\k (PS.put { s with hp:=if r.q_ then s.hp++H else s.hp } dst (if r.q_ then r.shift s.hp.length else r))) x A ⟨by rw[j];simp,by
      have u:ES { d with hp:=newsB H } { s with hp:=Ha H }:=⟨hs.sl,hs.bx,EB.newsB H⟩;have:=z _ (u.put dst (.ptr 0 0));simpa [q,DV.enc,PV.q_,PV.shift,JO]using this⟩
     exact this
    cases h
   cases h
  cases h
 cases h
theorem mF{i c:Nat}{D:Gs}{args:List T_}{d d1:DS}{g:PX}{v:DV}(h:SW i c D args d=some (g,v,d1)):DV.hasPtrL (Fx d.sl args)=true/\(Cc d (.b i) [c]).ownS=true/\LA D args d=some (g,v,d1):=by
 unfold SW at h;by_cases j:(DV.hasPtrL (Fx d.sl args)&&(Cc d (.b i) [c]).ownS)=true
 ·rw[Ac j]at h;rw[Ai]at j;exact⟨j.1,j.2,h⟩
 rw[Ae j]at h;cases h
theorem WA{D:Gs}{args:List T_}{d d1:DS}{g:PX}{v:DV}(h:LA D args d=some (g,v,d1)):d9 d d1/\IJ (Fx d.sl args)=true:=by
 have t:∀(l:List DC),Chg l (Ts l):=by
  intro l;induction l with
  |nil=>trivial
  | cons c r ih=>
    refine⟨?_,ih⟩;by_cases i:c.v.isH=true
    ·rw[Ac i];exact .inl rfl
    rw[Ae i];exact .inr rfl
 have n:∀(x:List DC) (b:List DV),Chg x (news b):=by
  intro x b;induction b generalizing x with
  |nil=>cases x<;>trivial
  | cons v r ih=>cases x with
    |nil=>exact⟨rfl,ih []⟩
    |cons c x=>exact⟨.inl rfl,ih x⟩
 have s:∀(a:List DC) (b:List DV),Chg a (OI a b):=by
  intro a;induction a with
  |nil=>intro b;exact n [] b
  | cons c r ih=>
    intro b;cases b with
    |nil=>exact Chg.refl _
    | cons v b=>
      refine⟨?_,ih b⟩;by_cases h:v.isAny=true
      ·rw[Ac h];exact .inr rfl
      rw[Ae h];exact .inl rfl
 have j:∀(x:List (List DC)) (b:List (List DV)),j_ x (newsB b):=by
  intro x b;induction b generalizing x with
  |nil=>cases x<;>trivial
  | cons v r ih=>cases x with
    |nil=>exact⟨n _ _,ih []⟩
    |cons c x=>exact⟨n _ _,ih x⟩
 have q:∀(a:List (List DC)) (b:List (List DV)),j_ a (OB a b):=by
  intro a;induction a with
  |nil=>intro b;exact j [] b
  | cons c r ih=>
    intro b;cases b with
    |nil=>exact j_.refl _
    |cons v b=>exact⟨s c v,ih b⟩
 unfold LA at h;simp only at h;split at h
 ·rename_i i;simp only[Ai]at i;refine⟨?_,i.1.1⟩;split at h
  ·split at h
   ·split at h
    ·simp only[Ao,An]at h;obtain⟨_,_,rfl⟩:=h;exact⟨t _,j_.refl _,q _ _⟩
    cases h
   cases h
  split at h
  ·split at h
   ·split at h
    ·simp only[Ao,An]at h;obtain⟨_,_,rfl⟩:=h;exact⟨Chg.refl _,j_.refl _,j _ _⟩
    cases h
   cases h
  cases h
 cases h
theorem nB{d:DS}{s:PS}(x:T_)(hs:ES d s)(g:x.dev d.sl≠.any)(b:(x.dev d.sl).own=false):f' x s=((x.dev d.sl).enc,s):=by
 cases x with
 |c v=>simp only[f',T_.dev];rw[Si v g]
 | t n=>
   have:=(hs.sl.get n).of g;simp only[f',F5,this,JE,T_.dev]at b ⊢;rw[Ae (by simp[b])]
theorem XT{o:DOp}(Y:AllD o.t8){dst:Option Nat}{K:DS->DT}{k:PS->Prop}(F:TO E D' K k):TO E D' (Cm o dst K) (λs=>CE o.er dst k s):=by
 intro d s hs j n;cases o with
 | call m f p D args=>
   simp only[Cm]at j n;simp only[DOp.er,CE];cases z:Oy D args (if m=true then EZ args d else d)with
   |none=>rw[z]at j;exact j.elim
   | some r=>
     obtain⟨g,v,d1⟩:=r;rw[z]at j n;simp only[DT.chk_ok,DT.chk_lf]at j n;obtain⟨G,A⟩:=ll z;have u:ES (if m=true then EZ args d else d) (if m=true then fzArgs args s else s):=by
      cases m with
      |false=>exact hs
      |true=>exact WN args hs (Wr A)
     exact Zg8 Y.1 u z j.1 λJ u=>F _ _ u j.2 n
 | aw ws m o ty=>
   simp only[Cm]at j n;simp only[DOp.er,CE];cases q:Oc ws m o ty d with
   |none=>rw[q]at j;exact j.elim
   | some r=>
     obtain⟨g,v,d1⟩:=r;rw[q]at j n;simp only[DT.chk_ok,DT.chk_lf]at j n;obtain⟨J,v0,G,A,e3⟩:=Zbk hs q j.1;simp only[G,A];exact F _ _ (e3.put dst v) j.2 n
 | tk f M x y=>
   simp only[Cm]at j n;simp only[DOp.er,CE];cases q:OQ M x y d with
   |none=>rw[q]at j;exact j.elim
   | some r=>
     obtain⟨g,v,d1⟩:=r;rw[q]at j n;simp only[DT.chk_ok,DT.chk_lf]at j n;exact Zjp hs q j.1 λJ u=>F _ _ (u.put dst v) j.2 n
 | mark f M x y=>
   simp only[Cm]at j n;simp only[DOp.er,CE];cases q:Ot M x y d with
   |none=>rw[q]at j;exact j.elim
   | some r=>
     obtain⟨g,v,d1⟩:=r;rw[q]at j n;simp only[DT.chk_ok,DT.chk_lf]at j n;exact ZhQ hs q j.1 λJ u=>F _ _ (u.put dst v) j.2 n
 | callp m f p D args=>
   simp only[Cm]at j n;simp only[DOp.er,CE];cases z:LA D args (if m=true then EZ args d else d)with
   |none=>rw[z]at j;exact j.elim
   | some r=>
     obtain⟨g,v,d1⟩:=r;rw[z]at j n;simp only[DT.chk_ok,DT.chk_lf]at j n;obtain⟨G,A⟩:=WA z;have u:ES (if m=true then EZ args d else d) (if m=true then fzArgs args s else s):=by
      cases m with
      |false=>exact hs
      |true=>exact WN args hs (Wr A)
     exact lX Y.1 u z j.1 λJ u=>F _ _ u j.2 n
 | callv m f p D args i c=>
   simp only[Cm]at j n;simp only[DOp.er,CE];cases z:SW i c D args (if m=true then EZ args d else d)with
   |none=>rw[z]at j;exact j.elim
   | some r=>
     obtain⟨g,v,d1⟩:=r;rw[z]at j n;simp only[DT.chk_ok,DT.chk_lf]at j n;obtain⟨C,O,z⟩:=mF z;obtain⟨G,A⟩:=WA z;have u:ES (if m=true then EZ args d else d) (if m=true then fzArgs args s else s):=by
      cases m with
      |false=>exact hs
      |true=>exact WN args hs (Wr A)
     refine⟨⟨?_,?_⟩,lX Y.1 u z j.1 λJ u=>F _ _ u j.2 n⟩
     ·rw[XN u args A,PJ,Mj,C]
     have:=Hu u (.b i) [c] (λe=>by rw[e]at O;cases O);rw[this];unfold DV.ownS at O;split at O
     ·rename_i r l h;rw[h];exact⟨_,rfl⟩
     ·rename_i h;rw[h];exact⟨_,rfl⟩
     cases O
 | fz x=>
   simp only[Cm]at j n;simp only[DOp.er,CE];by_cases Z:(Fo x d).1.ok=true
   ·rw[Ac Z]at j n;obtain⟨G,A⟩:=Zb0 x hs Z;rw[G,<- m9];exact F _ _ (A.put dst _) j n
   rw[Ae Z]at j;exact j.elim
 | fzb a o=>
   simp only[Cm]at j n;simp only[DOp.er,CE];cases z:TI (a.dev d.sl) d with
   |none=>rw[z]at j;exact j.elim
   | some d1=>
     rw[z]at j n;simp only at j n;cases q:Bz false o none d1 with
     |none=>rw[q]at j;exact j.elim
     | some r=>
       obtain⟨g,v,d2⟩:=r;rw[q]at j n;simp only[DT.chk_ok,DT.chk_lf]at j n;obtain⟨s1,k1,k2⟩:=Ziv hs (a.dev_ev hs) z;obtain⟨J,G,A⟩:=Wb k2 q j.1;simp only[k1,G];exact F _ _ (A.put dst v) j.2 n
 | clm a t o=>
   simp only[Cm]at j n;simp only[DOp.er,CE];cases z:OL a t d with
   |none=>rw[z]at j;exact j.elim
   | some r=>
     obtain⟨g0,d1⟩:=r;rw[z]at j n;simp only at j n;cases q:Bz false o none d1 with
     |none=>rw[q]at j;exact j.elim
     | some r=>
       obtain⟨g,v,d2⟩:=r;rw[q]at j n;simp only[DT.chk_ok,DT.chk_lf]at j n;have hg:=(PX.m_ _ _).mp j.1;refine Zib hs z hg.1 λs1 U=>?_;obtain⟨J,G,A⟩:=Wb U q hg.2;simp only[G];exact F _ _ (A.put dst v) j.2 n
 | a m o ty=>
   have N:(match Bz m o ty d with|some (g,v,st)=>DT.chk' g (K (st.put dst v))|none=>DT.bad).ok.den->(match Bz m o ty d with|some (g,v,st)=>DT.chk' g (K (st.put dst v))|none=>DT.bad).lf=some (E,D')->CE (DOp.a m o ty).er dst k s:=by
    intro j n;cases q:Bz m o ty d with
    |none=>rw[q]at j;exact j.elim
    | some r=>
      obtain⟨g,v,d1⟩:=r;rw[q]at j n;simp only[DT.chk_ok,DT.chk_lf]at j n;obtain⟨J,G,A⟩:=Wb hs q j.1;simp only[DOp.er,CE,G];exact F _ _ (A.put dst v) j.2 n
   cases o<;>first|exact N j n|skip
   case pick c a b=>
    clear N;simp only[Cm]at j n;have z:=c.dev_ev hs;have I:∀(x:T_),(match Bv x d with|(v,st)=>if v.ok=true then K (st.put dst v)else DT.bad).ok.den->(match Bv x d with|(v,st)=>if v.ok=true then K (st.put dst v)else DT.bad).lf=some (E,D')->k ((f' x s).2.put dst (f' x s).1):=by
     intro x j n;by_cases R:(Bv x d).1.ok=true
     ·simp only[Ac R]at j n;obtain⟨m1,m2⟩:=Fj x hs R;rw[m1];exact F _ _ (m2.put dst _) j n
     simp only[Ae R]at j;exact j.elim
    cases C:c.dev d.sl with
    | bool t=>
      rw[C]at z;have hp:=z.of (by simp);simp only[DOp.er,CE,BA,hp,DV.enc];cases t with
      | lit t=>
        rw[C]at j n;cases t with
        |true=>exact I a j n
        |false=>exact I b j n
      | dyn t=>
        rw[C]at j n;simp only at j n;split at j
        ·rename_i h;rw[Ac h]at n;have j:=(PX.if_den _ _ _).mp j;cases t with
         |true=>exact I a (j.1 rfl) n
         |false=>exact I b (j.2 rfl) n
        rename_i h;rw[Ae h]at n;simp only[Gr,Ce,BZ]at h;obtain⟨⟨h1,h2⟩,L⟩:=h;have ka:a.dev d.sl≠.any:=by
         intro e;rw[e]at L;cases hb:b.dev d.sl<;>rw[hb]at L<;>cases L
        have kb:b.dev d.sl≠.any:=by
         intro e;rw[e]at L;cases hb:a.dev d.sl<;>rw[hb]at L<;>cases L
        have hm:Dz t (a.dev d.sl) (b.dev d.sl)≠.any:=(by intro e;rw[e]at L;cases L);have he:=(Xr t (a.dev d.sl) (b.dev d.sl)).resolve_left hm;have:=F _ _ (hs.put dst (Dz t (a.dev d.sl) (b.dev d.sl))) j n;rw[he]at this;simp only[BX.b];cases t with
        |true=>simp only[AS,nB a hs ka h1];exact this
        |false=>simp only[AY,A3,nB b hs kb h2];exact this
    |_=>rw[C]at j;exact j.elim
theorem nA{d:DS}{s:PS}{g:Nat}{b:Bool}(hs:ES d s)(h:Aa s.sl g= .fl (.bool b)):ES (OO d g b) s:=by
 refine⟨?_,hs.bx,hs.hp⟩;have:∀ {a:List DC} {l:List PV} (n:Nat),EL a l->Aa l n= .fl (.bool b)->EL (DA a n (.bool (.lit b))) l:=by
  intro a;induction a with
  |nil=>intro l n h _;exact h
  | cons c a ih=>
    intro l n h i;cases l with
    |nil=>exact h.elim
    | cons p l=>
      cases n with
      |zero=>exact⟨.inr i,h.2⟩
      |succ n=>exact⟨h.1,ih n h.2 i⟩
 exact this g hs.sl h
theorem ZgU{o:DOper}(C:AllD o.op.t8){K:DS->DT}{k:PS->Prop}(y:TO E D' K k):TO E D' (QH o K) (λs=>HU o.er k s):=by
 intro d s hs i j;have q:∀ {d s},ES d s->(K (d.put o.dst (.f7 []))).ok.den->(K (d.put o.dst (.f7 []))).lf=some (E,D')->k (s.put o.dst (.f7 [])):=λhs i j=>y _ _ (hs.put o.dst (.f7 [])) i j;unfold QH at i j;unfold HU;simp only[DOper.er];cases D:o.guard with
 |none=>rw[D]at i j;exact XT C y d s hs i j
 | some g=>
   obtain⟨g,n⟩:=g;rw[D]at i j;simp only at i j ⊢;have A:=hs.sl.get g;cases x:Br d.sl g with
   | bool t=>
     rw[x]at i j A;have hp:=A.of (by simp);simp only[DV.enc]at hp;rw[hp];simp only;cases t with
     | lit t=>
       simp only at i j;by_cases z:t=n
       ·rw[Ac (by simpa using z)]at i j;rw[Ac (show (BX.lit t).b=n from z)];exact XT C y d s hs i j
       rw[Ae (by simpa using z)]at i j;rw[Ae (show ¬(BX.lit t).b=n from z)];exact q hs i j
     | dyn t=>
       simp only[BX.b]at hp ⊢;have i:=(PX.if_den _ _ _).mp i;have u:=nA hs hp;cases t with
       | true=>
         have i:=i.1 rfl;simp only[DT.lf]at j;cases n with
         |true=>exact XT C y _ s u i j
         |false=>exact q u i j
       | false=>
         have i:=i.2 rfl;simp only[DT.lf]at j;cases n with
         |true=>exact q u i j
         |false=>exact XT C y _ s u i j
   | f7 vs=>
     cases vs with
     | nil=>
       rw[x]at i j A;have hp:=A.of (by simp);simp only[DV.enc,DV.d6]at hp;rw[hp];exact q hs i j
     |cons v r=>rw[x]at i;exact i.elim
   |_=>rw[x]at i;exact i.elim
theorem dH:∀(ops:List DOper),AllD (Xc ops)->∀ {k:PS->Prop},E= .normal->(∀s,ES D' s->k s)->TO E D' (JW ops) (λs=>J3 (ops.map λo=>o.er) k s)
 | [],_,k,hE,hk=>by
   intro d s hs i b;simp only[JW,DT.lf,Ao,An]at b;obtain⟨_,rfl⟩:=b;exact hk s hs
 | o::r,ho,k,hE,hk=>by
   obtain⟨h1,g⟩:=ho.app;exact ZgU h1 (dH r g hE hk)
end
theorem Zfw{o:DOp}{dst:Option Nat}{K:DS->DT}{b:DS}(n:∀d,d9 b d->(K d).All (d9 b)):∀d,d9 b d->(Cm o dst K d).All (d9 b):=by
 intro d hd;cases o with
 | call m f p D args=>
   simp only[Cm];cases q:Oy D args (if m=true then EZ args d else d)with
   |none=>trivial
   | some r=>
     obtain⟨g,v,d1⟩:=r;obtain⟨rfl,_⟩:=ll q;refine DT.chk_all _ (n _ ((hd.trans ?_).trans (d9.put _ _ _)));cases m with
     |true=>exact DS.fzArgs_chg args d
     |false=>exact d9.refl d
 | aw ws m o ty=>
   simp only[Cm];cases j:Oc ws m o ty d with
   |none=>trivial
   | some r=>
     obtain⟨g,v,d1⟩:=r;exact DT.chk_all _ (n _ ((hd.trans (Zdl j)).trans (d9.put _ _ _)))
 | tk f M x y=>
   simp only[Cm];cases j:OQ M x y d with
   |none=>trivial
   | some r=>
     obtain⟨g,v,d1⟩:=r;exact DT.chk_all _ (n _ ((hd.trans (ZgG j)).trans (d9.put _ _ _)))
 | mark f M x y=>
   simp only[Cm];cases j:Ot M x y d with
   |none=>trivial
   | some r=>
     obtain⟨g,v,d1⟩:=r;exact DT.chk_all _ (n _ ((hd.trans (ZeY j)).trans (d9.put _ _ _)))
 | callp m f p D args=>
   simp only[Cm];cases q:LA D args (if m=true then EZ args d else d)with
   |none=>trivial
   | some r=>
     obtain⟨g,v,d1⟩:=r;obtain⟨h1,_⟩:=WA q;refine DT.chk_all _ (n _ (((hd.trans ?_).trans h1).trans (d9.put _ _ _)));cases m with
     |true=>exact DS.fzArgs_chg args d
     |false=>exact d9.refl d
 | fz x=>
   simp only[Cm];split
   ·exact n _ ((hd.trans (d9.fzOut x d)).trans (d9.put _ _ _))
   trivial
 | fzb a o=>
   simp only[Cm];cases q:TI (a.dev d.sl) d with
   |none=>trivial
   | some d1=>
     simp only;cases j:Bz false o none d1 with
     |none=>trivial
     | some r=>
       obtain⟨g,v,A⟩:=r;exact DT.chk_all _ (n _ (((hd.trans (Zfv q)).trans (WB j)).trans (d9.put _ _ _)))
 | clm a t o=>
   simp only[Cm];cases q:OL a t d with
   |none=>trivial
   | some r=>
     obtain⟨C,d1⟩:=r;simp only;cases j:Bz false o none d1 with
     |none=>trivial
     | some r=>
       obtain⟨g,v,A⟩:=r;exact DT.chk_all _ (n _ (((hd.trans (Zfs q)).trans (WB j)).trans (d9.put _ _ _)))
 | callv m f p D args i c=>
   simp only[Cm];cases q:SW i c D args (if m=true then EZ args d else d)with
   |none=>trivial
   | some r=>
     obtain⟨g,v,d1⟩:=r;obtain⟨_,_,q⟩:=mF q;obtain⟨h1,_⟩:=WA q;refine DT.chk_all _ (n _ (((hd.trans ?_).trans h1).trans (d9.put _ _ _)));cases m with
     |true=>exact DS.fzArgs_chg args d
     |false=>exact d9.refl d
 | a m o ty=>
   have u:(match Bz m o ty d with|some (g,v,st)=>DT.chk' g (K (st.put dst v))|none=>DT.bad).All (d9 b):=by
    cases j:Bz m o ty d with
    |none=>trivial
    | some r=>
      obtain⟨g,v,d1⟩:=r;exact DT.chk_all _ (n _ ((hd.trans (WB j)).trans (d9.put _ _ _)))
   cases o<;>first|exact u|skip
   case pick c x y=>
    simp only[Cm];have s:∀(x:T_),(match Bv x d with|(v,st)=>if v.ok=true then K (st.put dst v)else DT.bad).All (d9 b):=by
     intro x;simp only;split
     ·exact n _ ((hd.trans (d9.f' x d)).trans (d9.put _ _ _))
     trivial
    cases z:c.dev d.sl with
    | bool t=>
      cases t with
      |lit t=>cases t<;>exact s _
      | dyn t=>
        simp only;split
        ·exact⟨s x,s y⟩
        exact n _ (hd.trans (d9.put _ _ _))
    |_=>trivial
theorem bE(d:DS)(g:Nat)(t:Bool):d9 d (OO d g t):=⟨Chg.put _ _ _,j_.refl _,j_.refl _⟩
theorem ZdY{o:DOper}{K:DS->DT}{b:DS}(j:∀d,d9 b d->(K d).All (d9 b)):∀d,d9 b d->(QH o K d).All (d9 b):=by
 intro d hd;unfold QH;have hp:=Zfw (o:=o.op) (dst:=o.dst) j;cases s:o.guard with
 |none=>exact hp d hd
 | some g=>
   obtain⟨g,i⟩:=g;simp only;cases q:Br d.sl g with
   | bool t=>
     cases t with
     | lit t=>
       simp only;split
       ·exact hp d hd
       exact j _ (hd.trans (d9.put _ _ _))
     | dyn t=>
       have h1:=hd.trans (bE d g true);have n:=hd.trans (bE d g false);cases i with
       |true=>exact⟨hp _ h1,j _ (n.trans (d9.put _ _ _))⟩
       |false=>exact⟨j _ (h1.trans (d9.put _ _ _)),hp _ n⟩
   | f7 vs=>
     cases vs with
     |nil=>exact j _ (hd.trans (d9.put _ _ _))
     |cons v r=>trivial
   |_=>trivial
theorem aT{b:DS}:∀(ops:List DOper) (d:DS),d9 b d->(JW ops d).All (d9 b)
 |[],_,h=>h
 |_::r,d,h=>ZdY (aT r) d h
theorem oU:∀(ops:List DOper) {d n:DS} {e:AExit},(JW ops d).lf=some (e,n)->e= .normal:=by
 intro ops;have pick : ∀ {K:DS->DT} {e:AExit} {n:DS},(∀d,(K d).lf=some (e,n)->e= .normal)->∀(o:DOp) (dst:Option Nat) (d:DS),(Cm o dst K d).lf=some (e,n)->e= .normal:=by
  intro K e n j o dst d b;cases o with
  | call m f p D args=>
    simp only[Cm]at b;split at b
    ·rw[DT.chk_lf]at b;exact j _ b
    cases b
  | aw ws m o ty=>
    simp only[Cm]at b;split at b
    ·rw[DT.chk_lf]at b;exact j _ b
    cases b
  | tk f M x y=>
    simp only[Cm]at b;split at b
    ·rw[DT.chk_lf]at b;exact j _ b
    cases b
  | mark f M x y=>
    simp only[Cm]at b;split at b
    ·rw[DT.chk_lf]at b;exact j _ b
    cases b
  | callp m f p D args=>
    simp only[Cm]at b;split at b
    ·rw[DT.chk_lf]at b;exact j _ b
    cases b
  | fz x=>
    simp only[Cm]at b;split at b
    ·exact j _ b
    cases b
  | fzb a o=>
    simp only[Cm]at b;split at b
    ·split at b
     ·rw[DT.chk_lf]at b;exact j _ b
     cases b
    cases b
  | clm a t o=>
    simp only[Cm]at b;split at b
    ·split at b
     ·rw[DT.chk_lf]at b;exact j _ b
     cases b
    cases b
  | callv m f p D args i c=>
    simp only[Cm]at b;split at b
    ·rw[DT.chk_lf]at b;exact j _ b
    cases b
  | a m o ty=>
    have C:(match Bz m o ty d with|some (g,v,st)=>DT.chk' g (K (st.put dst v))|none=>DT.bad).lf=some (e,n)->e= .normal:=by
     intro b;split at b
     ·rw[DT.chk_lf]at b;exact j _ b
     cases b
    cases o<;>first|exact C b|skip
    case pick c x y=>
     simp only[Cm]at b;have z:∀(x:T_),(match Bv x d with|(v,st)=>if v.ok=true then K (st.put dst v)else DT.bad).lf=some (e,n)->e= .normal:=by
      intro x b;simp only at b;split at b
      ·exact j _ b
      cases b
     cases A:c.dev d.sl with
     | bool t=>
       rw[A]at b;cases t with
       |lit t=>cases t<;>exact z _ b
       | dyn t=>
         simp only at b;split at b
         ·cases t<;>exact z _ b
         exact j _ b
     |_=>rw[A]at b;cases b
 induction ops with
 | nil=>
   intro d n e b;simp only[JW,DT.lf,Ao,An]at b;exact b.1.symm
 | cons o r ih=>
   intro d n e b;have s:∀d,(JW r d).lf=some (e,n)->e= .normal:=λd h=>ih h;simp only[JW]at b;unfold QH at b;cases F:o.guard with
   |none=>rw[F]at b;exact pick s _ _ _ b
   | some g=>
     obtain⟨g,u⟩:=g;rw[F]at b;simp only at b;cases q:Br d.sl g with
     | bool t=>
       rw[q]at b;cases t with
       | lit t=>
         simp only at b;split at b
         ·exact pick s _ _ _ b
         exact s _ b
       | dyn t=>
         cases t<;>cases u<;>first|exact pick s _ _ _ b|exact s _ b
     | f7 vs=>
       rw[q]at b;cases vs with
       |nil=>exact s _ b
       |cons v r=>cases b
     |_=>rw[q]at b;cases b
theorem EL.put1{v:DV}:∀ {a:List DC} {b:List PV} (n:Nat),EL a b->EV v (Aa b n)->EL (DA a n v) b
 |[],_,_,h,_=>h
 |_::_,[],_,h,_=>h.elim
 |_::_,_::_,0,h,hv=>⟨hv,h.2⟩
 |_::_,_::_,n+1,h,hv=>⟨h.1,EL.put1 n h.2 hv⟩
theorem EBx.put1{v:DV}{a:List DC}{b:List PV}(n:Nat)(h:EBx a b)(g:EV v (Aa b n)):EBx (DA a n v) b:=by
 rcases h with rfl|h
 ·exact .inl rfl
 exact .inr (h.put1 n g)
theorem EB.put1{v:List DC}:∀ {a:List (List DC)} {b:List (List PV)} (n:Nat),EB a b->EBx v (Aq b n)->EB (FY a n v) b
 |[],_,_,h,_=>h
 |_::_,[],_,h,_=>h.elim
 |_::_,_::_,0,h,hv=>⟨hv,h.2⟩
 |_::_,_::_,n+1,h,hv=>⟨h.1,EB.put1 n h.2 hv⟩
def PS.at(s:PS):Pl->PV
 |.s i=>Aa s.sl i|.b i c=>Aa (Aq s.bx i) c|.h i c=>Aa (Aq s.hp i) c
theorem EBx.get{a:List DC}{b:List PV}(n:Nat)(h:EBx a b):EV (Br a n) (Aa b n):=by
 rcases h with rfl|h
 ·exact .inl rfl
 exact h.get n
theorem ES.at{d:DS}{s:PS}(h:ES d s)(g:Pl):EV (d.at g) (s.at g):=by
 cases g with
 |s i=>exact h.sl.get i
 |b i c=>exact(h.bx.get i).get c
 |h i c=>exact(h.hp.get i).get c
theorem ES.wr{d:DS}{s:PS}(h:ES d s)(g:Pl){v:DV}(j:EV v (s.at g)):ES (d.wr v g) s:=by
 cases g with
 |s i=>exact⟨h.sl.put1 i j,h.bx,h.hp⟩
 |b i c=>exact⟨h.sl,h.bx.put1 i ((h.bx.get i).put1 c j),h.hp⟩
 |h i c=>exact⟨h.sl,h.bx,h.hp.put1 i ((h.hp.get i).put1 c j)⟩
theorem S9{q:Ql}{t:CT}{v:DV}{x:t.D}(h:t.ofQ q v=some x):(t.dv q x).enc=v.enc/\v≠.any:=by
 cases t with
 | int k=>
   cases v<;>try (cases h;done)
   rename_i g n;have h':(if IntKind.same k g=true then some n else none)=some x:=h;clear h;split at h'
   ·rename_i i;have:=W8 i;subst this;have h':=C9 h';subst h';exact⟨rfl,by simp⟩
   cases h'
 | bool=>
   cases v<;>try (cases h;done)
   have h:=C9 h;subst h;exact⟨rfl,by simp⟩
 | str=>
   cases v<;>try (cases h;done)
   have h:=C9 h;subst h;exact⟨rfl,by simp⟩
 | ifc=>
   cases v<;>try (cases h;done)
   have h:=C9 h;subst h;exact⟨rfl,by simp⟩
 |slf r=>cases v<;>cases h
 | sl r=>
   cases v<;>try (cases h;done)
   case nil q'=>
    have h':(if D5 q q'=true then some ([]:List r.D)else none)=some x:=h;clear h;split at h'
    ·rename_i b;have:=Of b;subst this;have h':=C9 h';subst h';exact⟨rfl,by simp⟩
    cases h'
   case sl q' r' l=>
    have h':(if D5 q q'=true then HP (r':=r') (r:=r) l else none)=some x:=h;clear h;split at h'
    ·rename_i b;have:=Of b;subst this;refine⟨?_,by simp⟩;show PV.sl q _=PV.sl q _;rw[(NV h').2]
    cases h'
theorem eI:∀ {l:List (Ql×CT)} {g:List DV} {x:AgX l},HV l g=some x->DV.d6 (C5 l x)=DV.d6 g
 |[],[],_,_=>rfl
 | [a],[v],x,h=>by
   show [(a.2.dv a.1 x).enc]=[v.enc];rw[(S9 (q:=a.1) (t:=a.2) h).1]
 | a :: b::r,v::g,x,h=>by
   have h':(match a.2.ofQ a.1 v,HV (b::r) g with|some x,some y=>some (x,y)|_,_=>none)=some x:=h;clear h;cases h1:a.2.ofQ a.1 v with
   |none=>rw[h1]at h';cases h'
   | some p=>
     cases i:HV (b::r) g with
     |none=>rw[h1,i]at h';cases h'
     | some q=>
       rw[h1,i]at h';have h':=C9 h';subst h';show (a.2.dv a.1 p).enc::DV.d6 (C5 (b::r) q)=v.enc::DV.d6 g;rw[(S9 h1).1,eI i]
theorem Tu{t:HT}{v:DV}{x:t.D}(h:t.of v=some x):(t.dv x).enc=v.enc/\v≠.any:=by
 cases t with
 |one q t=>exact S9 (q:=q) (t:=t) h
 | agg l=>
   cases v<;>try (cases h;done)
   rename_i cs;refine⟨?_,by simp⟩;show PV.agg _=PV.agg _;rw[eI (l:=l) h]
theorem eB{A:DS}{s:PS}(i:ES A s):∀(H:List Hole) {K:DS} {x:H4 H},ES K s->Nd A H=some x->ES (wrX K H x) s
 |[],K,x,hK,_=>hK
 | [a],K,x,hK,h=>by
   have h:a.t.of (A.at a.pl)=some x:=h;obtain⟨h1,g⟩:=Tu h;refine hK.wr a.pl (.inr ?_);rw[h1,(i.at a.pl).of g]
 | a :: b::r,K,x,hK,h=>by
   have h':(match a.t.of (A.at a.pl),Nd A (b::r)with|some x,some y=>some (x,y)|_,_=>none)=some x:=h;clear h;cases h1:a.t.of (A.at a.pl)with
   |none=>rw[h1]at h';cases h'
   | some p=>
     cases g:Nd A (b::r)with
     |none=>rw[h1,g]at h';cases h'
     | some q=>
       rw[h1,g]at h';have h':=C9 h';subst h';obtain⟨n,j⟩:=Tu h1;refine eB i (b::r) (x:=q) (hK.wr a.pl (.inr ?_)) g;rw[n,(i.at a.pl).of j]
theorem n9(d:DS)(v:DV)(g:Pl):d9 d (d.wr v g):=by
 cases g with
 |s i=>exact⟨Chg.put _ _ _,j_.refl _,j_.refl _⟩
 |b i c=>exact⟨Chg.refl _,j_.put _ _ (Chg.put _ _ _),j_.refl _⟩
 |h i c=>exact⟨Chg.refl _,j_.refl _,j_.put _ _ (Chg.put _ _ _)⟩
theorem nC:∀(H:List Hole) (d:DS) (x:H4 H),d9 d (wrX d H x)
 |[],d,_=>d9.refl d
 |[a],d,_=>n9 d _ _
 |a::b::r,d,x=>(n9 d _ _).trans (nC (b::r) _ _)
def LeC:List DC->List DC->Prop
 |[],[]=>True|k::a,b::r=>(k.v= .any\/k.v=b.v)/\LeC a r|_,_=>False
def LeB:List (List DC)->List (List DC)->Prop
 |[],[]=>True|k::a,b::r=>(k=[]\/LeC k b)/\LeB a r|_,_=>False
structure LeS (k b:DS):Prop where
 sl:LeC k.sl b.sl
 bx:LeB k.bx b.bx
 hp:LeB k.hp b.hp
theorem LeC.refl:∀(k:List DC),LeC k k
 |[]=>trivial
 |_::r=>⟨.inr rfl,LeC.refl r⟩
theorem LeB.refl:∀(k:List (List DC)),LeB k k
 |[]=>trivial
 |k::r=>⟨.inr (LeC.refl k),LeB.refl r⟩
theorem LeC.put{v:DV}:∀ {k b:List DC} (n:Nat),LeC k b->Br k n= .any->LeC k (DA b n v)
 |[],[],_,h,_=>h
 |[],_::_,_,h,_=>h.elim
 |_::_,[],_,h,_=>h.elim
 |_::_,_::_,0,h,ha=>⟨.inl ha,h.2⟩
 |_::_,_::_,n+1,h,ha=>⟨h.1,LeC.put n h.2 ha⟩
theorem LeB.put{v:DV}:∀ {k b:List (List DC)} (i c:Nat),LeB k b->Br (B1 k i) c= .any->LeB k (FY b i (DA (B1 b i) c v))
 |[],[],_,_,h,_=>h
 |[],_::_,_,_,h,_=>h.elim
 |_::_,[],_,_,h,_=>h.elim
 |_::_,_::_,0,c,h,ha=>⟨h.1.imp id λh=>h.put c ha,h.2⟩
 |_::_,_::_,n+1,c,h,ha=>⟨h.1,LeB.put n c h.2 ha⟩
theorem mi{v:DV}(h:v.isAny=true):v= .any:=by cases v<;>first|rfl|cases h
theorem LeS.wr{k b:DS}{v:DV}{j:Pl}(h:LeS k b)(g:(k.at j).isAny=true):LeS k (b.wr v j):=by
 have g:=mi g;cases j with
 |s i=>exact⟨h.sl.put i g,h.bx,h.hp⟩
 |b i c=>exact⟨h.sl,h.bx.put i c g,h.hp⟩
 |h i c=>exact⟨h.sl,h.bx,h.hp.put i c g⟩
theorem LeS.wrX{k:DS}:∀(H:List Hole) {b:DS} (x:H4 H),LeS k b->PZ k H=true->LeS k (Go.Ag.wrX b H x)
 |[],_,_,h,_=>h
 | [a],_,_,h,ha=>by
   simp only[PZ,Ai]at ha;exact h.wr ha.1
 | a :: b::r,_,x,h,ha=>by
   have g:(k.at a.pl).isAny=true/\PZ k (b::r)=true:=by
    have:((k.at a.pl).isAny&&PZ k (b::r))=true:=ha;simpa [Ai]using this
   exact LeS.wrX (b::r) _ (h.wr g.1) g.2
theorem Zft{a b:DV}(h:a.same b=true):a.enc=b.enc/\b≠.any:=by
 cases a<;>cases b<;>first|(cases h;done)|skip
 case undef.undef=>exact⟨rfl,by simp⟩
 case nil.nil q q'=>have:=Of h;subst this;exact⟨rfl,by simp⟩
 case box.box=>simp only[DV.same,Ai,A7]at h;obtain⟨rfl,rfl⟩:=h;exact⟨rfl,by simp⟩
 case ptr.ptr=>simp only[DV.same,Ai,A7]at h;obtain⟨rfl,rfl⟩:=h;exact⟨rfl,by simp⟩
theorem dL:∀ {k b y:List DC} {p:List PV},TM k y=true->LeC k b->Chg (Go.Ag.clean b) y->EL y p->EL k p
 |[],_,[],p,_,_,_,h=>h
 |[],_,_::_,_,h,_,_,_=>by cases h
 |_::_,_,[],_,h,_,_,_=>by cases h
 |_::_,[],_::_,_,_,h,_,_=>h.elim
 |_::_,_::_,_::_,[],_,_,_,h=>h.elim
 | k :: a,b::r,y::l,q::p,h,hl,hc,he=>by
   simp only[TM,Ai,B7]at h;refine⟨?_,dL h.2 hl.2 hc.2 he.2⟩;rcases h.1 with(h1|h1)|h1
   ·exact .inl (mi h1)
   ·rcases hl.1 with j|j
    ·exact .inl j
    rcases hc.1 with i|i
    ·simp[i]at h1
    have:y.v=k.v:=(by rw[i,j]);rcases he.1 with g|g
    ·exact .inl (by rw[<- this];exact g)
    exact .inr (by rw[<- this];exact g)
   obtain⟨j,i⟩:=Zft h1;rcases he.1 with g|g
   ·exact absurd g i
   exact .inr (by rw[j];exact g)
theorem df:∀ {k b y:List (List DC)} {p:List (List PV)},TF k y=true->LeB k b->j_ (Qr b) y->EB y p->EB k p
 |[],_,[],p,_,_,_,h=>h
 |[],_,_::_,_,h,_,_,_=>by cases h
 |_::_,_,[],_,h,_,_,_=>by cases h
 |_::_,[],_::_,_,_,h,_,_=>h.elim
 |_::_,_::_,_::_,[],_,_,_,h=>h.elim
 | k :: a,b::r,y::l,q::p,h,hl,hc,he=>by
   simp only[TF,Ai,B7,A7]at h;refine⟨?_,df h.2 hl.2 hc.2 he.2⟩;rcases h.1 with h1|h1
   ·exact .inl (Dg h1)
   rcases hl.1 with i|i
   ·exact .inl i
   rcases he.1 with g|g
   ·subst g;cases k with
    |nil=>exact .inl rfl
    |cons=>cases h1
   exact .inr (dL h1 i hc.1 g)
theorem Zit{k b y:DS}{s:PS}(h:eM k y=true)(g:LeS k b)(j:d9 b.clean y)(i:ES y s):ES k s:=by
 simp only[eM,Ai]at h;exact⟨dL h.1.1 g.sl j.sl i.sl,df h.1.2 g.bx j.bx i.bx,df h.2 g.hp j.hp i.hp⟩
theorem cO(g:Nat->Pl):∀(n:Nat) (x y:List DC),Chg x (LV g n x y).2/\∀p,EL x p->EL (LV g n x y).2 p
 |_,[],_=>⟨trivial,λ_ h=>h⟩
 |_,_::_,[]=>⟨Chg.refl _,λ_ h=>h⟩
 | n,x::a,y::b=>by
   obtain⟨h1,i⟩:=cO g (n+1) a b;simp only[LV];cases j:LV g (n+1) a b with
   | mk H l=>
     rw[j]at h1 i;cases qi x.v y with
     |left=>exact⟨⟨.inr rfl,h1⟩,λp h=>by cases p with|nil=>exact h|cons q p=>exact⟨h.1,i p h.2⟩⟩
     |hole t=>exact⟨⟨.inl rfl,h1⟩,λp h=>by cases p with|nil=>exact h|cons q p=>exact⟨.inl rfl,i p h.2⟩⟩
     |kill=>exact⟨⟨.inl rfl,h1⟩,λp h=>by cases p with|nil=>exact h|cons q p=>exact⟨.inl rfl,i p h.2⟩⟩
theorem dJ(g:Nat->Nat->Pl):∀(n:Nat) (x y:List (List DC)),j_ x (OJ g n x y).2/\∀p,EB x p->EB (OJ g n x y).2 p
 |_,[],_=>⟨trivial,λ_ h=>h⟩
 |_,_::_,[]=>⟨j_.refl _,λ_ h=>h⟩
 | n, x :: a,y::b=>by
   obtain⟨h1,j⟩:=dJ g (n+1) a b;simp only[OJ];cases u:OJ g (n+1) a b with
   | mk H l=>
     rw[u]at h1 j;simp only;split
     ·obtain⟨t,s⟩:=cO (g n) 0 x y;cases i:LV (g n) 0 x y with
      | mk H' x'=>
        rw[i]at t s;exact⟨⟨t,h1⟩,λp h=>by
         cases p with
         |nil=>exact h
         |cons q p=>exact⟨h.1.elim (λe=>by subst e;cases y<;>(simp only[LV]at i;simp only[An]at i;exact .inl i.2.symm)) λh=>.inr (s q h),j p h.2⟩⟩
     exact⟨⟨by cases x<;>trivial,h1⟩,λp h=>by cases p with|nil=>exact h|cons q p=>exact⟨.inl rfl,j p h.2⟩⟩
theorem oG(x y:DS):d9 x (TH x y).2/\∀s,ES x s->ES (TH x y).2 s:=by
 obtain⟨h1,q⟩:=cO .s 0 x.sl y.sl;obtain⟨n,j⟩:=dJ .b 0 x.bx y.bx;obtain⟨i,g⟩:=dJ .h 0 x.hp y.hp;exact⟨⟨h1,n,i⟩,λs h=>⟨q _ h.sl,j _ h.bx,g _ h.hp⟩⟩
theorem cI{live:List Nat}{body:DS->DT}{A:DS}:∀ {n:Nat} {b:DS} {H:List Hole} {K:DS},Tc live body A n b=some (H,K)->∃Y,TH A Y=(H,K)
 | 0,b,H,K,h=>by
   simp only[Tc]at h;split at h
   ·rename_i m _;exact⟨_,C9 h⟩
   cases h
 | n + 1,b,H,K,h=>by
   simp only[Tc]at h;split at h
   ·split at h
    ·exact cI h
    cases h
   cases h
theorem ak(live:List Nat)(d:DS):d9 d (Er live d):=⟨Chg.keep _ _ _,j_.refl _,j_.refl _⟩
theorem ZeR(live:List Nat)(d:DS):d9 d (Ya live d):=⟨Chg.trim _ _ _,j_.refl _,j_.refl _⟩
theorem Zho {live:List Nat} {n:Nat} {body:DS->DT} {R:Gu->PS->Prop} (C:∀d,(body d).All (d9 d.clean))
 (hb:∀d s e J (k:Gu),ES d s->(body d).ok.den->(body d).lf=some (e,J)->(∀z,ES J z->k e z)->R k s)
 {d J:DS} {s:PS} {e:AExit} {k:Gu} (hs:ES d s) (t:(QE live n body d).ok.den) (g:(QE live n body d).lf=some (e,J)) (hk:∀z,ES J z->k e z):∃n,Ti R live k n s:=by
 have hA:ES (Er live d) { s with sl:=E8 live 0 s.sl }:=hs.keep live;unfold QE at t g;split at t
 ·rename_i A;rw[Ac A]at g;rw[DT.map_ok]at t;rw[DT.map_lf]at g;obtain⟨F,d0,h0⟩:=DT.ok_lf t;rw[h0]at g;simp only[Cq,Ao,An]at g;obtain⟨rfl,rfl⟩:=g;have A:(body (Er live d)).norm= .none:=(by cases h:(body (Er live d)).norm<;>rw[h]at A<;>first|rfl|cases A);have I:=DT.norm_none A h0;refine⟨1,hb _ _ _ _ _ hA t h0 λz u=>?_⟩;cases F<;>first|(cases I;done)|exact hk _ u.rem
 rename_i A;rw[Ae A]at g;split at t
 ·exact t.elim
 rename_i H K hd;rw[hd]at g;simp only at g;obtain⟨Y,hY⟩:=cI hd;split at t
 ·exact t.elim
 rename_i x0 N;rw[N]at g;simp only at g;split at t
 ·rename_i hh;rw[Ac hh]at g;simp only[DT.ok,PX.m_,PX.den]at t;obtain⟨hlo,_⟩:=t;simp only[DT.lf]at g;have hK:ES K { s with sl:=E8 live 0 s.sl }:=by
   have:=(oG (Er live d) Y).2 _ hA;rw[hY]at this;exact this
  have h0:ES (wrX K H x0) { s with sl:=E8 live 0 s.sl }:=eB hA H hK N;have Z:=hlo.to;have hle:∀x,LeS K (wrX K H x):=λx=>LeS.wrX H x ⟨LeC.refl _,LeB.refl _,LeB.refl _⟩ hh;have L:∀ {x y:H4 H},LoopTo (Qz body K H) (QJ live body K H) (λx=>(pQ live body K H x).den) x y ->
   ((lT body K H y).drop.map (M4 (wrX K H y))).lf=some (e,J) ->
   ∃n,∀s:PS,ES (wrX K H x) { s with sl:=E8 live 0 s.sl }->Ti R live k n s:=by
   intro x y h;induction h with
   | stop G hc=>
     rename_i x;intro g;have G:=((PX.m_ _ _).mp G).1;obtain⟨F,d0,h0⟩:=DT.ok_lf G;have I:F.isN=false:=by
      unfold Qz at hc;cases i:(lT body K H x).cont with
      |none=>rw[DT.cont_none i]at h0;cases h0
      |some b=>rw[i]at hc;rw[<- DT.cont_s i h0];exact hc
     rw[DT.map_lf,DT.drop_lf h0 I]at g;simp only[Cq,Ao,An]at g;obtain⟨rfl,rfl⟩:=g;refine⟨1,λs hs=>hb _ _ _ _ _ hs G h0 λz u=>?_⟩;cases F<;>first|(cases I;done)|exact hk _ u.rem
   | go G hc h3 U=>
     rename_i x y';intro g;obtain⟨n,U⟩:=U g;have D:=(PX.m_ _ _).mp G;obtain⟨F,d0,h0⟩:=DT.ok_lf D.1;have I:F= .normal:=by
      unfold Qz at hc;cases i:(lT body K H x).cont with
      |none=>rw[DT.cont_none i]at h0;cases h0
      | some b=>
        rw[i]at hc;have:=DT.cont_s i h0;rw[show b.b=true from hc]at this;cases F<;>first|rfl|cases this
     subst I;refine⟨n+1,λs hs=>hb _ _ _ _ _ hs D.1 h0 λz u=>?_⟩;refine U z ?_;have q:=D.2;cases j:(lT body K H x).norm with
     |none=>have:=DT.norm_none j h0;cases this
     |fail=>rw[j]at q;exact q.elim
     | some m=>
       rw[j]at q;simp only at q;split at q
       ·rename_i hf;simp only[Ai]at hf;obtain⟨hf1,hf2⟩:=hf;have hm:ES m z:=DT.norm_s (C _) j h0 u;have O:=hm.keep live;have hch:d9 (wrX K H x).clean (Er live m):=(DT.norm_chg (C _) j).trans (ak live m);have hK':=Zit hf1 (hle x) hch O;obtain⟨y2,M⟩:=Option.isSome_iff_exists.mp hf2;have hnx:QJ live body K H x=y2:=(by unfold QJ;rw[j];simp only[M]);rw[hnx];exact eB O H hK' M
       exact q.elim
  obtain⟨n,A⟩:=L Z g;exact⟨n,A s h0⟩
 exact t.elim
theorem ZeO{live:List Nat}{n:Nat}{body:DS->DT}(b:∀d,(body d).All (d9 d.clean))(d:DS):(QE live n body d).All (d9 d):=by
 unfold QE;split
 ·exact DT.map_all (λst h=>(ak live d).trans h.rem) (b _)
 split
 ·trivial
 rename_i H K hd;obtain⟨Y,g⟩:=cI hd;split
 ·trivial
 split
 ·have i:d9 d K:=by
   have:=(oG (Er live d) Y).1;rw[g]at this;exact(ak live d).trans this
  exact DT.map_all (λst h=>(i.trans (nC H K _)).trans h.rem) (DT.drop_all (b _))
 trivial
theorem kW(d:DS)(c:T_)(t:Bool):d9 d (setc d c t):=by
 cases c with
 |t g=>exact bE d g t
 |c v=>exact d9.refl d
theorem ni{d:DS}{s:PS}{c:T_}{b:Bool}(hs:ES d s)(h:c.t7 s.sl= .fl (.bool b)):ES (setc d c b) s:=by
 cases c with
 |t g=>exact nA hs h
 |c v=>exact hs
mutual
theorem ny(n:Nat):∀(v:DV),v.enc.pge n=v.pge n
 |.nil q=>by cases q<;>rfl
 |.sl q r l=>by cases q<;>rfl
 |.ep q r l j o=>by cases q<;>rfl
 |.agg cs=>bt n cs
 |.f7 vs=>bt n vs
 |.any|.undef|.bool _|.int _ _|.str _|.ifc _|.box _ _|.ptr _ _=>rfl
theorem bt(n:Nat):∀(l:List DV),PV.pgeL n (DV.d6 l)=DV.pgeL n l
 |[]=>rfl
 |v::r=>by simp only[DV.d6,PV.pgeL,DV.pgeL,ny n v,bt n r]
end
theorem EL.clrP(n:Nat):∀ {a:List DC} {b:List PV},EL a b->EL (Yc n a) (Go.Ag.clrP n b)
 |[],[],_=>trivial
 | c :: a,p::b,h=>by
   refine⟨?_,EL.clrP n h.2⟩;by_cases g:(c.v.isH||c.v.pge n)=true
   ·rw[Ac g];exact .inl rfl
   rw[Ae g];rcases h.1 with h1|h1
   ·exact .inl h1
   rw[h1,cK,ny,Ae g];exact .inr rfl
theorem EB.take:∀(n:Nat) {a:List (List DC)} {b:List (List PV)},EB a b->EB (a.take n) (b.take n)
 |0,_,_,_=>trivial
 |n+1,[],[],_=>trivial
 |n+1,_::_,_::_,h=>⟨h.1,EB.take n h.2⟩
theorem ES.trunc{d:DS}{s:PS}(n:Nat)(h:ES d s):ES (d.trunc n) (s.trunc n):=⟨h.sl.clrP n,h.bx,h.hp.take n⟩
theorem Chg.clrP(n:Nat):∀(l:List DC),Chg l (Yc n l)
 |[]=>trivial
 | c::r=>by
   refine⟨?_,Chg.clrP n r⟩;by_cases b:(c.v.isH||c.v.pge n)=true
   ·rw[Ac b];exact .inl rfl
   rw[Ae b];exact .inr rfl
theorem j_.take:∀(n:Nat) {a b:List (List DC)},j_ a b->j_ a (b.take n)
 |0,a,b,_=>by cases a<;>trivial
 |n+1,a,[],_=>by cases a<;>trivial
 |n+1,[],_::_,h=>⟨h.1,j_.take n h.2⟩
 |n+1,_::_,_::_,h=>⟨h.1,j_.take n h.2⟩
theorem d9.trunc{d b:DS}(n:Nat)(h:d9 d b):d9 d (b.trunc n):=⟨h.sl.trans (Chg.clrP n _),h.bx,h.hp.take n⟩
theorem Hw:∀(c:d4) (d:DS),(dev c d).All (d9 d)
 |.skip,d=>d9.refl d
 |.region ops,d=>aT ops d (d9.refl d)
 | .regionU ops,d=>by
   simp only[dev];split
   ·exact aT ops d (d9.refl d)
   trivial
 | .seq l a b,d=>by
   refine DT.then_all (Hw a d.clean) (λst h=>?_) (λst h=>h.rem);have h1:d9 d (M4 d (Ya l st)):=(h.trans (ZeR l st)).rem;exact DT.All.imp (λ_ g=>h1.trans g) (Hw b _)
 | .cond c a b,d=>by
   simp only[dev];cases j:c.dev d.sl with
   | bool t=>
     cases t with
     |lit t=>cases t<;>first|exact Hw a d|exact Hw b d
     |dyn t=>exact⟨DT.All.imp (λ_ h=>(kW d c true).trans h) (Hw a _),DT.All.imp (λ_ h=>(kW d c false).trans h) (Hw b _)⟩
   |_=>trivial
 |.block i a,d=>DT.unexit_all i (Hw a d)
 |.scope a,d=>DT.map_all (λst h=>h.trunc d.hp.length) (Hw a d)
 |.loop live n a,d=>ZeO (λd=>Hw a d.clean) d
 |.exit i,d=>d9.refl d
 |.ret,d=>d9.refl d
theorem G7:∀(c:d4),AllD c.t8->∀ {d y:DS} {s:PS} {e:AExit} {k:Gu},ES d s->(dev c d).ok.den->(dev c d).lf=some (e,y)->(∀z,ES y z->k e z)->Gz c.er k s
 | .skip,_,d,y,s,e,k,hs,q,g,u=>by
   simp only[dev,DT.lf,Ao,An]at g;obtain⟨rfl,rfl⟩:=g;exact u s hs
 | .region ops,ho,d,y,s,e,k,hs,q,g,u=>by
   have D:=oU ops g;subst D;exact dH ops ho rfl u d s hs q g
 | .regionU ops,ho,d,y,s,e,k,hs,q,g,u=>by
   simp only[dev]at q g;split at q
   ·rename_i hp;rw[Ac hp]at g;have D:=oU ops g;subst D;exact⟨hp,dH ops ho rfl u d s hs q g⟩
   exact q.elim
 | .seq l a b,ho,d,y,s,e,k,hs,q,g,u=>by
   obtain⟨h1,G⟩:=ho.app;obtain⟨C,F⟩:=DT.then_s (Hw a d.clean) q g;simp only[d4.er,Gz];rcases F with⟨I,m,A,hm,R,J,L⟩|⟨D,I,A,rfl⟩
   ·refine G7 a h1 hs.clean C A λz x=>?_;exact G7 b G (((hm z x).trim l).rem) J L u
   refine G7 a h1 hs.clean C A λz x=>?_;cases e<;>first|(cases D;done)|exact u z x.rem
 | .cond c a b,ho,d,y,s,e,k,hs,q,g,u=>by
   obtain⟨h1,G⟩:=ho.app;have O:=c.dev_ev hs;simp only[dev]at q g;simp only[d4.er,Gz];cases F:c.dev d.sl with
   | bool t=>
     rw[F]at q g O;have hp:=O.of (by simp);simp only[DV.enc]at hp;rw[hp];simp only;cases t with
     | lit t=>
       cases t with
       |true=>exact G7 a h1 hs q g u
       |false=>exact G7 b G hs q g u
     | dyn t=>
       have q:=(PX.if_den _ _ _).mp q;cases t with
       |true=>exact G7 a h1 (ni hs hp) (q.1 rfl) g u
       |false=>exact G7 b G (ni hs hp) (q.2 rfl) g u
   |_=>rw[F]at q;exact q.elim
 | .block i a,ho,d,y,s,e,k,hs,q,g,u=>by
   simp only[dev,DT.unexit_ok,DT.unexit_lf]at q g;obtain⟨N,U,h0⟩:=DT.ok_lf q;rw[h0]at g;simp only[Cq,Ao,An]at g;obtain⟨rfl,rfl⟩:=g;refine G7 a ho hs q h0 λz x=>?_;have:=u z x;cases N with
   |normal=>exact this
   |ret=>exact this
   | exit j=>
     simp only[bX];simp only[AExit.un]at this;split
     ·rename_i M;rw[Ac M]at this;exact this
     rename_i M;rw[Ae M]at this;exact this
 | .scope a,ho,d,y,s,e,k,hs,q,g,u=>by
   simp only[dev,DT.map_ok,DT.map_lf]at q g;obtain⟨N,U,h0⟩:=DT.ok_lf q;rw[h0]at g;simp only[Cq,Ao,An]at g;obtain⟨rfl,rfl⟩:=g;refine G7 a ho hs q h0 λz x=>?_;show k N (z.trunc s.hp.length);rw[<- hs.hp.len];exact u _ (x.trunc _)
 | .loop live n a,ho,d,y,s,e,k,hs,q,g,u=>by
   simp only[dev]at q g;exact Zho (λd=>Hw a d.clean) (λd s e y k hs q g u=>G7 a ho hs.clean q g u) hs q g u
 | .exit i,_,d,y,s,e,k,hs,q,g,u=>by
   simp only[dev,DT.lf,Ao,An]at g;obtain⟨rfl,rfl⟩:=g;exact u s hs
 | .ret,_,d,y,s,e,k,hs,q,g,u=>by
   simp only[dev,DT.lf,Ao,An]at g;obtain⟨rfl,rfl⟩:=g;exact u s hs
mutual
def DV.flt:DV->Bool
 |.bool _|.int _ _|.str _|.ifc _=>true|.agg cs=>DV.fltL cs|.f7 vs=>DV.fltL vs|_=>false
def DV.fltL:List DV->Bool
 |[]=>true|v::r=>v.flt&&DV.fltL r
end
mutual
theorem cj:∀(v:DV),v.flt=true->v.enc.flt=true
 |.bool _,_|.int _ _,_|.str _,_|.ifc _,_=>rfl
 |.agg cs,h=>bl cs h
 |.f7 cs,h=>bl cs h
theorem bl:∀(l:List DV),DV.fltL l=true->PV.fltL (DV.d6 l)=true
 |[],_=>rfl
 | v::r,h=>by
   simp only[DV.fltL,Ai]at h;simp only[DV.d6,PV.fltL,cj v h.1,bl r h.2,Dy]
end
theorem aX:∀(l:List DV),JT l=true->DV.okL l=true
 |[],_=>rfl
 | v::r,h=>by
   simp only[JT,Ai]at h;have:v.ok=true:=(by cases v<;>first|rfl|(have:=h.1;cases this));simp only[DV.okL,this,aX r h.2,Dy]
theorem EBx.segm2{a:List DC}{b:List PV}{o n:Nat}(h:EBx a b)(g:o+n<=a.length)(i:DV.okL (Ci (Cn a) o n)=true):Go.Ag.s_ b o n=DV.d6 (Ci (Cn a) o n)/\o+n<=b.length:=by
 rcases h with rfl|h
 ·simp only[A8,Nat.le_zero_eq,Nat.add_eq_zero_iff]at g;obtain⟨rfl,rfl⟩:=g;refine⟨?_,EE _⟩;cases b<;>rfl
 exact⟨h.s_ o n i,by rw[<- h.len];exact g⟩
theorem bP{st f4:DS}{s:PS}{r:ARes}{v:DV}(hs:ES st s)(h:Lu st r=some (v,f4))(q:v.ok=true):∃j,JL s r=some (v.enc,j)/\ES f4 j:=by
 cases r with
 | tmp t=>
   simp only[Lu]at h;split at h
   ·rename_i b;simp only[Ai]at b;simp only[Ao]at h;have I:(Bv (.t t) st).1.ok=true:=by
     have:(Bv (.t t) st).1=v:=(by simp only[Bv,h]);rw[this];exact q
    obtain⟨F,D⟩:=Fj (.t t) hs I;have J:Br st.sl t≠.any:=(by intro e;rw[e]at b;cases b.2);have hp:=(hs.sl.get t).of J;simp only[Bv,h,f']at F D;refine⟨(F5 (Aa s.sl t) t s).2,?_,D⟩;simp only[JL];rw[Ac (by rw[hp];exact kO _ b.1),<- F]
   cases h
 | cell t n=>
   simp only[Lu]at h;have hp:=hs.sl.get t;cases q:Br st.sl t with
   | box i o=>
     rw[q]at h hp;have hp:=hp.of (by simp);simp only at h;split at h
     ·rename_i b;simp only[Ai]at b;simp only[Ca]at h;obtain⟨⟨g,r⟩,h1,u⟩:=h;simp only at u;subst u;obtain⟨C,A⟩:=(hs.bx.get i).segm2 (Df b.1) (aX _ b.2);have x:g= .tt:=by
       unfold MI at h1;simp only[AS]at h1;split at h1
       ·simp only[Ca,An]at h1;obtain⟨_,_,rfl,_⟩:=h1;rfl
       cases h1
      subst x;obtain⟨j,z,y⟩:=ZE (p:=.box i o) hs (.inr rfl) h1;refine⟨j,?_,y⟩;simp only[JL,hp,DV.enc];rw[Ac ⟨A,by rw[C];exact WK _ b.2⟩];exact z
     cases h
   | ptr i o=>
     rw[q]at h hp;have hp:=hp.of (by simp);simp only at h;split at h
     ·rename_i b;simp only[Ai]at b;simp only[Ca]at h;obtain⟨⟨g,r⟩,h1,u⟩:=h;simp only at u;subst u;obtain⟨C,A⟩:=(hs.hp.get i).segm2 (Df b.1) (aX _ b.2);have x:g= .tt/\i<st.hp.length:=by
       unfold LD at h1;simp only[AS]at h1;split at h1
       ·rename_i G;simp only[Ai]at G;simp only[Ca,An]at h1;obtain⟨_,_,rfl,_⟩:=h1;exact⟨rfl,Df G.1.1⟩
       cases h1
      obtain⟨rfl,hi⟩:=x;obtain⟨j,z,y⟩:=ZG (p:=.ptr i o) hs (.inr rfl) h1 trivial;refine⟨j,?_,y⟩;simp only[JL,hp,DV.enc];rw[Ac ⟨by rw[<- hs.hp.len];exact hi,A,by rw[C];exact WK _ b.2⟩];exact z
     cases h
   |_=>rw[q]at h;cases h
theorem ai:∀ {res:List ARes} {st f4:DS} {s:PS} {b:List DV},ES st s->IK st res=some (b,f4)->DV.okL b=true->∃g,II s res=some (DV.d6 b,g)/\ES f4 g
 | [],st,f4,s,b,hs,h,_=>by
   simp only[IK,Ao,An]at h;obtain⟨rfl,rfl⟩:=h;exact⟨s,rfl,hs⟩
 | r :: rs,st,f4,s,b,hs,h,hk=>by
   simp only[IK]at h;split at h
   ·rename_i v st1 h1;split at h
    ·rename_i i j q;simp only[Ao,An]at h;obtain⟨rfl,rfl⟩:=h;simp only[DV.okL,Ai]at hk;obtain⟨z,y,x⟩:=bP hs h1 hk.1;obtain⟨n,u,t⟩:=ai x q hk.2;exact⟨n,by simp only[II,y,u,DV.d6],t⟩
    cases h
   cases h
theorem mR:∀ {res:List ARes} {st:DS} {s:PS} {v:DV},ES st s->G9 st res=some v->v.ok=true->∃b,LQ s res=some (v.enc,b):=by
 have i:∀ {res:List ARes} {st:DS} {s:PS} {v:DV},ES st s->v.ok=true->(IK st res).map (λx=>DV.f7 x.1)=some v->∃b,(II s res).map (λ(q,st)=>(PV.f7 q,st))=some (v.enc,b):=λhs g h=>by
  simp only[Ca]at h;obtain⟨⟨q,f4⟩,h1,rfl⟩:=h;obtain⟨b,n,_⟩:=ai hs h1 g;exact⟨b,by rw[n];rfl⟩
 intro res st s v hs h g;cases res with
 |nil=>exact i (res:=[]) hs g h
 | cons r j=>
   cases j with
   | nil=>
     simp only[G9,Ca]at h;obtain⟨⟨v',f4⟩,h1,rfl⟩:=h;obtain⟨b,n,_⟩:=bP hs h1 g;exact⟨b,n⟩
   |cons r2 j=>exact i (res:=r::r2::j) hs g h
theorem QA {res:List ARes}:∀ {t:DT} {g:PX} {v:DV},t.val res=(g,some v)->v≠.any->g.den ->
 t.ok.den/\∃e st n,t.lf=some (e,st)/\(∀i,e≠.exit i)/\G9 st res=some n/\n.ok=true/\v.enc=n.enc
 | .leaf e st,g,v,h,hv,j=>by
   have L:(match G9 st res with|some v=>if (v.ok&&!v.q_)=true then (PX.tt,some v)else (PX.ff,none)|none=>(PX.ff,none))=(g,some v)->G9 st res=some v/\v.ok=true:=λh=>by
    split at h
    ·split at h
     ·rename_i h1 q;simp only[An,Ao]at h;obtain⟨_,rfl⟩:=h;simp only[Ai]at q;exact⟨h1,q.1⟩
     simp at h
    simp at h
   cases e with
   |exit i=>simp[DT.val]at h
   |normal=>obtain⟨h1,q⟩:=L h;exact⟨trivial,.normal,st,v,rfl,by simp,h1,q,rfl⟩
   |ret=>obtain⟨h1,q⟩:=L h;exact⟨trivial,.ret,st,v,rfl,by simp,h1,q,rfl⟩
 | .node c a b,g,v,h,hv,j=>by
   simp only[DT.val]at h;have J:∀ {t:DT} {g:PX},t.val res=(g,none)->¬g.den:=by
    intro t;induction t with
    | leaf e st=>
      intro g h;cases e<;>simp only[DT.val]at h<;>(repeat' split at h)<;>simp only[An,reduceCtorEq,and_false,HB]at h<;>subst h<;>exact id
    | node c x y ih1 ih2=>
      intro g h j;simp only[DT.val]at h;cases h1:x.val res with
      | mk g1 s=>
        cases q:y.val res with
        | mk g2 u=>
          rw[h1,q]at h;cases s with
          | none=>
            simp only[An]at h;obtain⟨rfl,rfl⟩:=h;have:=(PX.if_den _ _ _).mp j;cases c with
            |true=>exact ih1 h1 (this.1 rfl)
            |false=>exact ih2 q (this.2 rfl)
          |some s=>cases u<;>simp at h
    | chk g0 t ih=>
      intro g h j;simp only[DT.val]at h;cases h1:t.val res with
      | mk g1 s=>
        rw[h1]at h;simp only[An]at h;obtain⟨rfl,rfl⟩:=h;exact ih h1 ((PX.m_ _ _).mp j).2
    | bad=>
      intro g h;simp only[DT.val,An,HB]at h;subst h;exact id
   cases h1:a.val res with
   | mk g1 s=>
     cases q:b.val res with
     | mk g2 u=>
       rw[h1,q]at h;have O:∀(s u:DV),g=PX.if' c g1 g2->a.val res=(g1,some s)->b.val res=(g2,some u)->v=Dz c s u->(DT.node c a b).ok.den/\∃e st n,(DT.node c a b).lf=some (e,st)/\(∀i,e≠.exit i)/\G9 st res=some n/\n.ok=true/\v.enc=n.enc:=by
        intro s u M h1 q C;subst M;have j:=(PX.if_den _ _ _).mp j;have N:=(Xr c s u).resolve_left (by rw[<- C];exact hv);rw[<- C]at N;have U:s≠.any:=(by rintro rfl;apply hv;rw[C];cases u<;>rfl);have R:u≠.any:=(by rintro rfl;apply hv;rw[C];cases s<;>rfl);show (PX.if' c a.ok b.ok).den/\∃e st n,(DT.node c a b).lf=some (e,st)/\(∀i,e≠.exit i)/\G9 st res=some n/\n.ok=true/\v.enc=n.enc;rw[PX.if_den];cases c with
        | true=>
          obtain⟨A,e,st,n,z,I,G,F,D⟩:=QA h1 U (j.1 rfl);exact⟨⟨λ_=>A,λh=>by cases h⟩,e,st,n,z,I,G,F,by rw[N];exact D⟩
        | false=>
          obtain⟨A,e,st,n,z,I,G,F,D⟩:=QA q R (j.2 rfl);exact⟨⟨λh=>(by cases h),λ_=>A⟩,e,st,n,z,I,G,F,by rw[N];exact D⟩
       cases s with
       | none=>
         simp only[An]at h;obtain⟨rfl,rfl⟩:=h;have j:=(PX.if_den _ _ _).mp j;show (PX.if' c a.ok b.ok).den/\_;rw[PX.if_den];cases c with
         |true=>exact absurd (j.1 rfl) (J h1)
         | false=>
           obtain⟨A,e,st,n,z,I,G,F,D⟩:=QA q hv (j.2 rfl);exact⟨⟨λh=>(by cases h),λ_=>A⟩,e,st,n,z,I,G,F,D⟩
       | some s=>
         cases u with
         | none=>
           simp only[An,Ao]at h;obtain⟨rfl,rfl⟩:=h;have j:=(PX.if_den _ _ _).mp j;show (PX.if' c a.ok b.ok).den/\_;rw[PX.if_den];cases c with
           |false=>exact absurd (j.2 rfl) (J q)
           | true=>
             obtain⟨A,e,st,n,z,I,G,F,D⟩:=QA h1 hv (j.1 rfl);exact⟨⟨λ_=>A,λh=>by cases h⟩,e,st,n,z,I,G,F,D⟩
         | some u=>
           simp only[An,Ao]at h;exact O s u h.1.symm h1 q h.2.symm
 | .chk g0 t,g,v,h,hv,j=>by
   simp only[DT.val]at h;cases h1:t.val res with
   | mk g1 s=>
     rw[h1]at h;simp only[An]at h;obtain⟨rfl,rfl⟩:=h;have j:=(PX.m_ _ _).mp j;obtain⟨A,z⟩:=QA h1 hv j.2;exact⟨(PX.m_ _ _).mpr ⟨j.1,A⟩,z⟩
 |.bad,g,v,h,hv,j=>by simp[DT.val]at h
theorem EL.append:∀ {a:List DC} {b:List PV} {c:List DC} {d:List PV},EL a b->EL c d->EL (a++c) (b++d)
 |[],[],_,_,_,h=>h
 |_::_,_::_,_,_,h,h'=>⟨h.1,EL.append h.2 h'⟩
theorem WI:∀(n:Nat),EL (JG n) (Jc n)
 |0=>trivial
 |n+1=>⟨.inl rfl,WI n⟩
theorem WW:∀(n:Nat),EB (JK n) (LJ n)
 |0=>trivial
 |n+1=>⟨.inl rfl,WW n⟩
theorem ZcE {f:DFun} (x:AllD f.body.t8) {args:List DV} {g:PX} {v:DV} (h:TL f args=(g,some v)) (z:g.den) (u:v≠.any) (y:args.length=f.nparams) (hp:f.pure=true->v.flt=true)
 {Q:PV->List (List PV)->Prop} (q:∀H,Q v.enc H):IP f.er (DV.d6 args) [] Q:=by
 unfold TL at h;obtain⟨G,e,st,I,h1,F,D,C,A⟩:=QA h u z;refine⟨by rw[FN];exact y,λ_=>rfl,?_⟩;refine G7 f.body x (d:=⟨news args++JG (f.nslots-f.nparams),JK f.nbox,[]⟩) ⟨(EL.news args).append (WI _),WW _,trivial⟩ G h1 λt j=>?_;obtain⟨J,s⟩:=mR j D C;rw[<- A]at s;have b:(match LQ t f.res with|some (v,st)=>if f.pure=true then v.flt=true/\Q v []else Q v st.hp|none=>False):=by
  rw[s];simp only;split
  ·rename_i n;exact⟨cj v (hp n),q _⟩
  exact q _
 cases e with
 |normal=>exact b
 |ret=>exact b
 |exit i=>exact absurd rfl (F i)
def TuX:List HT->Type
 |[]=>Unit|[a]=>a.D|a::r=>a.D×TuX r
def HW:(l:List HT)->List DV->Option (TuX l)
 |[],[]=>some ()|[a],[v]=>a.of v| a::b::r,v::vs=>(match a.of v,HW (b::r) vs with
   |some x,some y=>some (x,y)
   |_,_=>none)
 |_,_=>none
def Et:(l:List HT)->TuX l->List DV
 |[],_=>[]|[a],x=>[a.dv x]|a::b::r,x=>a.dv x.1::Et (b::r) x.2
inductive QT where
 |one (h:HT)|f7 (l:List HT)
def QT.D:QT->Type
 |.one h=>h.D|.f7 l=>TuX l
def QT.of:(q:QT)->DV->Option q.D
 |.one h,v=>h.of v|.f7 l,.f7 vs=>HW l vs|.f7 _,_=>none
def QT.dv:(q:QT)->q.D->DV
 |.one h,x=>h.dv x|.f7 l,x=>.f7 (Et l x)
def QT.ofO(q:QT):Option DV->Option q.D
 |some v=>q.of v|none=>none
def dV:(l:List (Ql×CT))->AgX l
 |[]=>()|[a]=>a.2.dflt|a::b::r=>(a.2.dflt,dV (b::r))
def HT.dflt:(h:HT)->h.D
 |.one _ t=>t.dflt|.agg l=>dV l
def nX:(l:List HT)->TuX l
 |[]=>()|[a]=>a.dflt|a::b::r=>(a.dflt,nX (b::r))
def QT.dflt:(q:QT)->q.D
 |.one h=>h.dflt|.f7 l=>nX l
def HT.flt:HT->Bool
 |.one _ t=>t.flat|.agg l=>l.all λa=>a.2.flat
def QT.flt:QT->Bool
 |.one h=>h.flt|.f7 l=>l.all HT.flt
theorem Yb:∀ {l:List HT} {g:List DV} {x:TuX l},HW l g=some x->DV.d6 (Et l x)=DV.d6 g
 |[],[],_,_=>rfl
 | [a],[v],x,h=>by
   show [(a.dv x).enc]=[v.enc];rw[(Tu (t:=a) h).1]
 | a :: b::r,v::g,x,h=>by
   have h':(match a.of v,HW (b::r) g with|some x,some y=>some (x,y)|_,_=>none)=some x:=h;clear h;cases h1:a.of v with
   |none=>rw[h1]at h';cases h'
   | some p=>
     cases i:HW (b::r) g with
     |none=>rw[h1,i]at h';cases h'
     | some q=>
       rw[h1,i]at h';have h':=C9 h';subst h';show (a.dv p).enc::DV.d6 (Et (b::r) q)=v.enc::DV.d6 g;rw[(Tu h1).1,Yb i]
theorem eJ{q:QT}{v:DV}{x:q.D}(h:q.of v=some x):(q.dv x).enc=v.enc/\v≠.any:=by
 cases q with
 |one t=>exact Tu (t:=t) h
 | f7 l=>
   cases v<;>try (cases h;done)
   rename_i cs;refine⟨?_,by simp⟩;show PV.f7 _=PV.f7 _;rw[Yb (l:=l) h]
theorem Sq:∀(l:List HT) (x:TuX l),(Et l x).length=l.length
 |[],_=>rfl
 |[_],_=>rfl
 | a::b::r,x=>by
   show (Et (b::r) x.2).length+1=(b::r).length+1;rw[Sq (b::r) x.2]
theorem dj{q:Ql}{t:CT}{v:DV}{x:t.D}(b:t.flat=true)(h:t.ofQ q v=some x):v.flt=true:=by
 cases t<;>first|(cases b;done)|skip
 all_goals (cases v<;>first|rfl|(cases h;done))
theorem oM:∀ {l:List (Ql×CT)} {g:List DV} {x:AgX l},l.all (λa=>a.2.flat)=true->HV l g=some x->DV.fltL g=true
 |[],[],_,_,_=>rfl
 | [a],[v],x,hf,h=>by
   simp only[FT,Xp,MX]at hf;simp only[DV.fltL,dj (q:=a.1) hf h,Dy]
 | a :: b::r,v::g,x,hf,h=>by
   have h':(match a.2.ofQ a.1 v,HV (b::r) g with|some x,some y=>some (x,y)|_,_=>none)=some x:=h;clear h;rw[FT,Ai]at hf;cases h1:a.2.ofQ a.1 v with
   |none=>rw[h1]at h';cases h'
   | some p=>
     cases i:HV (b::r) g with
     |none=>rw[h1,i]at h';cases h'
     |some q=>simp only[DV.fltL,dj hf.1 h1,oM hf.2 i,Dy]
theorem dy{t:HT}{v:DV}{x:t.D}(b:t.flt=true)(h:t.of v=some x):v.flt=true:=by
 cases t with
 |one q t=>exact dj (q:=q) (t:=t) b h
 | agg l=>
   cases v<;>try (cases h;done)
   exact oM (l:=l) b h
theorem oR:∀ {l:List HT} {g:List DV} {x:TuX l},l.all HT.flt=true->HW l g=some x->DV.fltL g=true
 |[],[],_,_,_=>rfl
 | [a],[v],x,hf,h=>by
   simp only[FT,Xp,MX]at hf;simp only[DV.fltL,dy (t:=a) hf h,Dy]
 | a :: b::r,v::g,x,hf,h=>by
   have h':(match a.of v,HW (b::r) g with|some x,some y=>some (x,y)|_,_=>none)=some x:=h;clear h;rw[FT,Ai]at hf;cases h1:a.of v with
   |none=>rw[h1]at h';cases h'
   | some p=>
     cases i:HW (b::r) g with
     |none=>rw[h1,i]at h';cases h'
     |some q=>simp only[DV.fltL,dy hf.1 h1,oR hf.2 i,Dy]
theorem n7{q:QT}{v:DV}{x:q.D}(b:q.flt=true)(h:q.of v=some x):v.flt=true:=by
 cases q with
 |one t=>exact dy (t:=t) b h
 | f7 l=>
   cases v<;>try (cases h;done)
   exact oR (l:=l) b h
def de(hs:List HT)(q:QT)(b:TuX hs->Prop)(v:TuX hs->q.D):M5:=λargs=>match HW hs args with
 |some x=>some (.p (b x),q.dv (v x))|none=>none
def DT.valQ(q:QT)(res:List ARes):DT->PX×Option q.D
 |.leaf (.exit _) _=>(.ff,none)| .leaf _ st=>(match G9 st res with
   | some v=>if v.ok&&!v.q_ then (match q.of v with
     |some y=>(.tt,some y)
     |none=>(.ff,none))else (.ff,none)
   |none=>(.ff,none))
 | .node c a b=>(match a.valQ q res,b.valQ q res with
   |(g,none),(g',y)=>(PX.if' c g g',y)
   |(g,x),(g',none)=>(PX.if' c g g',x)
   |(g,some x),(g',some y)=>(PX.if' c g g',some (Y_ c x y)))
 | .chk g t=>(match t.valQ q res with
   |(g',v)=>(g.land g',v))
 |.bad=>(.ff,none)
theorem Sb{q:QT}{res:List ARes}:∀ {t:DT} {g:PX},t.valQ q res=(g,none)->¬g.den
 | .leaf e st,g,h=>by
   cases e<;>simp only[DT.valQ]at h<;>(repeat' split at h)<;>simp only[An,reduceCtorEq,and_false,HB]at h<;>subst h<;>exact id
 | .node c x y,g,h=>by
   intro i;simp only[DT.valQ]at h;cases h1:x.valQ q res with
   | mk g1 b=>
     cases j:y.valQ q res with
     | mk g2 v2=>
       rw[h1,j]at h;cases b with
       | none=>
         simp only[An]at h;obtain⟨rfl,rfl⟩:=h;have:=(PX.if_den _ _ _).mp i;cases c with
         |true=>exact Sb h1 (this.1 rfl)
         |false=>exact Sb j (this.2 rfl)
       |some b=>cases v2<;>simp at h
 | .chk g0 t,g,h=>by
   intro i;simp only[DT.valQ]at h;cases h1:t.valQ q res with
   | mk g1 b=>
     rw[h1]at h;simp only[An]at h;obtain⟨rfl,rfl⟩:=h;exact Sb h1 ((PX.m_ _ _).mp i).2
 | .bad,g,h=>by
   simp only[DT.valQ,An,HB]at h;subst h;exact id
theorem XJ{q:QT}{res:List ARes}:∀ {t:DT} {g:PX} {y:q.D},t.valQ q res=(g,some y)->g.den ->
 t.ok.den/\∃e st n,t.lf=some (e,st)/\(∀i,e≠.exit i)/\G9 st res=some n/\n.ok=true/\q.of n=some y
 | .leaf e st,g,y,h,j=>by
   have C:(match G9 st res with|some v=>if (v.ok&&!v.q_)=true then (match q.of v with|some y=>(PX.tt,some y)|none=>(PX.ff,none))else (PX.ff,none)|none=>(PX.ff,none))=(g,some y)->∃v,G9 st res=some v/\v.ok=true/\q.of v=some y:=λh=>by
    split at h
    ·rename_i v L;split at h
     ·rename_i I;simp only[Ai]at I;split at h
      ·rename_i M J;simp only[An,Ao]at h;obtain⟨_,rfl⟩:=h;exact⟨v,L,I.1,J⟩
      simp at h
     simp at h
    simp at h
   cases e with
   |exit i=>simp[DT.valQ]at h
   |normal=>obtain⟨v,h1,s,G⟩:=C h;exact⟨trivial,.normal,st,v,rfl,by simp,h1,s,G⟩
   |ret=>obtain⟨v,h1,s,G⟩:=C h;exact⟨trivial,.ret,st,v,rfl,by simp,h1,s,G⟩
 | .node c a b,g,y,h,j=>by
   simp only[DT.valQ]at h;show (PX.if' c a.ok b.ok).den/\∃e st n,(DT.node c a b).lf=some (e,st)/\(∀i,e≠.exit i)/\G9 st res=some n/\n.ok=true/\q.of n=some y;rw[PX.if_den];cases h1:a.valQ q res with
   | mk g1 u=>
     cases s:b.valQ q res with
     | mk g2 x=>
       rw[h1,s]at h;have F:g=PX.if' c g1 g2:=by
        cases u<;>cases x<;>simp only[An]at h<;>exact h.1.symm
       subst F;have j:=(PX.if_den _ _ _).mp j;cases c with
       | true=>
         have:u=some y:=by
          cases u with
          |none=>exact absurd (j.1 rfl) (Sb h1)
          |some u=>cases x<;>simp only[An,CN]at h<;>exact h.2
         subst this;obtain⟨A,z⟩:=XJ h1 (j.1 rfl);exact⟨⟨λ_=>A,λh=>by cases h⟩,z⟩
       | false=>
         have:x=some y:=by
          cases x with
          |none=>exact absurd (j.2 rfl) (Sb s)
          |some x=>cases u<;>simp only[An,CH]at h<;>exact h.2
         subst this;obtain⟨A,z⟩:=XJ s (j.2 rfl);exact⟨⟨λh=>(by cases h),λ_=>A⟩,z⟩
 | .chk g0 t,g,y,h,j=>by
   simp only[DT.valQ]at h;cases h1:t.valQ q res with
   | mk g1 u=>
     rw[h1]at h;simp only[An]at h;obtain⟨rfl,rfl⟩:=h;have j:=(PX.m_ _ _).mp j;obtain⟨A,z⟩:=XJ h1 j.2;exact⟨(PX.m_ _ _).mpr ⟨j.1,A⟩,z⟩
 |.bad,g,y,h,j=>by simp[DT.valQ]at h
def QT.isB:QT->Bool
 |.one (.one _ .bool)=>true|_=>false
def TQ(f:DFun)(hs:List HT)(q:QT)(x:TuX hs):PX×Option q.D:=
 if q.isB then ((TL f (Et hs x)).1,q.ofO (TL f (Et hs x)).2)
 else (dev f.body ⟨news (Et hs x)++JG (f.nslots-f.nparams),JK f.nbox,[]⟩).valQ q f.res
def OS(f:DFun)(hs:List HT)(q:QT)(x:TuX hs):q.D:=(TQ f hs q x).2.getD q.dflt
def OH(f:DFun)(hs:List HT)(q:QT)(x:TuX hs):Prop:=(TQ f hs q x).1.den
def QC(f:DFun)(hs:List HT)(q:QT)(x:TuX hs):Bool:=(TQ f hs q x).2.isSome
def QN(f:DFun)(hs:List HT)(q:QT):Bool:=hs.length == f.nparams&&(!f.pure||q.flt)
theorem mw {f:DFun} {hs:List HT} {q:QT} (D:AllD f.body.t8) (b:QN f hs q=true) (x:TuX hs) (n:QC f hs q x=true) (s:OH f hs q x)
 {Q:PV->List (List PV)->Prop} (j:∀H,Q (q.dv (OS f hs q x)).enc H):IP f.er (DV.d6 (Et hs x)) [] Q:=by
 simp only[QN,Ai,A7,B7,Bq]at b;unfold QC at n;unfold OS at j;unfold OH at s;unfold TQ at n j s;by_cases F:q.isB=true
 ·rw[Ac F]at n j s;cases hd:TL f (Et hs x)with
  | mk g o=>
    rw[hd]at n j s;cases o with
    |none=>cases n
    | some w=>
      obtain⟨y,t⟩:=Option.isSome_iff_exists.mp n;rw[t]at j;have t:q.of w=some y:=t;obtain⟨h1,G⟩:=eJ t;refine ZcE D hd s G (by rw[Sq];exact b.1) (λhp=>n7 (by simpa [hp]using b.2) t) λH=>?_;have:=j H;rw[IH,h1]at this;exact this
 rw[Ae F]at n j s;cases hd:(dev f.body ⟨news (Et hs x)++JG (f.nslots-f.nparams),JK f.nbox,[]⟩).valQ q f.res with
 | mk g o=>
   rw[hd]at n j s;cases o with
   |none=>cases n
   | some y=>
     simp only[IH]at j;obtain⟨R,e,st,U,O,N,M,L,C⟩:=XJ hd s;obtain⟨h1,G⟩:=eJ C;refine⟨by rw[FN,Sq];exact b.1,λ_=>rfl,?_⟩;refine G7 f.body D (d:=⟨news (Et hs x)++JG (f.nslots-f.nparams),JK f.nbox,[]⟩) ⟨(EL.news _).append (WI _),WW _,trivial⟩ R O λJ z=>?_;obtain⟨Y,I⟩:=mR z M L;rw[<- h1]at I;have u:(match LQ J f.res with|some (v,st)=>if f.pure=true then v.flt=true/\Q v []else Q v st.hp|none=>False):=by
      rw[I];simp only;split
      ·rename_i A;exact⟨by rw[h1];exact cj _ (n7 (by simpa [A]using b.2) C),j _⟩
      exact j _
     cases e with
     |normal=>exact u
     |ret=>exact u
     |exit i=>exact absurd rfl (N i)
theorem ZeX{f:DFun}{hs:List HT}{q:QT}(s:AllD f.body.t8)(i:QN f hs q=true)(u:∀x,QC f hs q x=true){j:TuX hs->Prop}{v:TuX hs->q.D}(z:∀x,j x->OH f hs q x)(n:∀x,OS f hs q x=v x):Xy (IP f.er) (de hs q j v):=by
 intro args g w Q h t y;unfold de at h;cases b:HW hs args with
 |none=>rw[b]at h;cases h
 | some x=>
   rw[b]at h;simp only[Ao,An]at h;obtain⟨rfl,rfl⟩:=h;rw[<- Yb b];exact mw s i x (u x) (z x t) λH=>by rw[n];exact y H
attribute [irreducible] TQ OS OH QC QN
def Hg:List (Ql×CT)->List (Ql×CT)
 |[]=>[]|(.Z',_)::r=>Hg r|a::r=>a::Hg r
def Jh:List (Ql×CT)->List DV->List DV
 |[],_=>[]|(.Z',_)::r,vs=>.any::Jh r vs|_::r,v::vs=>v::Jh r vs|_::r,[]=>.any::Jh r []
def Oz:List (Ql×CT)->List DC->Option (List DV)
 |[],[]=>some []|(.Z',_)::r,c::l=>if c.d then none else Oz r l| _::r,c::l=>(match Oz r l with
   |some b=>some (c.v::b)
   |none=>none)
 |_,_=>none
def AH:List DV->List DC
 |[]=>[]|v::r=>⟨false,v⟩::AH r
def pM(st:DS):List ARes->Option (DV×DS)
 |[r]=>Lu st r| rs=>(match IK st rs with
   |some x=>some (.f7 x.1,x.2)
   |none=>none)
def DT.valR{α:Type}(R:DS->Option α):DT->PX×Option α
 |.leaf (.exit _) _=>(.ff,none)| .leaf _ st=>(match R st with
   |some y=>(.tt,some y)
   |none=>(.ff,none))
 | .node c a b=>(match a.valR R,b.valR R with
   |(g,none),(g',y)=>(PX.if' c g g',y)
   |(g,x),(g',none)=>(PX.if' c g g',x)
   |(g,some x),(g',some y)=>(PX.if' c g g',some (Y_ c x y)))
 | .chk g t=>(match t.valR R with
   |(g',v)=>(g.land g',v))
 |.bad=>(.ff,none)
theorem R7{α:Type}{R:DS->Option α}:∀ {t:DT} {g:PX},t.valR R=(g,none)->¬g.den
 | .leaf e st,g,h=>by
   cases e<;>simp only[DT.valR]at h<;>(repeat' split at h)<;>simp only[An,reduceCtorEq,and_false,HB]at h<;>subst h<;>exact id
 | .node c x y,g,h=>by
   intro i;simp only[DT.valR]at h;cases h1:x.valR R with
   | mk g1 b=>
     cases j:y.valR R with
     | mk g2 v2=>
       rw[h1,j]at h;cases b with
       | none=>
         simp only[An]at h;obtain⟨rfl,rfl⟩:=h;have:=(PX.if_den _ _ _).mp i;cases c with
         |true=>exact R7 h1 (this.1 rfl)
         |false=>exact R7 j (this.2 rfl)
       |some b=>cases v2<;>simp at h
 | .chk g0 t,g,h=>by
   intro i;simp only[DT.valR]at h;cases h1:t.valR R with
   | mk g1 b=>
     rw[h1]at h;simp only[An]at h;obtain⟨rfl,rfl⟩:=h;exact R7 h1 ((PX.m_ _ _).mp i).2
 | .bad,g,h=>by
   simp only[DT.valR,An,HB]at h;subst h;exact id
theorem Xw{α:Type}{R:DS->Option α}:∀ {t:DT} {g:PX} {y:α},t.valR R=(g,some y)->g.den ->
 t.ok.den/\∃e st,t.lf=some (e,st)/\(∀i,e≠.exit i)/\R st=some y
 | .leaf e st,g,y,h,j=>by
   have x:(match R st with|some y=>(PX.tt,some y)|none=>(PX.ff,none))=(g,some y)->R st=some y:=λh=>by
    split at h
    ·rename_i D C;simp only[An,Ao]at h;rw[C,h.2]
    simp at h
   cases e with
   |exit i=>simp[DT.valR]at h
   |normal=>exact⟨trivial,.normal,st,rfl,by simp,x h⟩
   |ret=>exact⟨trivial,.ret,st,rfl,by simp,x h⟩
 | .node c a b,g,y,h,j=>by
   simp only[DT.valR]at h;show (PX.if' c a.ok b.ok).den/\∃e st,(DT.node c a b).lf=some (e,st)/\(∀i,e≠.exit i)/\R st=some y;rw[PX.if_den];cases h1:a.valR R with
   | mk g1 n=>
     cases A:b.valR R with
     | mk g2 q=>
       rw[h1,A]at h;have z:g=PX.if' c g1 g2:=by
        cases n<;>cases q<;>simp only[An]at h<;>exact h.1.symm
       subst z;have j:=(PX.if_den _ _ _).mp j;cases c with
       | true=>
         have:n=some y:=by
          cases n with
          |none=>exact absurd (j.1 rfl) (R7 h1)
          |some n=>cases q<;>simp only[An,CN]at h<;>exact h.2
         subst this;obtain⟨u,s⟩:=Xw h1 (j.1 rfl);exact⟨⟨λ_=>u,λh=>by cases h⟩,s⟩
       | false=>
         have:q=some y:=by
          cases q with
          |none=>exact absurd (j.2 rfl) (R7 A)
          |some q=>cases n<;>simp only[An,CH]at h<;>exact h.2
         subst this;obtain⟨u,s⟩:=Xw A (j.2 rfl);exact⟨⟨λh=>(by cases h),λ_=>u⟩,s⟩
 | .chk g0 t,g,y,h,j=>by
   simp only[DT.valR]at h;cases h1:t.valR R with
   | mk g1 n=>
     rw[h1]at h;simp only[An]at h;obtain⟨rfl,rfl⟩:=h;have j:=(PX.m_ _ _).mp j;obtain⟨u,s⟩:=Xw h1 j.2;exact⟨(PX.m_ _ _).mpr ⟨j.1,u⟩,s⟩
 |.bad,g,y,h,j=>by simp[DT.valR]at h
theorem XR{p:DS->Prop}:∀ {t:DT} {e:AExit} {st:DS},t.All p->t.lf=some (e,st)->p st
 | .leaf _ _,_,_,h,hl=>by
   simp only[DT.lf,Ao,An]at hl;obtain⟨_,rfl⟩:=hl;exact h
 | .node c a b,_,_,h,hl=>by
   simp only[DT.lf]at hl;cases c with
   |true=>exact XR h.1 hl
   |false=>exact XR h.2 hl
 |.chk _ t,_,_,h,hl=>XR (t:=t) h hl
 |.bad,_,_,_,hl=>by cases hl
theorem jS{st f4:DS}{r:ARes}{v:DV}(h:Lu st r=some (v,f4)):d9 st f4:=by
 cases r with
 | tmp t=>
   simp only[Lu]at h;split at h
   ·simp only[Ao]at h;have:=d9.f' (.t t) st;simp only[Bv,h]at this;exact this
   cases h
 | cell t n=>
   simp only[Lu]at h;split at h
   ·split at h
    ·simp only[Ca]at h;obtain⟨⟨g,r⟩,h1,b⟩:=h;simp only at b;subst b;exact ZW h1
    cases h
   ·split at h
    ·simp only[Ca]at h;obtain⟨⟨g,r⟩,h1,b⟩:=h;simp only at b;subst b;exact Z7 h1
    cases h
   cases h
theorem iY:∀ {g:List ARes} {st f4:DS} {b:List DV},IK st g=some (b,f4)->d9 st f4
 | [],st,f4,b,h=>by
   simp only[IK,Ao,An]at h;rw[h.2];exact d9.refl _
 | r :: g,st,f4,b,h=>by
   simp only[IK]at h;split at h
   ·rename_i v st1 h1;split at h
    ·rename_i i j n;simp only[Ao,An]at h;obtain⟨_,rfl⟩:=h;exact(jS h1).trans (iY n)
    cases h
   cases h
theorem Zhj{res:List ARes}{st f4:DS}{s:PS}{v:DV}(hs:ES st s)(h:pM st res=some (v,f4))(q:v.ok=true):(∃b,LQ s res=some (v.enc,b)/\ES f4 b)/\d9 st f4:=by
 have g:∀ {res:List ARes},(match IK st res with|some x=>some (DV.f7 x.1,x.2)|none=>none)=some (v,f4)->(∃b,(II s res).map (λ(j,st)=>(PV.f7 j,st))=some (v.enc,b)/\ES f4 b)/\d9 st f4:=λ{res} h=>by
  split at h
  ·rename_i x n;obtain⟨j,st1⟩:=x;simp only[Ao,An]at h;obtain⟨rfl,rfl⟩:=h;obtain⟨b,u,t⟩:=ai hs n q;exact⟨⟨b,by rw[u];rfl,t⟩,iY n⟩
  cases h
 cases res with
 |nil=>exact g (res:=[]) h
 | cons r i=>
   cases i with
   |nil=>exact⟨bP hs h q,jS h⟩
   |cons r2 i=>exact g (res:=r::r2::i) h
theorem Wg:∀ {l:List (Ql×CT)} {i:List DV} {x:AgX l},HV l i=some x->(∀v∈i,v≠.any)/\∀v∈C5 l x,v≠.any
 |[],[],_,_=>⟨by simp,by simp[C5]⟩
 | [a],[v],x,h=>by
   obtain⟨h1,j⟩:=S9 (q:=a.1) (t:=a.2) h;refine⟨by simpa using j,λw g=>?_⟩;have g:w∈[a.2.dv a.1 x]:=g;rw[List.mem_singleton]at g;subst g;exact dv_known _ _ _
 | a :: b::r,v::i,x,h=>by
   have h':(match a.2.ofQ a.1 v,HV (b::r) i with|some x,some y=>some (x,y)|_,_=>none)=some x:=h;clear h;cases h1:a.2.ofQ a.1 v with
   |none=>rw[h1]at h';cases h'
   | some p=>
     cases j:HV (b::r) i with
     |none=>rw[h1,j]at h';cases h'
     | some q=>
       rw[h1,j]at h';have h':=C9 h';subst h';obtain⟨s,n⟩:=Wg j;refine⟨λw g=>?_,λw g=>?_⟩
       ·rcases Cu.mp g with rfl|g
        ·exact(S9 h1).2
        exact s w g
       have g:w∈a.2.dv a.1 p::C5 (b::r) q:=g;rcases Cu.mp g with rfl|g
       ·exact dv_known _ _ _
       exact n w g
where dv_known (q:Ql) (t:CT) (x:t.D):t.dv q x≠.any:=by cases t<;>simp[CT.dv]
theorem ZY:∀(l:List (Ql×CT)) (x:AgX l),(∀v∈C5 l x,v≠.any)/\(C5 l x).length=l.length
 |[],_=>⟨by simp[C5],rfl⟩
 |[a],x=>⟨λw g=>by
  have g:w∈[a.2.dv a.1 x]:=g;rw[List.mem_singleton]at g;subst g;exact Wg.dv_known _ _ _,rfl⟩
 | a :: b::r,x=>by
   obtain⟨h1,i⟩:=ZY (b::r) x.2;refine⟨λw g=>?_,?_⟩
   ·have g:w∈a.2.dv a.1 x.1::C5 (b::r) x.2:=g;rcases Cu.mp g with rfl|g
    ·exact Wg.dv_known _ _ _
    exact h1 w g
   show (C5 (b::r) x.2).length+1=(b::r).length+1;rw[i]
theorem bB:∀(cs:List (Ql×CT)) {X_:List DV} {i:List DC} {p:List PV} {g w:List DV},EL i p->Chg (AH X_) i->Oz cs i=some g->DV.d6 w=DV.d6 g->(∀v∈g,v≠.any)->(∀v∈w,v≠.any) ->
 X_.length=cs.length->(∀v∈X_,v≠.any)->p=DV.d6 (F3 X_ (Jh cs w))
 | [],X_,i,p,g,w,he,hc,hp,hw,n,hvw,hl,hb=>by
   have:X_=[]:=Dg hl;subst this;cases i with
   | nil=>cases p with
     |nil=>rfl
     |cons=>exact he.elim
   |cons=>cases hp
 | (q, t)::r,X_,i,p,g,w,he,hc,hp,hw,n,hvw,hl,hb=>by
   cases X_ with
   |nil=>cases hl
   |cons z X_=>
   cases i with
   |nil=>cases q<;>cases hp
   |cons c l=>
   cases p with
   |nil=>exact he.elim
   |cons x p=>
   have s:X_.length=r.length:=(by simpa using hl);have y:∀v∈X_,v≠.any:=λv n=>hb v (List.mem_cons_of_mem _ n);by_cases D:q= .Z'
   ·subst D;have hp:(if c.d then none else Oz r l)=some g:=hp;split at hp
    ·cases hp
    rename_i hd;have u:c=⟨false,z⟩:=hc.1.resolve_left hd;have A:x=z.enc:=by
     rcases he.1 with h|h
     ·rw[u]at h;exact absurd h (hb z (G6 ..))
     rw[h,u]
    show x::p=z.enc::DV.d6 (F3 X_ (Jh r w));rw[A,bB r he.2 hc.2 hp hw n hvw s y]
   have b:(match Oz r l with|some g=>some (c.v::g)|none=>none)=some g:=by
    cases q<;>first|exact absurd rfl D|exact hp
   cases j:Oz r l with
   |none=>rw[j]at b;cases b
   | some vs1=>
     rw[j]at b;have b:=C9 b;subst b;cases w with
     |nil=>cases hw
     |cons w0 w=>
     simp only[DV.d6,Gq]at hw;have A:x=w0.enc:=by
      rcases he.1 with h|h
      ·exact absurd h (n c.v (G6 ..))
      rw[h,hw.1]
     have C:w0.isAny=false:=by
      have:=hvw w0 (G6 ..);cases w0<;>first|rfl|exact absurd rfl this
     have e:Jh ((q,t)::r) (w0::w)=w0::Jh r w:=(by cases q<;>first|exact absurd rfl D|rfl);rw[e];simp only[F3,C,AY,A3,DV.d6];rw[A,bB r he.2 hc.2 j hw.2 (λv h=>n v (List.mem_cons_of_mem _ h)) (λv h=>hvw v (List.mem_cons_of_mem _ h)) s y]
theorem cG:∀(l:List DV),EL (AH l) (DV.d6 l)
 |[]=>trivial
 |_::r=>⟨.inr rfl,cG r⟩
open Go.RowKit Go.WideShapes Go.ChangeShapes
inductive Ty where
 |int (k:IntKind)|bool|str|sl (t:Ty)|unit|pair (a b:Ty)
def Ty.w:Ty->Nat
 |.int _|.bool|.str|.sl _=>1|.unit=>0|.pair a b=>a.w+b.w
def TN(P:Program)(f:TypeId->Option Ty):List Field->Nat->Option Ty
 |[],_=>some .unit| g::r,off=>
   match f g.type with
   |some a=>if g.offset=off/\a.w=P.cellsOf g.type then (match TN P f r (off+a.w)with|some b=>some (.pair a b)|none=>none)else none
   |none=>none
def JZ(P:Program):Nat->TypeId->Option Ty
 |0,_=>none| d+1,t=>
   match P.underlying t with
   |some (.int k)=>some (.int k)
   |some .bool=>some .bool
   |some .string=>some .str
   |some (.slice e)=>(match JZ P d e with|some b=>if b.w=P.cellsOf e/\0<b.w then some (.sl b)else none|none=>none)
   |some (.struct fs)=>(match TN P (JZ P d) fs.toList 0 with|some ty=>if ty.w=P.cellsOf t then some ty else none|none=>none)
   |_=>none
def Sh(σ:Ab):Ty->List V->Prop
 |.int k,cs=>∃n,cs=[.int k n]/\(Lit.int k n).wf=true|.bool,cs=>∃b,cs=[.bool b]|.str,cs=>∃s,cs=[.str s]/\s.length<=maxLen|.sl t,cs=>cs=[.b_]\/∃(l n:Nat) (g:List V),cs=[.slice l 0 n]/\σ[l]?=some ⟨.ro,t.w,g⟩/\g.length=n*t.w/\n<=maxLen/\∀i,i<n->Sh σ t ((g.drop (i*t.w)).take t.w)|.unit,cs=>cs=[]|.pair a b,cs=>∃q j,cs=q++j/\Sh σ a q/\Sh σ b j
theorem Sh.len{σ:Ab}:∀ {ty:Ty} {cs:List V},Sh σ ty cs->cs.length=ty.w
 |.int _,_,⟨_,h,_⟩=>by rw[h];rfl
 |.bool,_,⟨_,h⟩=>by rw[h];rfl
 |.str,_,⟨_,h,_⟩=>by rw[h];rfl
 |.sl _,_,h=>by rcases h with h|⟨_,_,_,h,_⟩<;>rw[h]<;>rfl
 |.unit,_,h=>by rw[h];rfl
 |.pair a b,_,⟨xs,ys,h,h1,h2⟩=>by rw[h,CK,h1.len,h2.len];rfl
theorem Sh.mono{σ e:Ab}:∀ {ty:Ty} {cs:List V},Sh σ ty cs->Sh (σ++e) ty cs
 |.int _,_,h=>h
 |.bool,_,h=>h
 |.str,_,h=>h
 | .sl _,_,h=>by
   rcases h with h|⟨l,n,q,h,h1,b,j,g⟩
   ·exact .inl h
   exact .inr ⟨l,n,q,h,by rw[Bj (Bw h1)];exact h1,b,j,λi hi=>(g i hi).mono⟩
 |.unit,_,h=>h
 |.pair _ _,_,⟨xs,ys,h,h1,b⟩=>⟨xs,ys,h,h1.mono,b.mono⟩
def EJ(σ:Ab):Prop:=∀(l:Nat) (b:Blk),σ[l]?=some b->b.k= .ro
def Tz(ι:AF)(σ:Ab)(W:World)(ty:Ty)(cs:List Value):Prop:=∃ι' e vs,HRel ι' (σ++e) W/\Keeps ι σ ι' (σ++e)/\EJ (σ++e)/\Sh (σ++e) ty vs/\vs.length=cs.length/\∀(i:Nat) v x,vs[i]?=some v->cs[i]?=some x->v.cell=true/\∀β,Rel ι' (σ++e) β v x
theorem HRel.lay{ι:AF}{σ:Ab}{W:World}(h:HRel ι σ W)(s:EJ σ){b off c:Nat}{wd:Nat}{q:List V}(C:b<W.heap.size)(A:∀(i:Nat) v,q[i]?=some v->v.cell=true/\∃x,W.cell? ⟨b,off+i,none⟩=some x/\∀β,Rel ι σ β v x):HRel (upd ι σ.length ⟨b,off,c⟩) (σ++[⟨.ro,wd,q⟩]) W/\EJ (σ++[⟨.ro,wd,q⟩]):=by
 have K:=R6 ι σ ⟨b,off,c⟩ ⟨.ro,wd,q⟩;have j:EJ (σ++[⟨.ro,wd,q⟩]):=by
  intro l X_ g;rcases Gg g with⟨_,g⟩|⟨_,rfl⟩
  ·exact s l X_ g
  rfl
 refine⟨⟨λl X_ g n i v u=>?_,λl X_ g n=>?_,λl l' X_ F G g y n z=>?_,λl X_ g n=>?_⟩,j⟩
 ·rcases Gg g with⟨D,g⟩|⟨rfl,rfl⟩
  ·rw[DG _ _ _ _ (by omega)];obtain⟨a,x,t,c⟩:=h.cells l X_ g n i v u;exact⟨a,x,t,λβ=>(c β).cellMono K a⟩
  rw[CB];obtain⟨a,x,t,c⟩:=A i v u;exact⟨a,x,t,λβ=>(c β).cellMono K a⟩
 ·have:=j l X_ g;rw[n]at this;cases this
 ·have:=j l X_ g;rw[n]at this;cases this
 rcases Gg g with⟨D,g⟩|⟨rfl,rfl⟩
 ·rw[DG _ _ _ _ (by omega)];exact h.there l X_ g n
 rw[CB];exact C
theorem Zat{w:World}{a:Addr}{v:Value}(h:w.cell? a=some v):a.block<w.heap.size:=by
 unfold World.cell? at h;rcases Bx a.block w.heap.size with h1|h1
 ·exact h1
 rw[Array.getElem?_eq_none h1]at h;cases h
theorem XM{α:Type}{l:List α}{i:Nat}{v:α}(h:l[i]?=some v):i<l.length:=by
 rcases Bx i l.length with h1|h1
 ·exact h1
 rw[BO h1]at h;cases h
section
variable {H:Type} {enc:TypeId×Value->H} {P:Program} {W:World}
theorem iS(d:Nat)(F:∀(t:TypeId)(ty:Ty),JZ P d t=some ty->∀(j:Nat)(cs:List Value) x,DataW.trod enc P W 0 (λ_=>true) true j t cs=some x->∀(ι:AF)(σ:Ab),HRel ι σ W->EJ σ->Tz ι σ W ty cs):∀(I:List Field) (off:Nat) (ty:Ty),TN P (JZ P d) I off=some ty->∀(j:Nat) (cs:List Value),(∀g∈I,∃x,DataW.trod enc P W 0 (λ_=>true) true j g.type ((cs.drop g.offset).take (P.cellsOf g.type))=some x) ->
   off+ty.w=cs.length->∀(ι:AF) (σ:Ab),HRel ι σ W->EJ σ->Tz ι σ W ty (cs.drop off)
 | [],off,ty,h,j,cs,_,hl,ι,σ,H,hro=>by
   simp only[TN,Ao]at h;subst h;simp only[Ty.w,E4]at hl;have:cs.drop off=[]:=(by rw[hl];simp);rw[this];exact⟨ι,[],[],by simpa using H,by simpa using Keeps.refl ι σ,by simpa using hro,rfl,rfl,by simp⟩
 | g :: r, off,ty,h,j,cs,hg,hl,ι,σ,H,hro=>by
   simp only[TN]at h;split at h
   ·rename_i a U;split at h
    ·rename_i O;obtain⟨h1,h2⟩:=O;split at h
     ·rename_i b R;cases h;simp only[Ty.w]at hl;obtain⟨x,G⟩:=hg g (by simp);rw[h1]at G;obtain⟨ι1,J,n,H1,K1,R1,L,L1,C1⟩:=F g.type a U j _ x G ι σ H hro;obtain⟨ι2,Z,s,H2,M,R2,S2,L2,C2⟩:=iS d F r (off+a.w) b R j cs (λY D=>hg Y (by simp[D])) (by omega) ι1 (σ++J) H1 R1;refine⟨ι2,J++Z,n++s,by rw[<- Cb];exact H2,by rw[<- Cb];exact K1.trans M,by rw[<- Cb];exact R2,⟨n,s,rfl,by rw[<- Cb];exact L.mono,by rw[<- Cb];exact S2⟩,?_,λi v y z C=>?_⟩
      ·rw[CK,L1,L2];simp;omega
      have N:n.length=a.w:=L.len;by_cases hi:i<n.length
      ·rw[Bj hi]at z;have q:((cs.drop off).take (P.cellsOf g.type))[i]?=some y:=by
        rw[IQ,Ac (by omega)];exact C
       obtain⟨u,A⟩:=C1 i v y z q;exact⟨u,λβ=>by rw[<- Cb];exact(A β).cellMono M u⟩
      rw[Da (by omega)]at z;have q:(cs.drop (off+a.w))[i-n.length]?=some y:=by
       rw[Lz]at C ⊢;have:off+a.w+(i-n.length)=off+i:=(by omega);rw[this];exact C
      obtain⟨u,A⟩:=C2 _ v y z q;exact⟨u,λβ=>by rw[<- Cb];exact A β⟩
     cases h
    cases h
   cases h
theorem nN{b o:Nat}(n:Nat):Addr.add ⟨b,o,none⟩ n=⟨b,o+n,none⟩:=by
 unfold Addr.add;split
 ·rename_i h;subst h;rfl
 rfl
theorem jn {d:Nat} (L:∀(t:TypeId) (ty:Ty),JZ P d t=some ty->∀(q:Nat) (cs:List Value) x,DataW.trod enc P W 0 (λ_=>true) true q t cs=some x->∀(ι:AF) (σ:Ab),HRel ι σ W->EJ σ->Tz ι σ W ty cs)
 {e:TypeId} {g:Ty} (z:JZ P d e=some g) (hw:g.w=P.cellsOf e) {q b o:Nat}:
 ∀(n:Nat),(∀i,i<n->∃cs x,W.cells? 0 ⟨b,o+i*g.w,none⟩ g.w=some cs/\DataW.trod enc P W 0 (λ_=>true) true q e cs=some x)->∀(ι:AF) (σ:Ab),HRel ι σ W->EJ σ ->
   ∃(ι':AF) (ext:Ab) (s:List V),HRel ι' (σ++ext) W/\Keeps ι σ ι' (σ++ext)/\EJ (σ++ext)/\s.length=n*g.w/\(∀i,i<n->Sh (σ++ext) g ((s.drop (i*g.w)).take g.w)) /\
     ∀(j:Nat) v,s[j]?=some v->v.cell=true/\∃x,W.cell? ⟨b,o+j,none⟩=some x/\∀β,Rel ι' (σ++ext) β v x
 |0,_,ι,σ,H0,hro=>⟨ι,[],[],by simpa using H0,by simpa using Keeps.refl ι σ,by simpa using hro,by simp,λi hi=>absurd hi (Oi i),by simp⟩
 | n + 1,hn,ι,σ,H0,hro=>by
   obtain⟨ι1,N,s,H1,K1,R1,R,S1,C1⟩:=jn L z hw n (λi hi=>hn i (Nat.lt_succ_of_lt hi)) ι σ H0 hro;obtain⟨cs,x,hc,Z⟩:=hn n (SV n);obtain⟨ι2,e2,D,H2,U,R2,S2,O,C2⟩:=L e g z q cs x Z ι1 (σ++N) H1 R1;obtain⟨_,C,J⟩:=World.cells?_some hc;refine⟨ι2,N++e2,s++D,by rw[<- Cb];exact H2,by rw[<- Cb];exact K1.trans U,by rw[<- Cb];exact R2,?_,λi hi=>?_,λj v u=>?_⟩
   ·rw[CK,R,O,C,NZ]
   ·rw[<- Cb];by_cases h:i<n
    ·have h1:(i+1)*g.w<=n*g.w:=G5 _ h;rw[NZ]at h1;have:((s++D).drop (i*g.w)).take g.w=(s.drop (i*g.w)).take g.w:=by
      rw[List.drop_append_of_le_length (by omega),List.take_append_of_le_length (by rw[Qw];omega)]
     rw[this];exact(S1 i h).mono
    have:i=n:=(by omega);subst this;have:((s++D).drop (i*g.w)).take g.w=D:=by
     rw[<- R,List.drop_left,Xo (by omega)]
    rw[this];exact S2
   by_cases h:j<s.length
   ·rw[Bj h]at u;obtain⟨F,y,G,Y⟩:=C1 j v u;exact⟨F,y,G,λβ=>by rw[<- Cb];exact(Y β).cellMono U F⟩
   rw[Da (by omega)]at u;have h_:=XM u;have A:j-s.length<g.w:=(by rw[<- C,<- O];exact h_);have I:=J (j-s.length) A;rw[nN]at I;have e0:o+n*g.w+(j-s.length)=o+j:=(by omega);rw[e0]at I;obtain⟨y,M⟩:∃y,cs[j-s.length]?=some y:=⟨_,A9 (by omega)⟩;obtain⟨F,G⟩:=C2 _ v y u M;exact⟨F,y,I.trans M,λβ=>by rw[<- Cb];exact G β⟩
theorem ZA:∀(d:Nat) (t:TypeId) (ty:Ty),JZ P d t=some ty->∀(L:Nat) (cs:List Value) x,DataW.trod enc P W 0 (λ_=>true) true L t cs=some x->∀(ι:AF) (σ:Ab),HRel ι σ W->EJ σ->Tz ι σ W ty cs
 |0,_,_,h=>by simp[JZ]at h
 | d + 1, t, ty,h=>by
   intro L cs x Y ι σ H0 hro;have D:∀(v:V) (y:Value),cs=[y]->v.cell=true->(∀β,Rel ι σ β v y)->Sh σ ty [v]->Tz ι σ W ty cs:=by
    intro v y A hv hr hs;refine⟨ι,[],[v],by simpa using H0,by simpa using Keeps.refl ι σ,by simpa using hro,by simpa using hs,by rw[A];rfl,λi u z q G=>?_⟩;rw[A]at G;cases i with
    |zero=>simp at q G;subst q;subst G;exact⟨hv,by simpa using hr⟩
    |succ i=>simp at q
   unfold JZ at h;split at h
   ·rename_i k q;cases h;obtain⟨n,A,_,N⟩:=DataW.trod_int q Y;exact D (.int k n) _ A rfl (λβ=>.int k n) ⟨n,rfl,N⟩
   ·rename_i q;cases h;obtain⟨b,A,_⟩:=DataW.trod_bool q Y;exact D (.bool b) _ A rfl (λβ=>.bool b) ⟨b,rfl⟩
   ·rename_i q;cases h;obtain⟨s,A,_,N⟩:=DataW.trod_string q Y;exact D (.str s.data.toList) _ A rfl (λβ=>by have:=Rel.str (ι:=ι) (σ:=σ) (β:=β) s.data.toList;simpa using this) ⟨s.data.toList,rfl,by simpa using N⟩
   ·rename_i e q;split at h
    ·rename_i C hte;split at h
     ·rename_i Z;obtain⟨Z,hpos⟩:=Z;cases h;rcases DataW.trod_slice q Y with⟨A,_⟩|⟨a,j,cap,O,U,n,_,A,_,_,hle,hcap,hel,hE,hR,_⟩
      ·exact D .b_ _ A rfl (λβ=>.b_ none) (.inl rfl)
      obtain⟨hrl,hR⟩:=hR rfl;have F:∀i,i<cap->∃cs' y,W.cells? 0 (a.add (i*P.cellsOf e)) (P.cellsOf e)=some cs'/\DataW.trod enc P W 0 (λ_=>true) true n e cs'=some y:=by
       intro i hi;by_cases h:i<j
       ·have h1:=hE i h;obtain⟨y,hy⟩:∃y,O[i]?=some y:=⟨_,A9 (by omega)⟩;rw[hy,B9]at h1;obtain⟨cs',h1,h2⟩:=h1;exact⟨cs',y,h1,h2⟩
       have h1:=hR (i-j) (by omega);obtain⟨y,hy⟩:∃y,U[i-j]?=some y:=⟨_,A9 (by omega)⟩;rw[hy,B9]at h1;obtain⟨cs',h1,h2⟩:=h1;rw[show j+(i-j)=i by omega]at h1;exact⟨cs',y,h1,h2⟩
      by_cases hc0:cap=0
      ·subst hc0;have:j=0:=(by omega);subst this;exact D .b_ _ A rfl (λβ=>.b_ (some a)) (.inl rfl)
      have I:a.spot=none/\a.block<W.heap.size:=by
       obtain⟨cs',y,h1,_⟩:=F 0 (by omega);obtain⟨_,h2,h3⟩:=World.cells?_some h1;have h4:=h3 0 (by omega);obtain⟨z,G⟩:∃z,cs'[0]?=some z:=⟨_,A9 (by omega)⟩;rw[G]at h4;have h5:W.cell? a=some z:=(by simpa [Addr.add]using h4);exact⟨World.cell?_spot h5,Zat h5⟩
      obtain⟨ab,ao,asp⟩:=a;obtain⟨I,h_⟩:=I;simp only at I h_;subst I;have J:∀i,i<j->∃cs' y,W.cells? 0 ⟨ab,ao+i*C.w,none⟩ C.w=some cs'/\DataW.trod enc P W 0 (λ_=>true) true n e cs'=some y:=by
       intro i hi;have:=F i (by omega);rw[nN,<- Z]at this;exact this
      obtain⟨ι1,M,R,H1,K1,R1,L1,S1,C1⟩:=jn (ZA d) hte Z j J ι σ H0 hro;obtain⟨H2,R2⟩:=H1.lay R1 (c:=cap*C.w) (wd:=C.w) h_ C1;have K2:=R6 ι1 (σ++M) ⟨ab,ao,cap*C.w⟩ ⟨.ro,C.w,R⟩;have hg:((σ++M)++[(⟨.ro,C.w,R⟩:Blk)])[(σ++M).length]?=some ⟨.ro,C.w,R⟩:=(by simp);refine⟨_,M++[⟨.ro,C.w,R⟩],[.slice (σ++M).length 0 j],by rw[<- Cb];exact H2,by rw[<- Cb];exact K1.trans K2,by rw[<- Cb];exact R2,.inr ⟨_,j,R,rfl,by rw[<- Cb];exact hg,L1,by omega,λi hi=>by rw[<- Cb];exact(S1 i hi).mono⟩,by rw[A];rfl,λi u z q G=>?_⟩;rw[A]at G;cases i with
      | zero=>
        simp at q G;subst q;subst G;refine⟨rfl,λβ=>?_⟩;have:=Rel.slice (ι:=upd ι1 (σ++M).length ⟨ab,ao,cap*C.w⟩) (σ:=(σ++M)++[⟨.ro,C.w,R⟩]) (β:=β) (σ++M).length 0 j cap ⟨.ro,C.w,R⟩ hg hle (by rw[CB];simp) (by first|assumption|(simp only;omega));rw[CB]at this;simpa using this
      |succ i=>simp at q
     cases h
    cases h
   ·rename_i fs q;split at h
    ·rename_i ty' hty;split at h
     ·rename_i Z;cases h;obtain⟨xs,n,_,_,hl,hxl,hf⟩:=DataW.trod_struct q Y;have:=iS (enc:=enc) d (ZA d) fs.toList 0 _ hty n cs (λg hg=>by
       obtain⟨i,hi⟩:=JH hg;have h1:=hf i g (by simpa using hi);have:i<xs.length:=(by rw[hxl];have:=XM hi;simpa using this);exact⟨_,h1.trans (A9 this)⟩) (by omega) ι σ H0 hro
      simpa using this
     cases h
    cases h
   cases h
end
open Go.RowKit Go.WideShapes Go.ChangeShapes
def ez(P:Program)(d:Nat)(t:TypeId):Option (Ty×Bool):=
 match JZ P d t with
 | some ty=>(match P.underlying t with
   |some (.struct _)=>some (ty,true)
   |some (.int _)|some .bool|some .string|some (.slice _)=>some (ty,false)
   |_=>none)
 |none=>none
def Qv(P:Program)(d:Nat):List TypeId->Option (List (Ty×Bool))
 |[]=>some []| t::r=>match ez P d t,Qv P d r with
   |some a,some b=>some (a::b)
   |_,_=>none
def ArgOk(σ:Ab):Ty×Bool->V->Prop
 |(ty,true),v=>∃cs,v= .agg cs/\Sh σ ty cs/\cs.all V.cell=true|(ty,false),v=>Sh σ ty [v]/\v.cell=true
def Qt(σ:Ab):List (Ty×Bool)->List V->Prop
 |[],[]=>True|a::r,v::s=>ArgOk σ a v/\Qt σ r s|_,_=>False
theorem ArgOk.mono{σ e:Ab}{a:Ty×Bool}{v:V}(h:ArgOk σ a v):ArgOk (σ++e) a v:=by
 obtain⟨ty,b⟩:=a;cases b with
 |true=>obtain⟨cs,h1,i,g⟩:=h;exact⟨cs,h1,i.mono,g⟩
 |false=>exact⟨h.1.mono,h.2⟩
theorem ArgOk.noBox{σ:Ab}{a:Ty×Bool}{v:V}(h:ArgOk σ a v):∀i o,v≠.box i o:=by
 obtain⟨ty,b⟩:=a;intro i o e;subst e;cases b with
 |true=>obtain⟨cs,h1,_⟩:=h;cases h1
 |false=>have:=h.2;cases this
section
variable {H:Type} {enc:TypeId×Value->H} {P:Program} {W:World} {r:Reach} {base:Nat}
theorem Zdp {d:Nat} {t:TypeId} {a:Ty×Bool} (b:ez P d t=some a) {v:Value} {Z:DataW H} {O:List MemPlace} (h:DataW.Trod enc P W 0 (λ_=>true) true t v Z O) (F:Value.okWide P W r base t v)
 (ι:AF) (σ:Ab) (H0:HRel ι σ W) (J:EJ σ):
 ∃ι' e u,HRel ι' (σ++e) W/\Keeps ι σ ι' (σ++e)/\EJ (σ++e)/\ArgOk (σ++e) a u/\∀β,Rel ι' (σ++e) β u v:=by
 unfold ez at b;split at b
 ·rename_i ty I;obtain⟨D,R⟩:=h;obtain⟨ι',e,C,h1,N,M,G,A,s⟩:=ZA d t ty I D _ _ R ι σ H0 J;have g:∀(L:v.cells=#[v]),a=(ty,false)->∃ι' e u,HRel ι' (σ++e) W/\Keeps ι σ ι' (σ++e)/\EJ (σ++e)/\ArgOk (σ++e) a u/\∀β,Rel ι' (σ++e) β u v:=by
   intro L Y;rw[L]at A s
   match C,A,G,s with
   | [u],_,G,s=>
     obtain⟨c1,c2⟩:=s 0 u v rfl rfl;exact⟨ι',e,u,h1,N,M,by rw[Y];exact⟨G,c1⟩,c2⟩
  split at b
  ·rename_i fs j;cases b;obtain⟨cs,rfl,_⟩:=okWide_struct j F;replace A:C.length=cs.toList.length:=A;refine⟨ι',e,.agg C,h1,N,M,⟨C,rfl,G,?_⟩,λβ=>?_⟩
   ·rw[Du];intro u q;obtain⟨i,hi⟩:=JH q;have:i<cs.toList.length:=(by rw[<- A];exact XM hi);exact(s i u _ hi (A9 this)).1
   have:=Rel.agg (ι:=ι') (σ:=σ++e) (β:=β) C cs.toList A (λu q=>by
    obtain⟨i,hi⟩:=JH q;have:i<cs.toList.length:=(by rw[<- A];exact XM hi);exact(s i u _ hi (A9 this)).1) (λi u w hi U=>(s i u w hi U).2 β)
   simpa using this
  ·rename_i k j;cases b;obtain⟨n,rfl⟩:=okWide_int j F;exact g rfl rfl
  ·rename_i j;cases b;obtain⟨n,rfl⟩:=okWide_bool j F;exact g rfl rfl
  ·rename_i j;cases b;obtain⟨n,rfl⟩:=okWide_string j F;exact g rfl rfl
  ·rename_i el j;cases b;obtain⟨x,y,z,rfl⟩:=okWide_slice j F;exact g rfl rfl
  cases b
 cases b
theorem jx{d:Nat}:∀ {s:List TypeId} {tys:List (Ty×Bool)},Qv P d s=some tys->∀ {g:List Value} {A:List (DataW H)} {y:List MemPlace},DataW.TrodAll enc P W 0 (λ_=>true) true s g A y ->
 (∀(j:Nat) t v,s[j]?=some t->g[j]?=some v->Value.okWide P W r base t v)->∀(ι:AF) (σ:Ab),HRel ι σ W->EJ σ ->
 ∃ι' e us,HRel ι' (σ++e) W/\Keeps ι σ ι' (σ++e)/\EJ (σ++e)/\Qt (σ++e) tys us/\us.length=g.length/\∀(i:Nat) u v,us[i]?=some u->g[i]?=some v->(∀j o,u≠.box j o)/\∀β,Rel ι' (σ++e) β u v
 | [],tys,h,g,A,y,hd,_,ι,σ,H0,hro=>by
   obtain⟨rfl,_,_⟩:=trodAll_nil hd;cases h;exact⟨ι,[],[],by simpa using H0,by simpa using Keeps.refl ι σ,by simpa using hro,trivial,rfl,by simp⟩
 | t :: s,tys,h,g,A,y,hd,d8,ι,σ,H0,hro=>by
   obtain⟨v,G,x,R,p,q,rfl,rfl,rfl,h1,N⟩:=trodAll_cons hd;unfold Qv at h;split at h
   ·rename_i a b M L;cases h;obtain⟨ι1,D,u,H1,K1,Y,C,C1⟩:=Zdp M h1 (d8 0 t v rfl rfl) ι σ H0 hro;obtain⟨ι2,O,us,H2,F,U,A2,Z,C2⟩:=jx L N (λj I v' J n=>d8 (j+1) I v' J n) ι1 (σ++D) H1 Y;refine⟨ι2,D++O,u::us,by rw[<- Cb];exact H2,by rw[<- Cb];exact K1.trans F,by rw[<- Cb];exact U,by rw[<- Cb];exact⟨C.mono,A2⟩,by simp[Z],λi u' v' z n=>?_⟩;rw[<- Cb];cases i with
    | zero=>
      simp at z n;subst z;subst n;exact⟨C.noBox,λβ=>(C1 β).mono F (λj o e=>absurd e (C.noBox j o))⟩
    |succ i=>exact C2 i u' v' (by simpa using z) (by simpa using n)
   cases h
end
def dA(P:Program)(b:List TypeId):Bool:=b.all λt=>P.readableRec t&&decide (t<P.types.size)
theorem iB{H:Type}{enc:TypeId×Value->H}{P:Program}(u:laidOutB P=true){W z:World}{i:Nat->Bool}:∀ {n:List TypeId} {j:List Value} {s:List (DataW H)} {g:List MemPlace},dA P n=true ->
 DataW.TrodAll enc P W 0 (λ_=>true) true n j s g->(∀p∈g,W.sameAt z p)->(∀p∈g,i p.block=true)->DataW.TrodAll enc P z 0 i true n j s g
 | [],j,s,g,_,h,_,_=>by
   obtain⟨rfl,rfl,rfl⟩:=trodAll_nil h;rfl
 | t::n,j,s,g,hr,h,h1,h2=>by
   obtain⟨v,A,x,F,p,q,rfl,rfl,rfl,D,C⟩:=trodAll_cons h;unfold dA at hr;rw[FT,Ai,Ai,Av]at hr;exact⟨p,q,WideElems.Trod_stays u hr.1.1 hr.1.2 D (λy b=>h1 y (by simp[b])) (λy b=>h2 y (by simp[b])),iB u hr.2 C (λy b=>h1 y (by simp[b])) (λy b=>h2 y (by simp[b])),rfl⟩
theorem ZaZ {H:Type} {enc:TypeId×Value->H} {P:Program} {f:Func} {s:ChangeSpec} {u fresh q C:Bool} {W D:World} {args:Array Value} {v:Value} {I G:List (DataW H)} {g pa pv:List MemPlace}
 (J:DataW.Whole enc P f.params.toList s.vars u W args.toList I G g)
 (y:∀(b:Nat) (A:Nat->Bool) (hd:Bool),DataW.TrodAll enc P D b A hd f.resultTypes.toList (v.resultList f.resultTypes.size) (s.fn H (I++G)).results [])
 (n:∀A:Nat->Bool,(∀p∈g,A p.block=true)->DataW.TrodAll enc P D 0 A true f.params.toList args.toList (s.fn H (I++G)).args pa)
 (i:∀A:Nat->Bool,(∀p∈g,A p.block=true)->DataW.TrodVars enc P D A s.vars (s.fn H (I++G)).vars pv)
 (x:g=pa++pv) (L:Below W.heap.size W D)
 (U:∀(j:Nat) (t:TypeId) (r:Value),f.resultTypes[j]?=some t->(v.resultList f.resultTypes.size)[j]?=some r->Value.okWide P D .any 0 t r):
 s.post enc P f u fresh q C W args v D:=by
 have M:∀p∈g,p.block<W.heap.size:=λp hp=>J.lt p hp;have z:∀p∈g,(λb=>decide (b<W.heap.size)) p.block=true:=λp hp=>by simpa using M p hp
 refine⟨I,G,g,[],pa,pv,J,y _ _ _,n _ z,i _ z,World.keptBut_mono (λp hp=>⟨hp,?_⟩) (L.frame (·∈g)),λ_=>?_⟩
 ·rw[x,CP]at hp;exact Or.inr hp
 obtain⟨_,_,_,_,_,N,O⟩:=J;refine⟨U,_,_,([]++pa)++pv,⟨[]++pa,pv,trodAll_append (n _ (λ_ _=>rfl)) (y _ _ _),i _ (λ_ _=>rfl),rfl,?_,?_⟩,?_⟩
 ·intro b off hp;have F:MemPlace.cell b off∈g:=(by rw[x];simpa using hp);rw[L.frozen (M _ F)];exact N b off F
 ·intro R;have:=O R;rw[x]at this;simpa using this
 intro p hp _;rw[x];simpa using hp
theorem ZbC {H:Type} {enc:TypeId×Value->H} {P:Program} {f:FuncId} {R:Func} {s:ChangeSpec} {D fresh C N:Bool} {U:Bc} {tys:List (Ty×Bool)} {d:Nat} {tb:TypeId}
 (hs:Ay P f U) (has:Qv P d R.params.toList=some tys) (J:dA P R.params.toList=true) (O:laidOutB P=true)
 (G:R.resultTypes=#[tb]) (htb:P.underlying tb=some .bool) (A:s.vars=[])
 (I:∀y:List (DataW H),y.length=tys.length->s.fn H y={ results:=[.lit (.bool true)],args:=y })
 (law:∀(σ:Ab) (us:List V),EJ σ->Qt σ tys us->U us σ λr _=>r= .bool true)
 {W:World} {base:Nat} {args:Array Value} {y gs:List (DataW H)} {F:List MemPlace}
 (Z:∀(j:Nat) t v,R.params[j]?=some t->args[j]?=some v->Value.okWide P W .any base t v)
 (hW:DataW.Whole enc P R.params.toList s.vars D W args.toList y gs F) (hgl:GlW P W):
 Calls P f args W λe W'=>∃v,e= .returned v/\s.post enc P R D fresh C N W args v W':=by
 have M:=hW;obtain⟨p,q,hA,hV,rfl,hfz,hnd⟩:=hW;rw[A]at hV;obtain⟨rfl,rfl⟩:=trodVars_none hV;rw[Qx]at M;obtain⟨ι,e,us,H1,_,R1,A1,L1,C1⟩:=jx (d:=d) has hA (λj t v hj hv=>Z j t v (by simpa using hj) (by simpa using hv)) (λ_=>⟨0,0,0⟩) [] ⟨by simp,by simp,by simp,by simp⟩ (λl b h=>by simp at h);simp only[CJ]at H1 R1 A1 C1;have hc:=hs Phm.no ι e W us args.toList _ (.no e) (by rw[SM];exact H1) (by rw[SM];exact⟨L1,λi u v hu hv=>(C1 i u v hu hv).2⟩) (law e us R1 A1) ⟨hgl,λnm hn g hg l X_ O hk=>by rw[SM]at O;have:=R1 l X_ O;rw[hk]at this;cases this⟩;have hlen:y.length=tys.length:=by
  have h1:∀ {z:List TypeId} {tys:List (Ty×Bool)},Qv P d z=some tys->tys.length=z.length:=by
   intro z;induction z with
   |nil=>intro tys h;cases h;rfl
   | cons t z ih=>
     intro tys h;unfold Qv at h;split at h
     ·rename_i a b _ hb;cases h;simp[ih hb]
     cases h
  have h2:∀ {z:List TypeId} {vs:List Value} {y:List (DataW H)} {ps:List MemPlace},DataW.TrodAll enc P W 0 (λ_=>true) true z vs y ps->y.length=z.length:=by
   intro z;induction z with
   |nil=>intro vs y ps h;obtain⟨_,rfl,_⟩:=trodAll_nil h;rfl
   | cons t z ih=>
     intro vs y ps h;obtain⟨v,vs',x,ds',p,q,rfl,rfl,rfl,_,g2⟩:=trodAll_cons h;simp[ih g2]
  rw[h1 has,h2 hA]
 refine(Calls.mono (by simpa using hc) λen W' hd=>?_:Calls P f args W _);obtain⟨x,r,σ',ι',rfl,rfl,_,Y,_,n⟩:=hd;rw[SM,SM]at n;have hx':=Y (λ_=>0);cases hx';have hb:Below W.heap.size W W':=⟨n.os,n.tape,n.output,n.size,λk hk=>n.frame k hk λl X_ O hk'=>by have:=R1 l X_ O;rw[hk']at this;cases this⟩;have L:=I (y++[]) (by simpa using hlen);have h_:∀x∈p,x.block<W.heap.size:=λx Y=>M.lt x Y;refine⟨_,rfl,ZaZ (pa:=p) (pv:=[]) M (λ_ _ _=>?_) (λsp hsp=>?_) (λsp _=>?_) (by simp) hb (ok_one G rfl (okWide_bool_mk htb true))⟩
 ·rw[L,G];exact trodAll_cons_mk (shut_bool htb true) trodAll_mk0
 ·rw[L];simp only[Qx];exact iB O J hA (λx Y=>hb.same (h_ x Y)) hsp
 rw[L,A];rfl
open Go.ChangeShapes
mutual
def CT.wf:(t:CT)->t.D->Prop
 |.int k,n=>(Lit.int k n).wf=true|.bool,_=>True|.str,s=>s.length<=maxLen|.ifc,_=>True|.sl r,l=>@List.length r.D l<=maxLen/\∀x:r.D,@Membership.mem r.D (List r.D) inferInstance l x->RT.wf r x|.slf _,_=>False
def RT.wf:(r:RT)->r.D->Prop
 |.one t,x=>CT.wf t x|.cons t r,x=>CT.wf t x.1/\RT.wf r x.2
end
def AgX.wf:(l:List (Ql×CT))->AgX l->Prop
 |[],_=>True|[a],x=>a.2.wf x|a::b::r,x=>a.2.wf x.1/\AgX.wf (b::r) x.2
def HT.wf:(h:HT)->h.D->Prop
 |.one _ t,x=>t.wf x|.agg l,x=>AgX.wf l x
def TuX.wf:(l:List HT)->TuX l->Prop
 |[],_=>True|[a],x=>a.wf x|a::b::r,x=>a.wf x.1/\TuX.wf (b::r) x.2
def Hf:List CT->RT
 |[]=>.one .bool|[a]=>.one a|a::b::r=>.cons a (Hf (b::r))
def Ty.cts:Ty->List CT
 |.int k=>[.int k]|.bool=>[.bool]|.str=>[.str]|.sl t=>[.sl (Hf t.cts)]|.unit=>[]|.pair a b=>a.cts++b.cts
def Ty.good:Ty->Bool
 |.sl t=>Nat.blt 0 t.w&&t.good|.pair a b=>a.good&&b.good|_=>true
def M7:Ty×Bool->HT
 |(ty,true)=>.agg (ty.cts.map λt=>(.Z',t))
 |(ty,false)=>match ty.cts with|[c]=>.one .Z' c|_=>.agg []
def Xn:Ty×Bool->Bool
 |(ty,true)=>ty.good|(ty,false)=>ty.good&&ty.cts.length == 1
def DL:List CT->Type
 |[]=>Unit|a::r=>a.D×DL r
def DL.wf:(l:List CT)->DL l->Prop
 |[],_=>True|a::r,x=>a.wf x.1/\DL.wf r x.2
def DL.enc:(l:List CT)->DL l->List PV
 |[],_=>[]|a::r,x=>CT.enc a x.1::DL.enc r x.2
def DL.encF:(l:List CT)->DL l->List PV
 |[],_=>[]|a::r,x=>(CT.dv .Z' a x.1).enc::DL.encF r x.2
def DL.app:(l m:List CT)->DL l->DL m->DL (l++m)
 |[],_,_,y=>y|_::l,m,x,y=>(x.1,DL.app l m x.2 y)
theorem DL.app_enc:∀(l m:List CT) (x:DL l) (y:DL m),DL.enc (l++m) (DL.app l m x y)=DL.enc l x++DL.enc m y
 |[],_,_,_=>rfl
 | a::l,m,x,y=>by
   show CT.enc a x.1::DL.enc (l++m) (DL.app l m x.2 y)=CT.enc a x.1::(DL.enc l x.2++DL.enc m y);rw[DL.app_enc l m x.2 y]
theorem DL.app_encF:∀(l m:List CT) (x:DL l) (y:DL m),DL.encF (l++m) (DL.app l m x y)=DL.encF l x++DL.encF m y
 |[],_,_,_=>rfl
 | a::l,m,x,y=>by
   show (CT.dv .Z' a x.1).enc::DL.encF (l++m) (DL.app l m x.2 y)=(CT.dv .Z' a x.1).enc::(DL.encF l x.2++DL.encF m y);rw[DL.app_encF l m x.2 y]
theorem DL.app_wf:∀(l m:List CT) (x:DL l) (y:DL m),DL.wf l x->DL.wf m y->DL.wf (l++m) (DL.app l m x y)
 |[],_,_,_,_,h=>h
 |_::l,m,x,y,h,h'=>⟨h.1,DL.app_wf l m x.2 y h.2 h'⟩
theorem DL.len:∀(l:List CT) (x:DL l),(DL.enc l x).length=l.length
 |[],_=>rfl
 |_::l,x=>by show _+1=_+1;rw[DL.len l x.2]
theorem DL.lenF:∀(l:List CT) (x:DL l),(DL.encF l x).length=l.length
 |[],_=>rfl
 |_::l,x=>by show _+1=_+1;rw[DL.lenF l x.2]
def DL.rt:(l:List CT)->DL l->(Hf l).D
 |[],_=>false|[_],x=>x.1|_::b::r,x=>(x.1,DL.rt (b::r) x.2)
theorem DL.rt_enc:∀(l:List CT) (x:DL l),l≠[]->RT.enc (Hf l) (DL.rt l x)=DL.enc l x
 |[],_,h=>absurd rfl h
 |[_],_,_=>rfl
 | a::b::r,x,_=>by
   show CT.enc a x.1::RT.enc (Hf (b::r)) (DL.rt (b::r) x.2)=CT.enc a x.1::DL.enc (b::r) x.2;rw[DL.rt_enc (b::r) x.2 (by simp)]
theorem DL.rt_wf:∀(l:List CT) (x:DL l),l≠[]->DL.wf l x->RT.wf (Hf l) (DL.rt l x)
 |[],_,h,_=>absurd rfl h
 |[_],_,_,h=>h.1
 |a::b::r,x,_,h=>⟨h.1,DL.rt_wf (b::r) x.2 (by simp) h.2⟩
def DL.ag:(l:List CT)->DL l->AgX (l.map λt=>(Ql.Z',t))
 |[],_=>()|[_],x=>x.1|_::b::r,x=>(x.1,DL.ag (b::r) x.2)
theorem DL.ag_enc:∀(l:List CT) (x:DL l),DV.d6 (C5 (l.map λt=>(Ql.Z',t)) (DL.ag l x))=DL.encF l x
 |[],_=>rfl
 |[_],_=>rfl
 | a::b::r,x=>by
   show (CT.dv .Z' a x.1).enc::DV.d6 (C5 ((b::r).map λt=>(Ql.Z',t)) (DL.ag (b::r) x.2))=(CT.dv .Z' a x.1).enc::DL.encF (b::r) x.2;rw[DL.ag_enc (b::r) x.2]
theorem DL.ag_wf:∀(l:List CT) (x:DL l),DL.wf l x->AgX.wf (l.map λt=>(Ql.Z',t)) (DL.ag l x)
 |[],_,_=>trivial
 |[_],_,h=>h.1
 |a::b::r,x,h=>⟨h.1,DL.ag_wf (b::r) x.2 h.2⟩
theorem Lr:∀(t:Ty),t.cts.length=t.w
 |.int _|.bool|.str|.sl _|.unit=>rfl
 |.pair a b=>by simp only[Ty.cts,Ty.w,CK,Lr a,Lr b]
def ωro(σ:Ab):Nat->W:=λl=>if l<σ.length then .Z' else .none
theorem ωro_frz{σ:Ab}{l:Nat}{b:Blk}(h:σ[l]?=some b):ωro σ l= .Z':=by
 unfold ωro;rw[Ac (Bw h)]
theorem VP:∀(a b:List PV) (i:Nat),i<a.length->Aa (a++b) i=Aa a i
 |[],_,_,h=>by cases h
 |_::_,_,0,_=>rfl
 |_::a,b,i+1,h=>VP a b i (by simpa using h)
theorem VA:∀(a b:List PV) (i:Nat),Aa (a++b) (a.length+i)=Aa b i
 |[],_,_=>by simp
 | _::a,b,i=>by
   have:=VA a b i;simp only[Dn,A0,di];exact this
theorem ZH:∀(a b:List V) (i:Nat),i<a.length->get (a++b) i=get a i
 |[],_,_,h=>by cases h
 |_::_,_,0,_=>rfl
 |_::a,b,i+1,h=>ZH a b i (by simpa using h)
theorem ZC:∀(a b:List V) (i:Nat),get (a++b) (a.length+i)=get b i
 |[],_,_=>by simp
 | _::a,b,i=>by
   have:=ZC a b i;simp only[Dn,A0,di];exact this
theorem Zz:∀(l:List V) (o n i:Nat),i<n->get ((l.drop o).take n) i=get l (o+i)
 |[],o,n,i,_=>by simp[get]
 |c::r,0,0,i,h=>by cases h
 |c::r,0,n+1,0,_=>rfl
 | c::r,0,n+1,i+1,h=>by
   have:=Zz r 0 n i (by omega);simp only[BG]at this;simp only[I8,dC,get,BG];simpa using this
 | c::r,o+1,n,i,h=>by
   have:=Zz r o n i h;rw[List.drop_succ_cons,this,di];rfl
theorem kT{w:Nat}:∀(es:List (List PV)) (i j:Nat),(∀e∈es,e.length=w)->j<w->i<es.length->Aa es.flatten (i*w+j)=Aa (Bo es i) j
 |[],i,_,_,_,h=>by cases h
 | e::r,0,j,hw,hj,_=>by
   have b:=hw e (G6 ..);rw[Lo,BG,HH,VP _ _ _ (by omega)];rfl
 | e::r,i+1,j,hw,hj,h=>by
   have b:=hw e (G6 ..);rw[HH,show (i+1)*w+j=e.length+(i*w+j) by rw[b,NZ];omega,VA];exact kT r i j (λe h=>hw e (List.mem_cons_of_mem _ h)) hj (by simpa using h)
theorem l9 {α:Type}(f:α->List PV):∀(l:List α) (i:Nat) (h:i<l.length),Bo (l.map f) i=f l[i]
 |[],_,h=>by cases h
 |_::_,0,_=>rfl
 |_::l,i+1,h=>l9 f l i (by simpa using h)
theorem SG{σ:Ab}:∀(ty:Ty) {cs:List V},ty.good=true->Sh σ ty cs->∃x:DL ty.cts,DL.wf ty.cts x /\
 (∀i,RC σ (ωro σ) .fz (Aa (DL.enc ty.cts x) i) (get cs i))/\∀i hd p,RC σ (ωro σ) (.at hd p) (Aa (DL.encF ty.cts x) i) (get cs i)
 | .int k,cs,_,⟨n,h,hw⟩=>by
   subst h;exact⟨(n,()),⟨hw,trivial⟩,λi=>by cases i<;>first|exact .v _ _ rfl|exact .undef _ _,λi hd p=>by cases i<;>first|exact .v _ _ rfl|exact .undef _ _⟩
 | .bool,cs,_,⟨b,h⟩=>by
   subst h;exact⟨(b,()),⟨trivial,trivial⟩,λi=>by cases i<;>first|exact .v _ _ rfl|exact .undef _ _,λi hd p=>by cases i<;>first|exact .v _ _ rfl|exact .undef _ _⟩
 | .str,cs,_,⟨s,h,I⟩=>by
   subst h;exact⟨(s,()),⟨I,trivial⟩,λi=>by cases i<;>first|exact .v _ _ rfl|exact .undef _ _,λi hd p=>by cases i<;>first|exact .v _ _ rfl|exact .undef _ _⟩
 | .unit,cs,_,h=>by
   have h:cs=[]:=h;subst h;exact⟨(),trivial,λi=>.undef _ _,λi hd p=>.undef _ _⟩
 | .pair a b,cs,hg,⟨xs,ys,h,h1,h2⟩=>by
   simp only[Ty.good,Ai]at hg;obtain⟨x,x1,x2,x3⟩:=SG a hg.1 h1;obtain⟨y,y1,y2,y3⟩:=SG b hg.2 h2;have I:=h1.len;subst h;refine⟨DL.app _ _ x y,DL.app_wf _ _ x y x1 y1,λi=>?_,λi hd p=>?_⟩
   ·simp only[Ty.cts];rw[DL.app_enc];by_cases hi:i<a.w
    ·rw[VP _ _ _ (by rw[DL.len,Lr];exact hi),ZH _ _ _ (by rw[I];exact hi)];exact x2 i
    obtain⟨j,rfl⟩:=Nat.exists_eq_add_of_le (Nat.le_of_not_lt hi);have F:=VA (DL.enc a.cts x) (DL.enc b.cts y) j;have C:=ZC xs ys j;rw[DL.len,Lr]at F;rw[I]at C;rw[F,C];exact y2 j
   simp only[Ty.cts];rw[DL.app_encF];by_cases hi:i<a.w
   ·rw[VP _ _ _ (by rw[DL.lenF,Lr];exact hi),ZH _ _ _ (by rw[I];exact hi)];exact x3 i hd p
   obtain⟨j,rfl⟩:=Nat.exists_eq_add_of_le (Nat.le_of_not_lt hi);have F:=VA (DL.encF a.cts x) (DL.encF b.cts y) j;have C:=ZC xs ys j;rw[DL.lenF,Lr]at F;rw[I]at C;rw[F,C];exact y3 j hd p
 | .sl t,cs,hg,h=>by
   simp only[Ty.good,Ai]at hg;have J:0<t.w:=Df hg.1;have f9:t.cts≠[]:=(by intro e;have:=Lr t;rw[e]at this;simp only[A8]at this;omega);rcases h with h|⟨l,n,O,h,R,hbl,hn,Z⟩
   ·subst h;refine⟨(([]:List (Hf t.cts).D),()),⟨⟨EE _,λx U=>by cases U⟩,trivial⟩,λi=>?_,λi hd p=>?_⟩
    ·cases i<;>first|exact .nil _ _|exact .undef _ _
    cases i<;>first|exact .nil _ _|exact .undef _ _
   subst h;have ex:∀i,∃x:DL t.cts,i<n->DL.wf t.cts x/\(∀k,RC σ (ωro σ) .fz (Aa (DL.enc t.cts x) k) (get ((O.drop (i*t.w)).take t.w) k)):=by
    intro i;by_cases hi:i<n
    ·obtain⟨x,h1,h2,_⟩:=SG t hg.2 (Z i hi);exact⟨x,λ_=>⟨h1,h2⟩⟩
    have h0:∀l:List CT,Nonempty (DL l):=by
     intro l;induction l with
     |nil=>exact⟨()⟩
     |cons a r ih=>obtain⟨y⟩:=ih;exact⟨(a.dflt,y)⟩
    obtain⟨y⟩:=h0 t.cts;exact⟨y,λh=>absurd h hi⟩
   let f:Nat->DL t.cts:=λi=>Classical.choose (ex i);have hf:∀i,i<n->DL.wf t.cts (f i)/\∀k,RC σ (ωro σ) .fz (Aa (DL.enc t.cts (f i)) k) (get ((O.drop (i*t.w)).take t.w) k):=λi hi=>Classical.choose_spec (ex i) hi;let L:List (Hf t.cts).D:=(List.range n).map λi=>DL.rt t.cts (f i);have A:L.length=n:=(by simp[L]);have G:∀e∈L.map (RT.enc (Hf t.cts)),e.length=t.w:=by
    intro e Z;obtain⟨y,hy,rfl⟩:=List.mem_map.mp Z;obtain⟨i,_,rfl⟩:=List.mem_map.mp hy;rw[DL.rt_enc _ _ f9,DL.len,Lr]
   have q:∀k,k<L.length*t.w->RC σ (ωro σ) .fz (Aa (L.map (RT.enc (Hf t.cts))).flatten k) (get O (0+k)):=by
    intro k z;have N:k / t.w*t.w+k % t.w=k:=(by rw[Lt];exact Oh k t.w);have u:=HJ k J;have g:k / t.w<n:=(by rw[A]at z;exact(SU J).2 z);have F:=kT (L.map (RT.enc (Hf t.cts))) (k / t.w) (k % t.w) G u (by rw[Bd,A];exact g);rw[N]at F;rw[F,l9 _ _ _ (by rw[A];exact g),BG];have C:=Zz O (k / t.w*t.w) t.w (k % t.w) u;rw[N]at C;have e3:L[k / t.w]'(by rw[A];exact g)=DL.rt t.cts (f (k / t.w)):=(by simp[L]);rw[e3,DL.rt_enc _ _ f9,<- C];exact(hf _ g).2 _
   have Y:∀x∈L,RT.wf (Hf t.cts) x:=by
    intro x U;obtain⟨i,hi,rfl⟩:=List.mem_map.mp U;exact DL.rt_wf _ _ f9 (hf i (List.mem_range.mp hi)).1
   have M:0+(L.map (RT.enc (Hf t.cts))).length*t.w<=O.length:=(by rw[Bd,A,hbl];omega);refine⟨(L,()),⟨⟨by rw[A];exact hn,Y⟩,trivial⟩,λi=>?_,λi hd p=>?_⟩
   ·cases i with
    |succ i=>exact .undef _ _
    |zero=>exact .sl _ _ _ _ _ _ _ R (by simp) (ωro_frz R) (λe=>by cases e) (by rw[Bd,A]) G M λk z=>q k (by rw[Bd]at z;exact z)
   cases i with
   |succ i=>exact .undef _ _
   |zero=>exact .sl _ _ _ _ _ _ _ R (by simp) (ωro_frz R) (λ_ e=>by rcases e with e|⟨_,_,e⟩<;>cases e) (by rw[Bd,A]) G M λk z=>q k (by rw[Bd]at z;exact z)
structure ArgD (σ:Ab) (v:PV) (u:V):Prop where
 rc:∀hd p c,RC σ (ωro σ) (.at hd p) (v.S_ c) (u.S_ c)
 sh:A6 v u
 nx:∀c i pb tp,(v.S_ c).q≠some (.g_ (.x i) pb tp)
theorem Zhk{v:V}(h:v.cell=true):(∀us,v≠.agg us)/\∀us,v≠.f7 us:=by
 constructor<;>rintro us rfl<;>cases h
theorem dY:∀(l:List CT) (x:DL l) (i:Nat) (a:Hd) (g:List Nat) (b:Bool),(Aa (DL.encF l x) i).q≠some (.g_ a g b)
 |[],_,_,_,_,_=>by simp[DL.encF,Aa,PV.q]
 |c::r,x,0,a,g,b=>by cases c<;>simp[DL.encF,Aa,CT.dv,DV.enc,PV.q]
 |_::r,x,i+1,a,g,b=>dY r x.2 i a g b
theorem mr{σ:Ab}{a:Ty×Bool}{u:V}(A:Xn a=true)(h:ArgOk σ a u):∃x:(M7 a).D,(M7 a).wf x/\ArgD σ ((M7 a).dv x).enc u:=by
 obtain⟨ty,b⟩:=a;cases b with
 | true=>
   obtain⟨cs,rfl,hs,I⟩:=h;obtain⟨x,h1,_,n⟩:=SG ty A hs;have G:=hs.len;refine⟨DL.ag ty.cts x,DL.ag_wf _ _ h1,?_⟩;have N:((M7 (ty,true)).dv (DL.ag ty.cts x)).enc= .agg (DL.encF ty.cts x):=by
    show PV.agg _=PV.agg _;rw[DL.ag_enc]
   rw[N];refine⟨λhd p c=>?_,⟨cs,rfl,by rw[G,DL.lenF,Lr]⟩,λc i L J=>?_⟩
   ·match c with
    |[]=>exact .undef _ _
    |[c]=>exact n c hd p
    |_::_::_=>exact .undef _ _
   match c with
   |[]=>simp[PV.S_,PV.q]
   |[c]=>exact dY _ _ _ _ _ _
   |_::_::_=>simp[PV.S_,PV.q]
 | false =>
   obtain⟨hs,I⟩:=h;simp only[Xn,Ai,A7]at A;obtain⟨x,h1,_,n⟩:=SG ty A.1 hs;have C:∀(l:List CT) (x:DL l),l.length=1->DL.wf l x->(∀i hd p,RC σ (ωro σ) (.at hd p) (Aa (DL.encF l x) i) (get [u] i)) ->
    ∃y:(match l with|[c]=>HT.one .Z' c|_=>HT.agg []).D,(match l with|[c]=>HT.one .Z' c|_=>HT.agg []).wf y/\ArgD σ ((match l with|[c]=>HT.one .Z' c|_=>HT.agg []).dv y).enc u:=by
    intro l x M g n
    match l,x,M,g,n with
    | [c],x,_,g,n=>
      have j:=Zhk I;have t:∀p,p≠[0]->((CT.dv .Z' c x.1).enc).S_ p= .fl .undef:=by
       intro p hp;cases c<;>(match p with|[]=>rfl|[0]=>exact absurd rfl hp|(_+1)::_=>rfl|0::_::_=>rfl)
      have z:((CT.dv .Z' c x.1).enc).S_ [0]=(CT.dv .Z' c x.1).enc:=(by cases c<;>rfl);have F:u.S_ [0]=u:=(by cases u<;>first|rfl|exact absurd rfl (j.1 _)|exact absurd rfl (j.2 _));refine⟨x.1,g.1,⟨λhd p q=>?_,?_,λq i L J=>?_⟩⟩
      ·by_cases s:q=[0]
       ·subst s;show RC σ (ωro σ) (.at hd p) (((CT.dv .Z' c x.1).enc).S_ [0]) (u.S_ [0]);rw[z,F];exact n 0 hd p
       show RC σ (ωro σ) (.at hd p) (((CT.dv .Z' c x.1).enc).S_ q) (u.S_ q);rw[t q s];exact .undef _ _
      ·show A6 ((CT.dv .Z' c x.1).enc) u;cases c<;>exact j
      show (((CT.dv .Z' c x.1).enc).S_ q).q≠_;by_cases s:q=[0]
      ·subst s;rw[z];exact dY [c] x 0 _ _ _
      rw[t q s];simp[PV.q]
   exact C ty.cts x A.2 h1 n
theorem aa{σ:Ab}:∀ {tys:List (Ty×Bool)} {us:List V},tys.all Xn=true->Qt σ tys us->∃x:TuX (tys.map M7),TuX.wf _ x/\us.length=tys.length /\
 ∀t,ArgD σ (Aa (DV.d6 (Et (tys.map M7) x)) t) (get us t)
 |[],[],_,_=>⟨(),trivial,rfl,λt=>⟨λhd p c=>by
  have:(PV.fl V.undef).S_ c= .fl .undef:=(by match c with|[]=>rfl|[0]=>rfl|(_+1)::_=>rfl|0::_::_=>rfl);show RC σ (ωro σ) (.at hd p) ((PV.fl V.undef).S_ c) _;rw[this];exact .undef _ _,trivial,λc i A z=>by
  have:(PV.fl V.undef).S_ c= .fl .undef:=(by match c with|[]=>rfl|[0]=>rfl|(_+1)::_=>rfl|0::_::_=>rfl);show ((PV.fl V.undef).S_ c).q≠_;rw[this];simp[PV.q]⟩⟩
 | [a],[u],hg,h=>by
   simp only[FT,Xp,MX]at hg;obtain⟨x,h1,j⟩:=mr hg h.1;obtain⟨_,_,_,g⟩:=aa (σ:=σ) (tys:=[]) (us:=[]) rfl trivial;refine⟨x,h1,rfl,λt=>?_⟩;cases t with
   |zero=>exact j
   |succ t=>exact g t
 | a::b::r,u::us,hg,h=>by
   rw[FT,Ai]at hg;obtain⟨x,h1,j⟩:=mr hg.1 h.1;obtain⟨y,s,g,n⟩:=aa (tys:=b::r) (us:=us) hg.2 h.2;refine⟨(x,y),⟨h1,s⟩,by simp[g],λt=>?_⟩;cases t with
   |zero=>exact j
   |succ t=>exact n t
 |[_],_::_::_,_,h=>h.2.elim
 |[_],[],_,h=>h.elim
 |_::_::_,[],_,h=>h.elim
 |[],_::_,_,h=>h.elim
theorem Zje{σ:Ab}{as:List PV}{us:List V}(A:as.length=us.length)(h:∀t,ArgD σ (Aa as t) (get us t)):RS σ (ωro σ) (ωro σ) (λ_=>0) ⟨as,[],[]⟩ ⟨us,[],σ⟩ X0:=by
 have no:∀l hd p,ωro σ l≠.own hd p:=by intro l hd p e;unfold ωro at e;split at e<;>cases e
 have u:∀l i,ωro σ l≠.ptr i:=by intro l i e;unfold ωro at e;split at e<;>cases e
 have n:∀c,(PV.fl V.undef).S_ c= .fl .undef:=by
  intro c;match c with|[]=>rfl|[0]=>rfl|(_+1)::_=>rfl|0::_::_=>rfl
 have g:∀(c:List Nat) (l:List V),(Bh [] l c).1= .fl .undef:=by
  intro c l;match c with|[]=>rfl|[_]=>rfl|_::_::_=>rfl
 refine⟨⟨λhd p=>?_,λl l' hd p e=>absurd e (no l hd p),λl l' i e=>absurd e (u l i),λl e=>?_,λl e=>?_⟩,λt=>(h t).sh,λi=>trivial,A,rfl,λi=>rfl,λi c=>rfl,λi c=>rfl,λi hi=>(by cases hi),λl i e=>absurd e (u l i),λl i p e=>absurd e (no l _ p),⟨BH _,λl _ _=>⟨rfl,rfl⟩,λl C e=>(by rw[e];simp),λl i e=>e⟩,λhd p i z y=>?_⟩
 ·cases hd with
  |s t=>exact(h t).rc _ _ _
  |b i=>show RC σ (ωro σ) _ (Bh [] (AZ [] i) p).1 _;rw[g];exact .undef _ _
  |h i=>show RC σ (ωro σ) _ (Bh [] _ p).1 _;rw[g];exact .undef _ _
  |x i=>show RC σ (ωro σ) _ ((PV.fl V.undef).S_ p) _;rw[n];exact .undef _ _
 ·rcases e with⟨hd,p,e⟩|⟨i,e⟩
  ·exact absurd e (no l hd p)
  exact absurd e (u l i)
 ·unfold ωro at e;split at e
  ·assumption
  cases e
 cases hd with
 |s t=>exact(h t).nx p i z y
 |b j=>show (Bh [] (AZ [] j) p).1.q≠_;rw[g];simp[PV.q]
 |h j=>show (Bh [] _ p).1.q≠_;rw[g];simp[PV.q]
 |x j=>show ((PV.fl V.undef).S_ p).q≠_;rw[n];simp[PV.q]
theorem Zh8 {f:DFun} {tys:List (Ty×Bool)} {hs:List HT} {s:Bc} (j:JI s (IP f.er)) (n:tys.map M7=hs) (D:tys.all Xn=true) (C:AllD f.body.t8)
 (i:QN f hs (.one (.one .own .bool))=true) (F:∀x,QC f hs (.one (.one .own .bool)) x=true)
 (g:∀x:TuX hs,TuX.wf hs x->OH f hs (.one (.one .own .bool)) x/\OS f hs (.one (.one .own .bool)) x=true) (σ:Ab) (us:List V) (A:EJ σ) (G:Qt σ tys us):s us σ λr _=>r= .bool true:=by
 subst n;obtain⟨x,h1,L,J⟩:=aa D G;obtain⟨y,t⟩:=g x h1;have b:(DV.d6 (Et (tys.map M7) x)).length=us.length:=by rw[FN,Sq,Bd,L]
 refine j σ (ωro σ) (λ_=>0) _ us [] (λr _=>r= .fl (.bool true)) _ (Zje b J) (λl hd p e=>?_) ?_ λu h' r M ω' ρ' I q _=>?_
 ·exfalso;unfold ωro at e;split at e<;>cases e
 ·refine mw C i x (F x) y λH=>?_;rw[t];rfl
 subst I;have r:=q.core.rc (.x 0) [0];have hs:=q.shx 0;have r:RC h' ω' (.at (.x 0) [0]) (.fl (.bool true)) (u.S_ [0]):=r;have z:u.S_ [0]=u:=by
  have hs:A6 (.fl (.bool true)) u:=hs;cases u<;>first|rfl|exact absurd rfl (hs.1 _)|exact absurd rfl (hs.2 _)
 rw[z]at r;cases r;rfl
theorem ZiF(x:V)(r:List V):get (x::r) 0=x:=id rfl
theorem Zi9(x:V)(r:List V)(n:Nat):get (x::r) (n+1)=get r n:=id rfl
theorem ZjF(s:List V)(n:Nat):(T_.t n).ev s=get s n:=id rfl
theorem Zjz(s:List V)(v:V):(T_.c v).ev s=v:=id rfl
def rk(b:Bool)(res:List ARes)(h0:Ab)(Q:V->Ab->Prop):Cs:=Yu ⟨0,0,0,b,res,.skip⟩ h0 Q
theorem Jz{b i j:Nat}{g:Bool}{res:List ARes}{body:ACode}{args:List V}{h:Ab}{Q:V->Ab->Prop}(n:args.length=b)(q:BT body (rk g res h Q) ⟨args++Es (i-b),Hc j,h⟩):EH ⟨b,i,j,g,res,body⟩ args h Q:=⟨n,q⟩
theorem Zfc(k:Cs)(st:St):BT .skip k st=k .normal st:=rfl
theorem Zc7(o:List a_)(k:Cs)(st:St):BT (.region o) k st=BI o (k .normal) st:=rfl
theorem ZgX(a b:ACode)(k:Cs)(st:St):BT (.seq a b) k st=BT a (F2 (BT b k) k) st:=rfl
theorem Zdq(i:Nat)(a:ACode)(k:Cs)(st:St):BT (.block i a) k st=BT a (IY i k) st:=rfl
theorem Zgl(i:Nat)(k:Cs)(st:St):BT (.exit i) k st=k (.exit i) st:=rfl
theorem Zg4(k:Cs)(st:St):BT .ret k st=k .ret st:=rfl
theorem Zgw{c:T_}{a b:ACode}{k:Cs}{st:St}(h:c.ev st.sl= .bool true):BT (.cond c a b) k st=BT a k st:=by simp only[BT,h,AS]
theorem ZeK{c:T_}{a b:ACode}{k:Cs}{st:St}(h:c.ev st.sl= .bool false):BT (.cond c a b) k st=BT b k st:=by simp only[BT,h];rfl
theorem Zb3(n:St->Prop)(k:Cs)(st:St):F2 n k .normal st=n st:=rfl
theorem Zgg(n:St->Prop)(k:Cs)(st:St):F2 n k .ret st=k .ret st:=rfl
theorem Ze0(n:St->Prop)(k:Cs)(i:Nat)(st:St):F2 n k (.exit i) st=k (.exit i) st:=rfl
theorem ZaS(i:Nat)(k:Cs)(st:St):IY i k .normal st=k .normal st:=rfl
theorem ZcW(i:Nat)(k:Cs)(st:St):IY i k .ret st=k .ret st:=rfl
theorem Zch(i j:Nat)(k:Cs)(st:St):IY i k (.exit j) st=if j=i then k .normal st else k (.exit j) st:=rfl
theorem Zgj(n:St->Prop)(k:Cs):F2 n k .normal=n:=rfl
theorem Zcy(i:Nat)(k:Cs):IY i k .normal=k .normal:=rfl
theorem Zfj(k:St->Prop)(st:St):BI [] k st=k st:=rfl
theorem Zf4{i:Nat}{d:Option Nat}{o:o_}{a:List Nat}{r:List a_}{k:St->Prop}{st:St}:BI (⟨i,d,o,none,a⟩::r) k st=AK o d (BI r k) st:=rfl
theorem ZhC{i:Nat}{d:Option Nat}{o:o_}{g:Nat}{w:Bool}{a:List Nat}{r:List a_}{k:St->Prop}{st:St}(h:get st.sl g= .bool w):BI (⟨i,d,o,some (g,w),a⟩::r) k st=AK o d (BI r k) st:=by
 simp only[BI,Cr,h,AS]
theorem mE{i:Nat}{d:Option Nat}{o:o_}{g:Nat}{w b:Bool}{a:List Nat}{r:List a_}{k:St->Prop}{st:St}(h:get st.sl g= .bool b)(j:b≠w):BI (⟨i,d,o,some (g,w),a⟩::r) k st=BI r k (st.put d (.f7 [])):=by
 simp only[BI,Cr,h,Ae j]
theorem Zd7{i:Nat}{d:Option Nat}{o:o_}{g:Nat}{a:List Nat}{r:List a_}{k:St->Prop}{st:St}(h:get st.sl g= .bool false):BI (⟨i,d,o,some (g,true),a⟩::r) k st=BI r k (st.put d (.f7 [])):=mE h (by decide)
theorem ZdH{i:Nat}{d:Option Nat}{o:o_}{g:Nat}{a:List Nat}{r:List a_}{k:St->Prop}{st:St}(h:get st.sl g= .bool true):BI (⟨i,d,o,some (g,false),a⟩::r) k st=BI r k (st.put d (.f7 [])):=mE h (by decide)
theorem Zgu{i:Nat}{d:Option Nat}{o:o_}{g:Nat}{w:Bool}{a:List Nat}{r:List a_}{k:St->Prop}{st:St}(h:get st.sl g= .f7 []):BI (⟨i,d,o,some (g,w),a⟩::r) k st=BI r k (st.put d (.f7 [])):=by
 simp only[BI,Cr,h]
theorem ZdC{i:Nat}{d:Option Nat}{o:o_}{g:Nat}{w:Bool}{a:List Nat}{r:List a_}{k:St->Prop}{st:St}{b:Bool}(_h:get st.sl g= .bool b)(h1:b=true->BI (⟨i,d,o,some (g,w),a⟩::r) k st)(j:b=false->BI (⟨i,d,o,some (g,w),a⟩::r) k st):BI (⟨i,d,o,some (g,w),a⟩::r) k st:=by
 cases b
 ·exact j rfl
 exact h1 rfl
theorem Zfq{c:T_}{x y:ACode}{k:Cs}{st:St}{b:Bool}(_h:c.ev st.sl= .bool b)(h1:b=true->BT (.cond c x y) k st)(g:b=false->BT (.cond c x y) k st):BT (.cond c x y) k st:=by
 cases b
 ·exact g rfl
 exact h1 rfl
theorem Zh6(b:Bool)(res:List ARes)(h0:Ab)(Q:V->Ab->Prop)(st:St):rk b res h0 Q .ret st=(match Fb st res with
 |some v=>if b then v.flat2=true/\st.hp.take h0.length=h0/\Q v h0 else Q v st.hp
 |none=>False):=rfl
theorem ZdV(b:Bool)(res:List ARes)(h0:Ab)(Q:V->Ab->Prop)(st:St):rk b res h0 Q .normal st=(match Fb st res with
 |some v=>if b then v.flat2=true/\st.hp.take h0.length=h0/\Q v h0 else Q v st.hp
 |none=>False):=rfl
def Na{α:Type}(_:α):Type:=Unit
def DU{α:Type}(a:α):Na a:=()
def oV(o:Option V)(f:V->Prop)(_:Na f):Prop:=match o with
 |some v=>f v|none=>False
theorem Zhr(v:V)(f:V->Prop)(t:Na f):oV (some v) f t=f v:=rfl
theorem ZhD(f:V->Prop)(t:Na f):oV none f t=False:=rfl
def oS(o:Option (V×List (List V)×Ab))(s:List V)(d:Option Nat)(k:St->Prop)(_:Na k):Prop:=match o with
 |some (v,bx,hp)=>k (St.put ⟨s,bx,hp⟩ d v)|none=>False
theorem Zg1(v:V)(bx:List (List V))(hp:Ab)(s:List V)(d:Option Nat)(k:St->Prop)(t:Na k):oS (some (v,bx,hp)) s d k t=k (St.put ⟨s,bx,hp⟩ d v):=rfl
@[congr] theorem ZjV {c:ACode} {k:Cs} {st f4:St} (h:st=f4):BT c k st=BT c k f4:=by rw[h]
@[congr] theorem ZjR {o:List a_} {k:St->Prop} {st f4:St} (h:st=f4):BI o k st=BI o k f4:=by rw[h]
@[congr] theorem ZjU {o:o_} {d:Option Nat} {k:St->Prop} {st f4:St} (h:st=f4):AK o d k st=AK o d k f4:=by rw[h]
@[congr] theorem ZjT {n:St->Prop} {k:Cs} {e b:AExit} {st f4:St} (g:e=b) (h:st=f4):F2 n k e st=F2 n k b f4:=by rw[g,h]
@[congr] theorem ZjO {i:Nat} {k:Cs} {e b:AExit} {st f4:St} (g:e=b) (h:st=f4):IY i k e st=IY i k b f4:=by rw[g,h]
@[congr] theorem ZjW {b:Bool} {res:List ARes} {h0:Ab} {Q:V->Ab->Prop} {e g:AExit} {st f4:St} (i:e=g) (h:st=f4):rk b res h0 Q e st=rk b res h0 Q g f4:=by rw[i,h]
def oD(k:IntKind):V->Option V
 |.int _ n=>some (.int k (k.wrap n))|_=>none
def aY(off:Nat):V->Option V
 |.box i o=>some (.box i (o+off))|.ptr l o=>some (.ptr l (o+off))|_=>none
def nc(off:Nat)(n:Option Nat):V->Option V
 |.agg cs=>if off+n.getD 1<=cs.length then CC n ((cs.drop off).take (n.getD 1))else none|_=>none
def lQ(w:Nat):V->V->Option V
 |.slice l o n,.int _ j=>if 0<=j/\j<n then some (.ptr l (o+j.toNat*w))else none|_,_=>none
def Ov:V->Option V
 |.b_=>some (.int .i64 0)|.slice _ _ n=>some (.int .i64 n)|_=>none
def R8(i:Nat):V->Option V
 |.f7 vs=>vs[i]?|_=>none
def nE(bx:List (List V))(i:Nat)(n:Option Nat):V->Option V
 |.box j o=>if i=j/\o+n.getD 1<=(AZ bx i).length then CC n (((AZ bx i).drop o).take (n.getD 1))else none|_=>none
def Lp(hp:Ab)(n:Option Nat):V->Option V
 |.ptr l o=>(rd hp l o (n.getD 1)).bind λcs=>CC n cs
 |_=>none
def bT(b:List V)(cs:Option (List V)):Option V:=if b.all V.cell then cs.bind λcs=>some (.agg cs)else none
def bM(bx:List (List V))(hp:Ab)(i n:Nat)(a x:V):Option (V×List (List V)×Ab):=match a with
 |.box j o=>if i=j/\i<bx.length/\x.cells.length=n/\o+n<=(AZ bx i).length/\x.cells.all V.cell then some (.undef,CS bx i (d_ (AZ bx i) o x.cells),hp)else none|_=>none
def El(bx:List (List V))(hp:Ab)(n:Nat)(a x:V):Option (V×List (List V)×Ab):=match a with
 |.ptr l o=>if x.cells.length=n/\x.cells.all V.cell then (wr hp l o x.cells).bind λh=>some (.undef,bx,h)else none
 |_=>none
def Wq(bx:List (List V))(hp:Ab)(w n:Nat)(b:List V)(cs:Option (List V)):Option (V×List (List V)×Ab):=
 if n=0 then some (.b_,bx,hp)
 else if b.all V.cell/\b.length=n*w/\0<w then cs.bind λcs=>some (.slice hp.length 0 n,bx,hp++[⟨.own,w,cs⟩])
 else none
def dG(bx:List (List V))(hp:Ab)(i n:Nat)(x:V):Option (V×List (List V)×Ab):=if i<bx.length/\x.cells.length=n/\x.cells.all V.cell then some (.box i 0,CS bx i x.cells,hp)else none
def aO(bx:List (List V))(hp:Ab)(i:Nat)(b:List V):Option (V×List (List V)×Ab):=if i<bx.length/\b.all V.cell then some (.box i 0,CS bx i b,hp)else none
def To(bx:List (List V))(hp:Ab)(w:Nat)(x y:V):Option (V×List (List V)×Ab):=if 0<w then (app hp w x y).bind λ(v,h)=>some (v,bx,h)else none
def px(f:Bc)(args:List V)(d:Option Nat)(k:St->Prop)(st:St)(_:Na k):Prop:=f args st.hp λr h=>k (St.put { st with hp:=h } d r)
theorem aV{o:Option V}{k:St->Prop}{st:St}{d:Option Nat}:(match o.bind (λv=>(some (v,st.bx,st.hp):Option (V×List (List V)×Ab)))with
 |some (v,bx,hp)=>k (St.put { sl:=st.sl,bx,hp } d v)
 |none=>False)=oV o (λv=>k (st.put d v)) (DU _):=by
 cases o<;>rfl
theorem Sr{o:Option (V×List (List V)×Ab)}{s:List V}{k:St->Prop}{d:Option Nat}:(match o with
 |some (v,bx,hp)=>k (St.put { sl:=s,bx,hp } d v)
 |none=>False)=oS o s d k (DU k):=by
 cases o<;>rfl
theorem Zig{c:Prop}{_:Decidable c}{v:V}{k:St->Prop}{st:St}{d:Option Nat}:(match (if c then some (v,st.bx,st.hp)else (none:Option (V×List (List V)×Ab)))with
 |some (v,bx,hp)=>k (St.put { sl:=st.sl,bx,hp } d v)
 |none=>False)=oV (if c then some v else none) (λv=>k (st.put d v)) (DU _):=by
 by_cases h:c<;>simp only[h,AS,A3]<;>rfl
theorem nF {c:Prop}{_:Decidable c}{o:Option V}{k:St->Prop}{st:St}{d:Option Nat}:(match (if c then o.bind (λv=>(some (v,st.bx,st.hp):Option (V×List (List V)×Ab)))else none)with
 |some (v,bx,hp)=>k (St.put { sl:=st.sl,bx,hp } d v)
 |none=>False)=oV (if c then o else none) (λv=>k (st.put d v)) (DU _):=by
 by_cases h:c<;>simp only[h,AS,A3]
 ·cases o<;>rfl
 rfl
theorem bind_some{α:Type}(o:Option α):(o.bind λx=>some x)=o:=by cases o<;>rfl
section
variable {d:Option Nat} {k:St->Prop} {st:St}
theorem Ziq(x:T_):AK (.mv x) d k st=k (st.put d (x.ev st.sl)):=rfl
theorem Zah{c a b:T_}(h:c.ev st.sl= .bool true):AK (.pick c a b) d k st=k (st.put d (a.ev st.sl)):=by simp only[AK,Af,h];rfl
theorem zL{c a b:T_}(h:c.ev st.sl= .bool false):AK (.pick c a b) d k st=k (st.put d (b.ev st.sl)):=by simp only[AK,Af,h];rfl
theorem Za4{c a b:T_}{t:Bool}(_h:c.ev st.sl= .bool t)(h1:t=true->AK (.pick c a b) d k st)(g:t=false->AK (.pick c a b) d k st):AK (.pick c a b) d k st:=by
 cases t
 ·exact g rfl
 exact h1 rfl
theorem ZgQ(op:BinOp)(x y:T_):AK (.bin op x y) d k st=oV (Cy op (x.ev st.sl) (y.ev st.sl)) (λv=>k (st.put d v)) (DU _):=aV
theorem Zir(op:UnOp)(x:T_):AK (.un op x) d k st=oV (Jg op (x.ev st.sl)) (λv=>k (st.put d v)) (DU _):=aV
theorem ZfQ(q:IntKind)(x:T_):AK (.conv q x) d k st=oV (oD q (x.ev st.sl)) (λv=>k (st.put d v)) (DU _):=by simp only[AK,Af];cases x.ev st.sl<;>rfl
theorem Zda(off:Nat)(x:T_):AK (.f5 off x) d k st=oV (aY off (x.ev st.sl)) (λv=>k (st.put d v)) (DU _):=by simp only[AK,Af];cases x.ev st.sl<;>rfl
theorem Zek(off:Nat)(n:Option Nat)(x:T_):AK (.field off n x) d k st=oV (nc off n (x.ev st.sl)) (λv=>k (st.put d v)) (DU _):=by
 simp only[AK,Af];cases x.ev st.sl<;>try rfl
 exact nF
theorem Zdj(w:Nat)(x i:T_):AK (.p_ w x i) d k st=oV (lQ w (x.ev st.sl) (i.ev st.sl)) (λv=>k (st.put d v)) (DU _):=by
 simp only[AK,Af];cases x.ev st.sl<;>try rfl
 cases i.ev st.sl<;>try rfl
 exact Zig
theorem ZgK(x:T_):AK (.len x) d k st=oV (Ov (x.ev st.sl)) (λv=>k (st.put d v)) (DU _):=by simp only[AK,Af];cases x.ev st.sl<;>rfl
theorem Zb4(x:T_)(i:Nat):AK (.extract x i) d k st=oV (R8 i (x.ev st.sl)) (λv=>k (st.put d v)) (DU _):=by
 simp only[AK,Af];cases x.ev st.sl<;>try rfl
 rename_i b;simp only[R8];cases b[i]?<;>rfl
theorem Zer(i:Nat)(n:Option Nat)(a:T_):AK (.d7 i n a) d k st=oV (nE st.bx i n (a.ev st.sl)) (λv=>k (st.put d v)) (DU _):=by
 simp only[AK,Af];cases a.ev st.sl<;>try rfl
 exact nF
theorem Ze5(n:Option Nat)(a:T_):AK (.i5 n a) d k st=oV (Lp st.hp n (a.ev st.sl)) (λv=>k (st.put d v)) (DU _):=by
 simp only[AK,Af];cases a.ev st.sl<;>try rfl
 simp only[Lp];rename_i l o;cases rd st.hp l o (n.getD 1)<;>try rfl
 exact aV
theorem Zdu(b:List V)(g:List (Nat×Nat×T_)):AK (.build b g) d k st=oV (bT b (DQ st.sl b g)) (λv=>k (st.put d v)) (DU _):=by
 simp only[AK,Af,bT];by_cases h:b.all V.cell=true
 ·simp only[h,AS];cases DQ st.sl b g<;>rfl
 simp only[h];rfl
theorem Zc2(i n:Nat)(a x:T_):AK (.V_ i n a x) d k st=oS (bM st.bx st.hp i n (a.ev st.sl) (x.ev st.sl)) st.sl d k (DU k):=by
 simp only[AK,Af,bM];cases a.ev st.sl<;>first|rfl|exact Sr
theorem ZcD(n:Nat)(a x:T_):AK (.f8 n a x) d k st=oS (El st.bx st.hp n (a.ev st.sl) (x.ev st.sl)) st.sl d k (DU k):=by
 simp only[AK,Af,El];cases a.ev st.sl<;>first|rfl|exact Sr
theorem Zbm(w n:Nat)(b:List V)(g:List (Nat×Nat×T_)):AK (.d5 w n b g) d k st=oS (Wq st.bx st.hp w n b (DQ st.sl b g)) st.sl d k (DU k):=by
 simp only[AK,Af,Wq];by_cases h:n=0<;>simp only[h,AS,A3]
 ·rfl
 by_cases i:b.all V.cell=true/\b.length=n*w/\0<w<;>simp only[i,AS,A3,and_self]
 ·cases DQ st.sl b g<;>rfl
 rfl
theorem Zgk(i n:Nat)(x:T_):AK (.boxB i n x) d k st=oS (dG st.bx st.hp i n (x.ev st.sl)) (r_ i st.sl) d k (DU k):=by
 simp only[AK,Af,dG];exact Sr
theorem Zc5(i:Nat)(b:List V):AK (.e_ i b) d k st=oS (aO st.bx st.hp i b) (r_ i st.sl) d k (DU k):=by
 simp only[AK,Af,aO];exact Sr
theorem ZgP(w:Nat)(x y:T_):AK (.app w x y) d k st=oS (To st.bx st.hp w (x.ev st.sl) (y.ev st.sl)) st.sl d k (DU k):=by
 simp only[AK,Af,To];exact Sr
theorem ZfT(f:Bc)(args:List T_):AK (.call f args) d k st=((args.map (·.ev st.sl)).all V.ok1=true/\px f (args.map (·.ev st.sl)) d k st (DU k)):=rfl
end
section
variable {k:IntKind}
theorem ZeN(q:IntKind)(n:Int):oD q (.int k n)=some (.int q (q.wrap n)):=rfl
theorem ZbG(off i o:Nat):aY off (.box i o)=some (.box i (o+off)):=rfl
theorem Zbv(off l o:Nat):aY off (.ptr l o)=some (.ptr l (o+off)):=rfl
theorem Zdg(off:Nat)(n:Option Nat)(cs:List V):nc off n (.agg cs)=if off+n.getD 1<=cs.length then CC n ((cs.drop off).take (n.getD 1))else none:=rfl
theorem Zdf:Ov .b_=some (.int .i64 0):=rfl
theorem Zf6(l o n:Nat):Ov (.slice l o n)=some (.int .i64 n):=rfl
theorem Zcb(v:V)(b:List V):R8 0 (.f7 (v::b))=some v:=rfl
theorem Zcj(i:Nat)(v:V)(b:List V):R8 (i+1) (.f7 (v::b))=R8 i (.f7 b):=rfl
theorem Zdc(bx:List (List V))(i:Nat)(n:Option Nat)(j o:Nat):nE bx i n (.box j o)=if i=j/\o+n.getD 1<=(AZ bx i).length then CC n (((AZ bx i).drop o).take (n.getD 1))else none:=rfl
theorem Zb6(bx:List (List V))(hp:Ab)(i n j o:Nat)(x:V):bM bx hp i n (.box j o) x=if i=j/\i<bx.length/\x.cells.length=n/\o+n<=(AZ bx i).length/\x.cells.all V.cell then some (.undef,CS bx i (d_ (AZ bx i) o x.cells),hp)else none:=rfl
theorem Zd5(a b:Int):Cy .add (.int k a) (.int k b)=some (.int k (k.wrap (a+b))):=by simp[Cy,Ea]
theorem ZdP(a b:Int):Cy .sub (.int k a) (.int k b)=some (.int k (k.wrap (a-b))):=by simp[Cy,Ea]
theorem ZdJ(a b:Int):Cy .mul (.int k a) (.int k b)=some (.int k (k.wrap (a*b))):=by simp[Cy,Ea]
theorem ZdO(a b:Int):Cy .rem (.int k a) (.int k b)=if b=0 then none else some (.int k (a.tmod b)):=by simp[Cy,Ea]
theorem ZdM(a b:Int):Cy .eql (.int k a) (.int k b)=some (.bool (a == b)):=by simp[Cy,Ea]
theorem Zeb(a b:Int):Cy .neq (.int k a) (.int k b)=some (.bool (a != b)):=by simp[Cy,Ea]
theorem ZdL(a b:Int):Cy .lss (.int k a) (.int k b)=some (.bool (decide (a<b))):=by simp[Cy,Ea]
theorem Zd6(a b:Int):Cy .leq (.int k a) (.int k b)=some (.bool (decide (a<=b))):=by simp[Cy,Ea]
theorem Ze8(a b:Int):Cy .gtr (.int k a) (.int k b)=some (.bool (decide (a > b))):=by simp[Cy,Ea]
theorem Ze2(a b:Int):Cy .geq (.int k a) (.int k b)=some (.bool (decide (a>=b))):=by simp[Cy,Ea]
theorem ZfJ(b:Bool):Jg .not (.bool b)=some (.bool (!b)):=rfl
theorem ZfS(n:Int):Jg .neg (.int k n)=some (.int k (k.wrap (0-n))):=rfl
theorem Zbr(d:Nat):En d none=some d:=rfl
theorem Zcx(d:Nat)(i:Int):En d (some (.int k i))=if 0<=i then some i.toNat else none:=rfl
theorem Zct(n:Nat)(cs:List V):CC (some n) cs=some (.agg cs):=rfl
theorem ZcY(v:V):CC none [v]=some v:=rfl
end
theorem V.cell_undef:V.cell V.undef=false:=rfl
theorem V.cells_undef:V.cells V.undef=[V.undef]:=rfl
theorem V.ok1_undef:V.ok1 V.undef=false:=rfl
theorem V.flat_undef:V.flat V.undef=false:=rfl
theorem V.flat1_undef:V.flat1 V.undef=false:=rfl
theorem V.flat2_undef:V.flat2 V.undef=false:=rfl
theorem V.isBox_undef(i:Nat):V.isBox i V.undef=false:=rfl
theorem V.cell_bool(b:Bool):V.cell (V.bool b)=true:=rfl
theorem V.cells_bool(b:Bool):V.cells (V.bool b)=[(V.bool b)]:=rfl
theorem V.ok1_bool(b:Bool):V.ok1 (V.bool b)=true:=rfl
theorem V.flat_bool(b:Bool):V.flat (V.bool b)=true:=rfl
theorem V.flat1_bool(b:Bool):V.flat1 (V.bool b)=true:=rfl
theorem V.flat2_bool(b:Bool):V.flat2 (V.bool b)=true:=rfl
theorem V.isBox_bool(i:Nat)(b:Bool):V.isBox i (V.bool b)=false:=rfl
theorem V.cell_int(k:IntKind)(n:Int):V.cell (V.int k n)=true:=rfl
theorem V.cells_int(k:IntKind)(n:Int):V.cells (V.int k n)=[(V.int k n)]:=rfl
theorem V.ok1_int(k:IntKind)(n:Int):V.ok1 (V.int k n)=true:=rfl
theorem V.flat_int(k:IntKind)(n:Int):V.flat (V.int k n)=true:=rfl
theorem V.flat1_int(k:IntKind)(n:Int):V.flat1 (V.int k n)=true:=rfl
theorem V.flat2_int(k:IntKind)(n:Int):V.flat2 (V.int k n)=true:=rfl
theorem V.isBox_int(i:Nat)(k:IntKind)(n:Int):V.isBox i (V.int k n)=false:=rfl
theorem V.cell_str(s:JY):V.cell (V.str s)=true:=rfl
theorem V.cells_str(s:JY):V.cells (V.str s)=[(V.str s)]:=rfl
theorem V.ok1_str(s:JY):V.ok1 (V.str s)=true:=rfl
theorem V.flat_str(s:JY):V.flat (V.str s)=true:=rfl
theorem V.flat1_str(s:JY):V.flat1 (V.str s)=true:=rfl
theorem V.flat2_str(s:JY):V.flat2 (V.str s)=true:=rfl
theorem V.isBox_str(i:Nat)(s:JY):V.isBox i (V.str s)=false:=rfl
theorem V.cell_nils:V.cell V.b_=true:=rfl
theorem V.cells_nils:V.cells V.b_=[V.b_]:=rfl
theorem V.ok1_nils:V.ok1 V.b_=true:=rfl
theorem V.flat_nils:V.flat V.b_=true:=rfl
theorem V.flat1_nils:V.flat1 V.b_=true:=rfl
theorem V.flat2_nils:V.flat2 V.b_=true:=rfl
theorem V.isBox_nils(i:Nat):V.isBox i V.b_=false:=rfl
theorem V.cell_slice(l o n:Nat):V.cell (V.slice l o n)=true:=rfl
theorem V.cells_slice(l o n:Nat):V.cells (V.slice l o n)=[(V.slice l o n)]:=rfl
theorem V.ok1_slice(l o n:Nat):V.ok1 (V.slice l o n)=true:=rfl
theorem V.flat_slice(l o n:Nat):V.flat (V.slice l o n)=false:=rfl
theorem V.flat1_slice(l o n:Nat):V.flat1 (V.slice l o n)=false:=rfl
theorem V.flat2_slice(l o n:Nat):V.flat2 (V.slice l o n)=false:=rfl
theorem V.isBox_slice(i:Nat)(l o n:Nat):V.isBox i (V.slice l o n)=false:=rfl
theorem V.cell_box(j o:Nat):V.cell (V.box j o)=false:=rfl
theorem V.cells_box(j o:Nat):V.cells (V.box j o)=[(V.box j o)]:=rfl
theorem V.ok1_box(j o:Nat):V.ok1 (V.box j o)=false:=rfl
theorem V.flat_box(j o:Nat):V.flat (V.box j o)=false:=rfl
theorem V.flat1_box(j o:Nat):V.flat1 (V.box j o)=false:=rfl
theorem V.flat2_box(j o:Nat):V.flat2 (V.box j o)=false:=rfl
theorem V.isBox_box(i:Nat)(j o:Nat):V.isBox i (V.box j o)=(i == j):=rfl
theorem V.cell_ptr(l o:Nat):V.cell (V.ptr l o)=true:=rfl
theorem V.cells_ptr(l o:Nat):V.cells (V.ptr l o)=[(V.ptr l o)]:=rfl
theorem V.ok1_ptr(l o:Nat):V.ok1 (V.ptr l o)=true:=rfl
theorem V.flat_ptr(l o:Nat):V.flat (V.ptr l o)=false:=rfl
theorem V.flat1_ptr(l o:Nat):V.flat1 (V.ptr l o)=false:=rfl
theorem V.flat2_ptr(l o:Nat):V.flat2 (V.ptr l o)=false:=rfl
theorem V.isBox_ptr(i:Nat)(l o:Nat):V.isBox i (V.ptr l o)=false:=rfl
theorem V.cell_ifc(b:Bool):V.cell (V.ifc b)=true:=rfl
theorem V.cells_ifc(b:Bool):V.cells (V.ifc b)=[(V.ifc b)]:=rfl
theorem V.ok1_ifc(b:Bool):V.ok1 (V.ifc b)=true:=rfl
theorem V.flat_ifc(b:Bool):V.flat (V.ifc b)=true:=rfl
theorem V.flat1_ifc(b:Bool):V.flat1 (V.ifc b)=true:=rfl
theorem V.flat2_ifc(b:Bool):V.flat2 (V.ifc b)=true:=rfl
theorem V.isBox_ifc(i:Nat)(b:Bool):V.isBox i (V.ifc b)=false:=rfl
theorem V.cell_agg(cs:List V):V.cell (V.agg cs)=false:=rfl
theorem V.cells_agg(cs:List V):V.cells (V.agg cs)=cs:=rfl
theorem V.ok1_agg(cs:List V):V.ok1 (V.agg cs)=cs.all V.cell:=rfl
theorem V.flat_agg(cs:List V):V.flat (V.agg cs)=false:=rfl
theorem V.flat1_agg(cs:List V):V.flat1 (V.agg cs)=cs.all V.flat:=rfl
theorem V.flat2_agg(cs:List V):V.flat2 (V.agg cs)=cs.all V.flat:=rfl
theorem V.isBox_agg(i:Nat)(cs:List V):V.isBox i (V.agg cs)=false:=rfl
theorem V.cell_tup(cs:List V):V.cell (V.f7 cs)=false:=rfl
theorem V.cells_tup(cs:List V):V.cells (V.f7 cs)=[(V.f7 cs)]:=rfl
theorem V.ok1_tup(cs:List V):V.ok1 (V.f7 cs)=false:=rfl
theorem V.flat_tup(cs:List V):V.flat (V.f7 cs)=false:=rfl
theorem V.flat1_tup(cs:List V):V.flat1 (V.f7 cs)=false:=rfl
theorem V.flat2_tup(cs:List V):V.flat2 (V.f7 cs)=cs.all V.flat1:=rfl
theorem V.isBox_tup(i:Nat)(cs:List V):V.isBox i (V.f7 cs)=false:=rfl
theorem LM{f:Bc}{args:List V}{d:Option Nat}{k:St->Prop}{st:St}{t:Na k}(p:f args st.hp λr h=>k (St.put ⟨st.sl,st.bx,h⟩ d r)):px f args d k st t:=p
theorem kz {body:ACode} {live:List Nat} {k:Cs} (I:Nat->St->Prop)
 (hs:∀(m:Nat) (st:St) (next:St->Prop),I m st->(∀(g:Nat) (f4:St),g<m->I g { f4 with sl:=keep live 0 f4.sl }->next f4)->BT body (F2 next k) st):
 ∀(b m:Nat) (st:St),m<b->I m { st with sl:=keep live 0 st.sl }->OE (BT body) live k b st
 |0,m,st,h,_=>absurd h (Oi m)
 |b+1,m,st,h,hI=>hs m _ _ hI λg f4 hm i=>kz I hs b g f4 (by omega) i
theorem ZhL {body:ACode} {live:List Nat} {k:Cs} {st:St} (I:Nat->St->Prop) (m:Nat) (h0:I m { st with sl:=keep live 0 st.sl })
 (hs:∀(m:Nat) (st:St) (next:St->Prop),I m st->(∀(b:Nat) (f4:St),b<m->I b { f4 with sl:=keep live 0 f4.sl }->next f4)->BT body (F2 next k) st):
 BT (.loop live body) k st:=⟨m+1,kz I hs (m+1) m st (SV m) h0⟩
theorem MF {body:ACode} {live:List Nat} {k:Cs} {st:St} (n:Nat) (I:Nat->St->Prop) (h0:I 0 { st with sl:=keep live 0 st.sl })
 (hs:∀(i:Nat) (st:St) (next:St->Prop),i<=n->I i st->(∀f4:St,i<n->I (i+1) { f4 with sl:=keep live 0 f4.sl }->next f4)->BT body (F2 next k) st):
 BT (.loop live body) k st:=by
 refine ZhL (λm st=>∃i,i<=n/\m=n-i/\I i st) n ⟨0,EE n,rfl,h0⟩ λm st next g j=>?_
 obtain⟨i,hi,hm,g⟩:=g;exact hs i st next hi g λf4 q b=>j (n-(i+1)) f4 (by omega) ⟨i+1,by omega,rfl,b⟩
attribute [go_sem] Cq Zfc Zc7 ZgX Zdq Zgl Zg4 Zb3 Zgg Ze0 ZaS ZcW Zch Zgj Zcy Zfj Zf4 ZhC Zd7 ZdH eq_self Zgu Zgw ZeK Ziq Zah zL ZgQ Zir ZfQ Zda Zek Zdj ZgK ZgP Zb4 Zc5 Zgk Zdu Zbm Zer Ze5 Zc2 ZcD ZfT Zhr ZhD Zg1 ZeN ZbG Zbv Zdg Zdf Zf6 Zcb Zcj Zdc bT Zb6 dG aO Zd5 ZdP ZdJ ZdO ZdM Zeb ZdL Zd6 Ze8 Ze2 ZfJ ZfS Zbr Zcx Zct ZcY Zh6 ZdV Fb G8 E3 ZjF Zjz ZiF Zi9 put AZ CS d_ V.cell_undef V.cells_undef V.ok1_undef V.flat_undef V.flat1_undef V.flat2_undef V.isBox_undef V.cell_bool V.cells_bool V.ok1_bool V.flat_bool V.flat1_bool V.flat2_bool V.isBox_bool V.cell_int V.cells_int V.ok1_int V.flat_int V.flat1_int V.flat2_int V.isBox_int V.cell_str V.cells_str V.ok1_str V.flat_str V.flat1_str V.flat2_str V.isBox_str V.cell_nils V.cells_nils V.ok1_nils V.flat_nils V.flat1_nils V.flat2_nils V.isBox_nils V.cell_slice V.cells_slice V.ok1_slice V.flat_slice V.flat1_slice V.flat2_slice V.isBox_slice V.cell_box V.cells_box V.ok1_box V.flat_box V.flat1_box V.flat2_box V.isBox_box V.cell_ptr V.cells_ptr V.ok1_ptr V.flat_ptr V.flat1_ptr V.flat2_ptr V.isBox_ptr V.cell_ifc V.cells_ifc V.ok1_ifc V.flat_ifc V.flat1_ifc V.flat2_ifc V.isBox_ifc V.cell_agg V.cells_agg V.ok1_agg V.flat_agg V.flat1_agg V.flat2_agg V.isBox_agg V.cell_tup V.cells_tup V.ok1_tup V.flat_tup V.flat1_tup V.flat2_tup V.isBox_tup r_ keep St.put o_.clears Es Hc Dn CJ List.map FT Xp MX Gp Bool.not_false HK Option.bind Option.getD_none IH AS A3 GZ not_false_eq_true N3 AY Bool.true_eq_false A0 A8 List.take List.drop HB Gn DQ FV decide_true decide_false Int.lt_irrefl Int.le_refl beq_self_eq_true BG E4 BH
section
variable {α:Type}
def AV(f:α->Int->α×Int):List α->Int->List α×Int
 |[],m=>([],m)|a::r,m=>((f a m).1::(AV f r (f a m).2).1,(AV f r (f a m).2).2)
def Bb(f:α->Int->α×Int)(l:List α)(m:Int)(i:Nat):List α×Int:=((AV f (l.take i) m).1++l.drop i,(AV f (l.take i) m).2)
theorem G1(f:α->Int->α×Int):∀(l:List α) (m:Int),(AV f l m).1.length=l.length
 |[],_=>rfl
 |a::r,m=>by simp only[AV,A0,G1 f r]
theorem jY(f:α->Int->α×Int):∀(l k:List α) (m:Int),AV f (l++k) m=((AV f l m).1++(AV f k (AV f l m).2).1,(AV f k (AV f l m).2).2)
 |[],k,m=>rfl
 |a::r,k,m=>by simp only[Dn,AV,jY f r k]
theorem Mo(f:α->Int->α×Int)(l:List α)(m:Int):Bb f l m 0=(l,m):=rfl
theorem IC(f:α->Int->α×Int)(l:List α)(m:Int):Bb f l m l.length=AV f l m:=by simp[Bb]
theorem Fk(f:α->Int->α×Int)(l:List α)(m:Int)(i:Nat):(Bb f l m i).1.length=l.length:=by
 simp only[Bb,CK,G1,Db,Qw];omega
theorem Ze9(f:α->Int->α×Int)(l:List α)(m:Int)(i:Nat)(d:α):(Bb f l m i).1.getD i d=l.getD i d:=by
 simp only[Bb,CL];rcases Bx i l.length with h|h
 ·rw[Da (by rw[G1,Db];omega),G1,Db,Lz];congr 2;omega
 rw[BO (by simp[G1];omega),BO h]
theorem RX(f:α->Int->α×Int)(l:List α)(m:Int){i:Nat}(hi:i<l.length)(d:α):Bb f l m (i+1)=((Bb f l m i).1.set i (f (l.getD i d) (Bb f l m i).2).1,(f (l.getD i d) (Bb f l m i).2).2):=by
 have h1:l.take (i+1)=l.take i++[l.getD i d]:=by
  rw[XH,CL,A9 hi];rfl
 simp only[Bb,h1,jY,AV];refine Prod.ext ?_ rfl;have b:(AV f (l.take i) m).1.length=i:=by rw[G1,Db];omega
 simp only;rw[List.set_append_right _ _ (by omega),b,XC,Qp hi,List.set_cons_zero,Cb];rfl
end
def Zjg:IntKind->Int->Int
 |.i64,m=>m|k,m=>k.wrap m
mutual
def CT.mkI:(t:CT)->t.D->Int->t.D×Int
 |.int k,_,m=>(Zjg k m,IntKind.i64.wrap (m+1))|.bool,_,m=>((m.tmod 3 == 0:Bool),IntKind.i64.wrap (m+1))|.str,s,m=>(s,m)|.ifc,b,m=>(b,m)|.sl r,l,m=>AV (RT.mkI r) l m|.slf _,l,m=>(l,m)
def RT.mkI:(r:RT)->r.D->Int->r.D×Int
 |.one t,x,m=>CT.mkI t x m|.cons t r,x,m=>(((CT.mkI t x.1 m).1,(RT.mkI r x.2 (CT.mkI t x.1 m).2).1),(RT.mkI r x.2 (CT.mkI t x.1 m).2).2)
end
def CT.mkT:(t:CT)->t.D->Int->t.D×Int
 |.sl r,l,m=>AV (RT.mkI r) l m|_,x,m=>(x,m)
def RT.mkT:(r:RT)->r.D->Int->r.D×Int
 |.one t,x,m=>CT.mkT t x m|.cons t r,x,m=>(((CT.mkT t x.1 m).1,(RT.mkT r x.2 (CT.mkT t x.1 m).2).1),(RT.mkT r x.2 (CT.mkT t x.1 m).2).2)
mutual
def CT.wl:(t:CT)->t.D->Prop
 |.sl r,l=>l.length<=9223372036854775807/\∀a:r.D,List.Mem a l->RT.wl r a|_,_=>True
def RT.wl:(r:RT)->r.D->Prop
 |.one t,x=>CT.wl t x|.cons t r,x=>CT.wl t x.1/\RT.wl r x.2
end
section
variable {h h':Ab} {ω:Nat->W} {hd:Hd} {p:List Nat}
abbrev Gv (ω:Nat->W) (hd:Hd) (p:List Nat):Nat->Prop:=λl=>∃q,ω l= .own hd (p++q)
abbrev MS (h:Ab) (ω:Nat->W) (hd:Hd) (p:List Nat) (r:RT) (l:List r.D) (u:V):Prop:=RM h ω hd p (.sl .own (l.map r.enc)) u
theorem MS.rc{r:RT}{l:List r.D}{u:V}(M:MS h ω hd p r l u){i:Nat}(hi:i<l.length):RC h ω (.inn hd p) (.sl .own (l.map r.enc)) u:=by
 rcases M with M|⟨e,_⟩
 ·exact M
 have:(l.map r.enc).length=0:=by rw[(PV.sl.inj e).2];rfl
 rw[Bd]at this;omega
theorem RM.back{g es:List (List PV)}{u:V}(h0:RC h ω (.inn hd p) (.sl .own g) u)(i:RM h' ω hd p (.sl .own es) u):RC h' ω (.inn hd p) (.sl .own es) u:=by
 rcases i with r|⟨_,l,o,rfl⟩
 ·exact r
 cases h0 with
 |sl _ _ _ _ _ _ b h1 q s n j=>exact absurd (Dg j.symm) (n rfl (.inl rfl))
theorem MS.len{r:RT}{l:List r.D}{u:V}(M:MS h ω hd p r l u):Ov u=some (.int .i64 (l.length:Int)):=by
 have e:=RM.ln M;rw[Bd]at e;rw[<- e];rcases M with M|⟨_,l',o,rfl⟩
 ·clear e;generalize l.map r.enc=es at M;cases M<;>rfl
 rfl
theorem MS.ok1{r:RT}{l:List r.D}{u:V}(M:MS h ω hd p r l u):u.ok1=true/\u.cell=true:=by
 rcases M with M|⟨_,l',o,rfl⟩
 ·generalize l.map r.enc=es at M;cases M<;>exact⟨rfl,rfl⟩
 exact⟨rfl,rfl⟩
theorem MS.slice{r:RT}{l:List r.D}{u:V}(M:MS h ω hd p r l u)(g:0<l.length):∃b,u= .slice b 0 l.length:=by
 have e:=RM.ln M;rw[Bd]at e;replace M:=M.rc g;generalize l.map r.enc=es at M;cases M with
 |nil=>rw[<- e]at g;cases g
 | sl _ _ _ b o n bk h1 hk hc f9 hn hw hle hr=>
   obtain⟨_,rfl,_⟩:=hc;exact⟨b,by rw[<- e];rfl⟩
theorem MS.upd {r:RT} {l:List r.D} {b n:Nat} (M:MS h ω hd p r l (.slice b 0 n)) {i off:Nat} (hi:i<l.length) (U:off<r.w) {y:r.D} {c:PV} (hy:r.enc y=AX (r.enc (l.getD i r.dflt)) off [c])
 {z:Blk} (h1:h[b]?=some z) {cs':List V} (O:h'[b]?=some { z with cs:=cs' }) (L:cs'.length=z.cs.length) {v:V} (J:∀k,get cs' k=if k=i*r.w+off then v else get z.cs k)
 (Z:∀x,x≠b->(∀q,ω x≠.own hd (p++(i*r.w+off)::q))->h'[x]?=h[x]?) (hc:RC h' ω (.inn hd (p++[i*r.w+off])) c v):MS h' ω hd p r (l.set i y) (.slice b 0 n):=by
 replace M:=M.rc hi;refine .inl ?_;rw[<- br,hy,<- Lq r l i hi];generalize Y:l.map r.enc=es at M;have G:l.length=es.length:=by rw[<- Y,Bd]
 have F:∀e∈es,e.length=r.w:=by rw[<- Y];intro e h;obtain⟨x,_,rfl⟩:=List.mem_map.1 h;exact Lx r x
 have g:i<es.length:=by rw[<- G];exact hi
 cases M with
 | sl _ _ _ _ o _ bk' h1b hk hch f9 C hw hle hr=>
   rw[h1]at h1b;cases h1b;have A:z.w=r.w:=(by rw[<- hw _ (E2 (l:=es) g)];exact F _ (E2 g));have I:=Xk hw g;obtain⟨u,_,N⟩:=hch;refine RC.sl _ .own _ b 0 n { z with cs:=cs' } O hk ⟨u,rfl,N⟩ (λ_ _ h=>by have:=congrArg List.length h;rw[Ms]at this;simp only[A8]at this;omega) (by rw[Ms];exact C) (dO hw (by rw[Hs];exact I)) (by rw[Ms];simp only[L];exact hle) λk t=>?_;simp only[Ms]at t;rw[ke hw g (by rw[A];simp only[A0,A8];omega) k t,BG,J];simp only[A0,A8,A];by_cases s:k=i*r.w+off
   ·subst s;rw[Ac ⟨by omega,by omega⟩,Ac rfl,XC];exact hc
   rw[Ae (by omega),Ae s];have R:=hr k t;rw[BG]at R;refine R.inn0 (f:=Ren.id) (T:=λx=>x=b\/∃q,ω x= .own hd (p++(i*r.w+off)::q)) ⟨λx e=>⟨e,Z x (by rintro rfl;rw[u]at e;cases e) (λq j=>by rw[e]at j;cases j)⟩,λx a q e C=>⟨by rw[e];rfl,Z x (λh=>C (.inl h)) (λq' j=>C (.inr ⟨q',j⟩))⟩⟩ (λx q e hT=>?_) (λq=>rfl);rcases hT with rfl|⟨q',j⟩
   ·rw[u]at e;simp only[W.own.injEq]at e;have:=congrArg List.length e.2;simp at this
   rw[e]at j;simp only[W.own.injEq,Cb,Dn,CJ,List.append_cancel_left_eq,Gq]at j;exact s j.2.1
theorem MS.store {r:RT} {l:List r.D} {b n:Nat} (M:MS h ω hd p r l (.slice b 0 n)) {i off:Nat} (hi:i<l.length) (A:off<r.w) {v:V} (U:v.flat=true) (I:v.cells=[v]) {y:r.D} (hy:r.enc y=AX (r.enc (l.getD i r.dflt)) off [.fl v])
 (Y:∀l l' a q,ω l= .own a q->ω l'= .own a q->l=l') (bx:List (List V)):∃h',El bx h 1 (.ptr b (i*r.w+off)) v=some (.undef,bx,h')/\x_ (Gv ω hd p) h h'/\MS h' ω hd p r (l.set i y) (.slice b 0 n):=by
 have M0:=M.rc hi;generalize Z:l.map r.enc=es at M0;have J:l.length=es.length:=by rw[<- Z,Bd]
 have G:∀e∈es,e.length=r.w:=by rw[<- Z];intro e h;obtain⟨x,_,rfl⟩:=List.mem_map.1 h;exact Lx r x
 have t:i<es.length:=by rw[<- J];exact hi
 cases M0 with
 | sl _ _ _ _ o _ bk h1 F hch f9 hn hw hle hr=>
   have L:bk.w=r.w:=(by rw[<- hw _ (E2 (l:=es) t)];exact G _ (E2 t));obtain⟨O,_,N⟩:=hch;have h_:i*r.w+off<bk.cs.length:=by
    have:(i+1)*r.w<=es.length*r.w:=G5 _ t;rw[DP,Fp]at this;rw[L]at hle;omega
   have hb:b<h.length:=Bw h1;have g:∀k,(h.set b { bk with cs:=d_ bk.cs (i*r.w+off) [v] })[k]?=if k=b then some { bk with cs:=d_ bk.cs (i*r.w+off) [v] }else h[k]?:=by
    intro k;rw[G4];by_cases F:b=k
    ·subst F;simp[hb]
    rw[Ae F,Ae (λh'=>F h'.symm)]
   have j:[v].all V.cell=true:=by
    cases v<;>first|rfl|(simp[V.flat]at U)
   refine⟨h.set b { bk with cs:=d_ bk.cs (i*r.w+off) [v] },?_,⟨by simp,λx s=>?_,λx R s=>?_⟩,M.upd hi A hy h1 (cs':=d_ bk.cs (i*r.w+off) [v]) (v:=v) (by rw[g,Ac rfl]) (GQ _ _ _) (λk=>?_) (λx s _=>by rw[g,Ae s]) (.v _ _ U)⟩
   ·have z:wr h b (i*r.w+off) [v]=some (h.set b { bk with cs:=d_ bk.cs (i*r.w+off) [v] }):=by
     rw[wr,h1];simp only;rw[Ac ⟨N,by simp only[A0,A8];omega⟩]
    simp only[El,I,j,A0,A8,z];rfl
   ·rw[g,Ae];rintro rfl;exact s ⟨[],by rw[O];simp⟩
   ·by_cases u:x=b
    ·subst u;rw[h1]at s;cases s;exact⟨{ bk with cs:=d_ bk.cs (i*r.w+off) [v] },by rw[g,Ac rfl],rfl,rfl,GQ _ _ _⟩
    exact⟨R,by rw[g,Ae u];exact s,rfl,rfl,rfl⟩
   rw[V5 _ _ _ _ (by simp only[A0,A8];omega)];simp only[A0,A8];by_cases C:k=i*r.w+off
   ·subst C;rw[Ac ⟨by omega,by omega⟩,Ac rfl,XC];rfl
   rw[Ae (by omega),Ae C]
theorem MS.load{r:RT}{l:List r.D}{b n:Nat}(M:MS h ω hd p r l (.slice b 0 n)){i off:Nat}(hi:i<l.length)(s:off<r.w){r':RT}{l':List r'.D}(y:Aa (r.enc (l.getD i r.dflt)) off= .sl .own (l'.map r'.enc)):∃u,Lp h none (.ptr b (i*r.w+off))=some u/\RC h ω (.inn hd (p++[i*r.w+off])) (.sl .own (l'.map r'.enc)) u/\∃g,h[b]?=some g/\get g.cs (i*r.w+off)=u:=by
 have G:=M.rc hi;rw[<- Lq r l i hi]at y;generalize C:l.map r.enc=es at G y;have A:l.length=es.length:=by rw[<- C,Bd]
 have z:∀e∈es,e.length=r.w:=by rw[<- C];intro e h;obtain⟨x,_,rfl⟩:=List.mem_map.1 h;exact Lx r x
 have j:i<es.length:=by rw[<- A];exact hi
 cases G with
 | sl _ _ _ _ o _ g h1 hk hch f9 hn hw hle hr=>
   have q:g.w=r.w:=(by rw[<- hw _ (E2 (l:=es) j)];exact z _ (E2 j));have hm:(i+1)*r.w<=es.length*r.w:=G5 _ j;rw[DP,Fp]at hm;have F:i*r.w+off<g.cs.length:=(by rw[q]at hle;omega);have t:=hr (i*r.w+off) (by rw[q];omega);rw[BG]at t;have I:Aa es.flatten (i*r.w+off)=Aa (Bo es i) off:=Ll (w:=r.w) (by rw[<- q];exact hw) i off s;rw[I,y]at t;refine⟨get g.cs (i*r.w+off),?_,t,g,h1,rfl⟩;have J:rd h b (i*r.w+off) 1=some ((g.cs.drop (i*r.w+off)).take 1):=by
    rw[rd,h1];simp only;rw[Ac ⟨hk,by omega⟩]
   show (rd h b (i*r.w+off) 1).bind (CC none)=_;rw[J];rw[Qp F];simp only[dC,List.take_zero,IM,CC,CO,A9 F];rfl
theorem MS.sub {r:RT} {l:List r.D} {b n:Nat} (M:MS h ω hd p r l (.slice b 0 n)) {i off:Nat} (hi:i<l.length) (g:off<r.w) {u:V} {j:Blk} (h1:h[b]?=some j) (N:get j.cs (i*r.w+off)=u)
 (A:x_ (Gv ω hd (p++[i*r.w+off])) h h') {r':RT} {l':List r'.D} {C:List (List PV)} (s:RC h ω (.inn hd (p++[i*r.w+off])) (.sl .own C) u) (F:MS h' ω hd (p++[i*r.w+off]) r' l' u) {y:r.D} (J:r.enc y=AX (r.enc (l.getD i r.dflt)) off [.sl .own (l'.map r'.enc)]):
 x_ (Gv ω hd p) h h'/\MS h' ω hd p r (l.set i y) (.slice b 0 n):=by
 have z:ω b= .own hd p:=by
  have I:=M.rc hi;generalize l.map r.enc=es at I;cases I with
  |sl _ _ _ _ o _ j h1 G t Y U R O F=>exact t.1
 refine⟨A.mono λx ⟨q,e⟩=>⟨(i*r.w+off)::q,by rw[e];simp⟩,M.upd hi g J h1 (cs':=j.cs) (v:=u) ?_ rfl (λk=>?_) (λx _ L=>A.off x (λ⟨q,e⟩=>L q (by rw[e];simp))) (RM.back s F)⟩
 ·rw[A.off b]
  ·exact h1
  rintro⟨q,e⟩;rw[z]at e;simp only[W.own.injEq]at e;have:=congrArg List.length e.2;simp at this
 split
 ·rename_i G;rw[G,N]
 rfl
theorem MS.frame{r:RT}{l:List r.D}{u:V}(M:MS h ω hd p r l u){i:Nat}(hi:i<l.length):MS h ω hd p r (l.set i (l.getD i r.dflt)) u:=by
 have:l.set i (l.getD i r.dflt)=l:=by
  rw[CL,A9 hi];simp
 rw[this];exact M
theorem Z2{r:RT}{l:List r.D}{i:Nat}(hi:i<l.length)(x:r.D):(l.set i x).getD i r.dflt=x:=by
 rw[CL,dK (by simpa using hi)];rfl
theorem MS.st {r:RT} {l:List r.D} {b n i:Nat} {x:r.D} (M:MS h ω hd p r (l.set i x) (.slice b 0 n)) (hi:i<l.length) {off:Nat} (g:off<r.w) {v:V} (z:v.flat=true) (s:v.cells=[v]) {y:r.D} (u:r.enc y=AX (r.enc x) off [.fl v])
 (j:∀l l' a q,ω l= .own a q->ω l'= .own a q->l=l') (bx:List (List V)):∃h',El bx h 1 (.ptr b (i*r.w+off)) v=some (.undef,bx,h')/\x_ (Gv ω hd p) h h'/\MS h' ω hd p r (l.set i y) (.slice b 0 n):=by
 obtain⟨h',C,A,t⟩:=M.store (i:=i) (off:=off) (by simpa using hi) g z s (y:=y) (by rw[Z2 hi];exact u) j bx;rw[List.set_set]at t;exact⟨h',C,A,t⟩
theorem MS.sb{r:RT}{l:List r.D}{b n i:Nat}{x:r.D}(M:MS h ω hd p r (l.set i x) (.slice b 0 n))(hi:i<l.length){off:Nat}(g:off<r.w){r':RT}{l':List r'.D}(A:Aa (r.enc x) off= .sl .own (l'.map r'.enc)):∃u,Lp h none (.ptr b (i*r.w+off))=some u/\MS h ω hd (p++[i*r.w+off]) r' l' u /\
   ∀(h':Ab) (j:List r'.D) (y:r.D),x_ (Gv ω hd (p++[i*r.w+off])) h h'->MS h' ω hd (p++[i*r.w+off]) r' j u->r.enc y=AX (r.enc x) off [.sl .own (j.map r'.enc)]->x_ (Gv ω hd p) h h'/\MS h' ω hd p r (l.set i y) (.slice b 0 n):=by
 obtain⟨u,J,s,L,I,G⟩:=M.load (i:=i) (off:=off) (by simpa using hi) g (r':=r') (l':=l') (by rw[Z2 hi];exact A);refine⟨u,J,.inl s,λh' j y C F z=>?_⟩;obtain⟨t,q⟩:=M.sub (i:=i) (off:=off) (by simpa using hi) g I G C s F (y:=y) (by rw[Z2 hi];exact z);rw[List.set_set]at q;exact⟨t,q⟩
theorem Oa{r:RT}{l:List r.D}(b:CT.wl (.sl r) l){i:Nat}(hi:i<l.length):RT.wl r (l.getD i r.dflt):=by
 rw[CL,A9 hi];exact b.2 _ (E2 hi)
theorem RC.beside{m:Nat}{P:List Nat}{v:PV}{u:V}{S:Nat->Prop}(r:RC h ω (.inn hd (P++[m])) v u)(i:x_ S h h')(g:∀l,S l->∃c q,c≠m/\ω l= .own hd (P++c::q)):RC h' ω (.inn hd (P++[m])) v u:=by
 refine r.inn0 (f:=Ren.id) (T:=S) ⟨λl e=>⟨e,i.off l λhs=>?_⟩,λl a q e j=>⟨by rw[e];rfl,i.off l j⟩⟩ (λl q e hs=>?_) (λq=>rfl)
 ·obtain⟨c,q,_,b⟩:=g l hs;rw[e]at b;cases b
 obtain⟨c,q',n,b⟩:=g l hs;rw[e]at b;simp only[W.own.injEq,Cb,Dn,CJ,List.append_cancel_left_eq,Gq]at b;exact n b.2.1.symm
theorem RM.beside{m:Nat}{P:List Nat}{v:PV}{u:V}{S:Nat->Prop}(r:RM h ω hd (P++[m]) v u)(g:x_ S h h')(b:∀l,S l->∃c q,c≠m/\ω l= .own hd (P++c::q)):RM h' ω hd (P++[m]) v u:=r.imp (λr=>r.beside g b) id
theorem RM.cellV{v:PV}{u:V}(r:RM h ω hd p v u)(h:v.argc=true):u.cell=true:=by
 rcases r with r|⟨_,l,o,rfl⟩
 ·exact Xx r h
 rfl
theorem RC.cellV{H:Ab}{m:Md}{v:PV}{u:V}(r:RC H ω m v u)(h:v.argc=true):u.cell=true:=Xx r h
theorem RC.own1{H:Ab}{m:Md}{es:List (List PV)}{u:V}(r:RC H ω m (.sl .own es) u):u.ok1=true/\u.cell=true/\u.cells=[u]:=by cases r<;>exact⟨rfl,rfl,rfl⟩
theorem RM.own1{es:List (List PV)}{u:V}(r:RM h ω hd p (.sl .own es) u):u.ok1=true/\u.cell=true/\u.cells=[u]:=by
 rcases r with r|⟨_,l,o,rfl⟩
 ·exact r.own1
 exact⟨rfl,rfl,rfl⟩
theorem RC.flat1{H:Ab}{m:Md}{x u:V}(r:RC H ω m (.fl x) u)(b:x≠.undef):u=x:=by
 cases r with
 |undef=>exact absurd rfl b
 |v=>rfl
theorem LH{x:Int}(h:-9223372036854775808<=x/\x<=9223372036854775807):IntKind.i64.wrap x=x:=by
 rw[IntKind.wrap_i64];omega
theorem FX{r:RT}{x:r.D}{j:Nat}(h:j<r.w):j<(r.enc x).length:=by rw[Lx];exact h
theorem MA{b n w:Nat}{i:Nat}(hi:i<n){k:IntKind}:lQ w (.slice b 0 n) (.int k (i:Int))=some (.ptr b (i*w)):=by
 show (if 0<=(i:Int)/\(i:Int)<n then some (V.ptr b (0+(i:Int).toNat*w))else none)=_;rw[Ac (by omega),AG,BG]
theorem ND{r:RT}{l:List r.D}{m:Int}{i:Nat}(hi:i<l.length){L:List r.D}{k:Int}(e:Bb r.mkI l m i=(L,k)):L.length=l.length/\Bb r.mkI l m (i+1)=(L.set i (r.mkI (L.getD i r.dflt) k).1,(r.mkI (L.getD i r.dflt) k).2)/\L.getD i r.dflt=l.getD i r.dflt:=by
 have h1:=Fk r.mkI l m i;have b:=Ze9 r.mkI l m i r.dflt;rw[e]at h1 b;exact⟨h1,by rw[RX r.mkI l m hi r.dflt,e,<- b],b⟩
end
theorem ZiU{us:List V}(h:us.length=2):∃g b,us=[g,b]:=by
 match us,h with
 |[g,b],_=>exact⟨g,b,rfl⟩
theorem Zi8{us:List V}(h:us.length=7):∃s q n j i g b,us=[s,q,n,j,i,g,b]:=by
 match us,h with
 |[s,q,n,j,i,g,b],_=>exact⟨s,q,n,j,i,g,b,rfl⟩
def SlC(s:Bc)(r:RT):Prop:=∀(h:Ab) (ω:Nat->W) (hd:Hd) (p:List Nat) (l:List r.D) (u:V) (m:Int) (Q:V->Ab->Prop),CT.wl (.sl r) l->(∀l l' a q,ω l= .own a q->ω l'= .own a q->l=l')->MS h ω hd p r l u ->
 (∀h',x_ (Gv ω hd p) h h'->MS h' ω hd p r (AV r.mkI l m).1 u->Q (.int .i64 (AV r.mkI l m).2) h')->s [u,.int .i64 m] h Q
def qe(r:RT):DMk:=⟨.one (.sl r),false,λl=>CT.wl (.sl r) l,λl m=>AV r.mkI l m,false⟩
def eQ(r:RT):DMk:=⟨r,true,λx=>RT.wl r x,λx m=>r.mkT x m,false⟩
theorem Zg6(r:RT)(m:Int):(eQ r).P.rv m= .int .i64 m:=rfl
attribute [go_sem] Zg6
theorem SlC.sound{s:Bc}{r:RT}(hs:SlC s r):LC s (qe r).P:=by
 rintro h ω hd P b AH us u m K Q hinj g hl hr ⟨x,rfl,d8,hK⟩ hQ;have g:us=[u]:=g;subst g;have h0:=hr 0 (by show 0<1;omega);refine hs h ω hd (P++[b]) x u m Q d8 hinj h0 λh' j n=>?_;refine hQ _ _ h' hK rfl (j.mono λl ⟨q,e⟩=>⟨0,_,q,by show 0<1;omega,rfl,by rw[e];simp⟩) λc i=>?_;have:c=0:=by have:c<1:=i;omega
 subst this;exact n
abbrev ZjL (ω:Nat->W) (hd:Hd) (P:List Nat) (b:Nat) (cs:List PV):Nat->Prop:=λl=>∃c es r,c<cs.length/\Aa cs c= .sl .own es/\ω l= .own hd (P++(b+c)::r)
structure Fn where
 d:DFun
 h:List HT
 q:QT
@[irreducible] def Fn.S(F:Fn):Bc:=EH F.d.er.er
@[irreducible] def Fn.P(F:Fn):Dd:=IP F.d.er
@[irreducible] def Fn.V(F:Fn)(x:TuX F.h):F.q.D:=(shut λx=>OS F.d F.h F.q x).1 x
@[irreducible] def Fn.O(F:Fn)(x:TuX F.h):Prop:=(shut λx=>OH F.d F.h F.q x).1 x
def Fn.D(F:Fn):M5:=de F.h F.q F.O F.V
theorem Fn.v(F:Fn)(x:TuX F.h):F.V x=OS F.d F.h F.q x:=by unfold Fn.V;exact congrFun (shut _).2 x
theorem Fn.o(F:Fn)(x:TuX F.h):F.O x=OH F.d F.h F.q x:=by unfold Fn.O;exact congrFun (shut _).2 x
def Fn.A(F:Fn):Prop:=JI F.S F.P
def Fn.B(F:Fn):Prop:=Xy F.P F.D
theorem AM{F:Fn}(o:AllP F.d.er.body.t8):F.A:=by unfold Fn.A Fn.S Fn.P;exact Ws o
theorem AO{F:Fn}(o:AllD F.d.body.t8)(st:QN F.d F.h F.q=true)(c:∀x,QC F.d F.h F.q x=true):F.B:=by
 unfold Fn.B Fn.P;exact ZeX o st c (λx h=>Eq.mp (F.o x) h) (λx=>(F.v x).symm)
@[reducible] def oF (i d:Nat) (F:Fn) (args:List T_):DOper:=⟨i,some d,.call false F.S F.P F.D args,none,[]⟩
@[reducible] def xF (i d:Nat) (F:Fn) (args:List T_) (a:List Nat):DOper:=⟨i,some d,.call false F.S F.P F.D args,none,a⟩
theorem lF{P:Program}(hm:P.follows .mixedOrders=true){F:Fn}{f:FuncId}{g:Func}{t8:List (FuncId×Bc)}(n:P.funcs[f]?=some g)(j:E7 P g F.d.er.er=true)(i:E6 P g F.d.er.er=t8)(b:AllSound P t8):Ay P f F.S:=by
 unfold Fn.S;exact Ga hm n j i b
section
set_option maxRecDepth 8000
abbrev Rd:=Nat->Nat->DOper×Nat
instance(n):OfNat T_ n:=⟨.t n⟩
def RK:Nat->Nat->List Rd->List DOper
 |_,_,[]=>[]|i,d,f::r=>(f i d).1::RK (i+1) (f i d).2 r
def At(d:Nat)(l:List Rd):d4:=.region (RK 0 d l)
def A_(v:List Nat)(d:Nat)(l:List Rd)(c:d4):d4:=.seq v (At d l) c
def I_(o:DOp):Rd:=λi d=>(⟨i,some d,o,none,[]⟩,d+1)
def B_(o:o_):Rd:=I_ (.a false o none)
def C'(o:o_):Rd:=I_ (.a true o none)
def Q'(t:RT)(o:o_):Rd:=I_ (.a false o (some t))
def Q_(t:T_):Rd:=B_ (.mv t)
def C_(t:T_):Rd:=B_ (.mv t)
def D_(t:T_):Rd:=C' (.mv t)
def E'(n:Int):Rd:=B_ (.mv (.c (.int .i64 n)))
def E_(o:o_):Rd:=λi d=>(⟨i,none,.a false o none,none,[]⟩,d)
def I'(F:Fn)(a:List T_):Rd:=I_ (.call false F.S F.P F.D a)
def F'(g:Nat)(b:Rd):Rd:=λi d=>({(b i d).1 with guard:=some (g,false)},(b i d).2)
def F_(g:Nat)(b:Rd):Rd:=λi d=>({(b i d).1 with guard:=some (g,true)},(b i d).2)
def G'(a:List Nat)(b:Rd):Rd:=λi d=>({(b i d).1 with anc:=a},(b i d).2)
def G_(k:Nat)(b:Rd):Rd:=λi d=>((b i k).1,d)
def H_(k:Nat)(b:Rd):Rd:=λi _=>b i k
def J'(n:Nat)(a:T_):Rd:=B_ (.f5 n a)
def J_(n:Nat)(a:T_):Rd:=B_ (.d7 n none a)
def K_(n m:Nat)(a:T_):Rd:=B_ (.d7 n (some m) a)
def L'(a:T_):Rd:=B_ (.len a)
def L_(a b c:T_):Rd:=B_ (.pick a b c)
def M'(a b:T_):Rd:=B_ (.bin .lss a b)
def M_(a b:T_):Rd:=B_ (.bin .add a b)
def Nm(a b:T_):Rd:=B_ (.bin .eql a b)
def N'(a b:T_):Rd:=B_ (.bin .neq a b)
def N_(n:Nat)(a b:T_):Rd:=B_ (.p_ n a b)
def O'(n m:Nat)(a:T_):Rd:=B_ (.boxB n m a)
def O_(a:T_):Rd:=B_ (.i5 none a)
def P'(a:T_):Rd:=B_ (.un .not a)
def Zbl:d4:=(A_ [2,1,0] 6 [Q_ As] (A_ [6] 7 [C_ 0,C_ 1,B_ (.bin .geq 7 8),C_ 9,F_ 10 (Q_ 0),F_ 10 (Q_ 2),F_ 10 (B_ (.bin .leq 11 12)),L_ 10 13 As,G_ 6 (C_ 14)] .ret))
def BR:Fn:=⟨⟨3,15,0,true,[.tmp 6],Zbl⟩,[.one .Z' (.int .i64),.one .Z' (.int .i64),.one .Z' (.int .i64)],.one (.one .own (.bool))⟩
theorem Gb:BR.A:=AM trivial
def BM:Ds->Bool:=BR.V
def D8:Ds->Prop:=BR.O
theorem F9:BR.B:=AO trivial (by kernel_rfl) (λx=>by kernel_rfl)
def uG:d4:=(A_ [1] 1 [O' 0 4 0,Q_ As] (A_ [3,1] 6 [J' 1 1,J_ 0 6,I' BR [7,AA,(.c (.int .i64 56))],G_ 3 (C_ 8)] (A_ [4,3,1] 9 [J' 2 1,J_ 0 9,I' BR [10,AA,(.c (.int .i64 15))],G_ 4 (C_ 11)] (A_ [5,4,3,1] 12 [J' 3 1,J_ 0 12,I' BR [13,AA,(.c (.int .i64 3))],G_ 5 (C_ 14)] (.seq [] (A_ [16,5,4,3,1] 15 [J' 0 1,J_ 0 15] (.block 0 (.seq [17,16,5,4,3,1] (A_ [17,16,5,4,3,1] 18 [Nm 16 AL,G_ 17 (C_ 18)] (.cond 17 .skip (A_ [17,16,5,4,3,1] 19 [Nm 16 AA,G_ 17 (C_ 19)] (.cond 17 .skip (At 20 [Nm 16 (.c (.int .i64 10)),G_ 17 (C_ 20)]))))) (.cond 17 (A_ [2] 21 [J' 1 1,J_ 0 21,Nm 22 AL,C_ 23,F_ 24 (J' 2 1),F_ 24 (J_ 0 25),F_ 24 (Nm 26 AL),L_ 24 27 As,C_ 28,F_ 29 (J' 3 1),F_ 29 (J_ 0 30),F_ 29 (Nm 31 AL),L_ 29 32 As,G_ 2 (C_ 33)] .ret) (A_ [34,16,5,4,3,1] 35 [Nm 16 (.c (.int .i64 2)),G_ 34 (C_ 35)] (.cond 34 (A_ [2] 36 [J' 3 1,J_ 0 36,Nm 37 AL,C_ 38,F_ 39 (Q_ 3),F_ 39 (Q_ 40),F' 41 (J' 1 1),F' 41 (J_ 0 42),F' 41 (Nm 43 AL),F' 41 (Q_ 44),F_ 45 (Q_ 4),F' 41 (L_ 45 46 As),F_ 39 (L_ 41 AW 47),L_ 39 48 As,C_ 49,F_ 50 (Q_ 4),F_ 50 (Q_ 51),F' 52 (J' 2 1),F' 52 (J_ 0 53),F' 52 (Nm 54 AL),F_ 50 (L_ 52 AW 55),L_ 50 56 As,G_ 2 (C_ 57)] .ret) (.seq [58,16,5,4,3,1] (A_ [58,16,5,4,3,1] 59 [Nm 16 (.c (.int .i64 3)),G_ 58 (C_ 59)] (.cond 58 .skip (At 60 [Nm 16 (.c (.int .i64 4)),G_ 58 (C_ 60)]))) (.cond 58 (A_ [2] 61 [C_ 5,C_ 61,F_ 62 (J' 1 1),F_ 62 (J_ 0 63),F_ 62 (Nm 64 AL),L_ 62 65 As,C_ 66,F_ 67 (J' 2 1),F_ 67 (J_ 0 68),F_ 67 (Nm 69 AL),L_ 67 70 As,G_ 2 (C_ 71)] .ret) (.seq [72,16,5,4,3,1] (A_ [72,16,5,4,3,1] 73 [Nm 16 (.c (.int .i64 5)),G_ 72 (C_ 73)] (.cond 72 .skip (At 74 [Nm 16 (.c (.int .i64 9)),G_ 72 (C_ 74)]))) (.cond 72 (A_ [2] 75 [J' 3 1,J_ 0 75,I' BR [76,AL,(.c (.int .i64 3))],C_ 77,F_ 78 (J' 1 1),F_ 78 (J_ 0 79),F_ 78 (Nm 80 AL),L_ 78 81 As,C_ 82,F_ 83 (J' 2 1),F_ 83 (J_ 0 84),F_ 83 (Nm 85 AL),L_ 83 86 As,G_ 2 (C_ 87)] .ret) (A_ [88,16,5,4,3,1] 89 [Nm 16 (.c (.int .i64 6)),G_ 88 (C_ 89)] (.cond 88 (A_ [2] 90 [C_ 3,C_ 90,F_ 91 (Q_ 4),L_ 91 92 As,C_ 93,F_ 94 (J' 3 1),F_ 94 (J_ 0 95),F_ 94 (Nm 96 AL),L_ 94 97 As,G_ 2 (C_ 98)] .ret) (A_ [99,16,5,4,3,1] 100 [Nm 16 (.c (.int .i64 7)),G_ 99 (C_ 100)] (.cond 99 (A_ [2] 101 [C_ 3,C_ 101,F_ 102 (Q_ 5),L_ 102 103 As,C_ 104,F_ 105 (J' 2 1),F_ 105 (J_ 0 106),F_ 105 (Nm 107 AL),L_ 105 108 As,G_ 2 (C_ 109)] .ret) (A_ [110,4,1] 111 [Nm 16 (.c (.int .i64 8)),G_ 110 (C_ 111)] (.cond 110 (A_ [2] 112 [C_ 4,C_ 112,F_ 113 (J' 1 1),F_ 113 (J_ 0 114),F_ 113 (Nm 115 AL),L_ 113 116 As,C_ 117,F_ 118 (J' 3 1),F_ 118 (J_ 0 119),F_ 118 (Nm 120 AL),L_ 118 121 As,G_ 2 (C_ 122)] .ret) .skip)))))))))))))))) (A_ [2] 2 [Q_ As] .ret))))))
def Ef:Fn:=⟨⟨1,123,1,true,[.tmp 2],uG⟩,[.agg [Au,Au,Au,Au]],.one (.one .own (.bool))⟩
theorem Vb:Ef.A:=AM ⟨Gb,Gb,Gb,Gb,trivial⟩
def D6:Cw->Bool:=Ef.V
def Ns:Cw->Prop:=Ef.O
theorem U7:Ef.B:=AO ⟨F9,F9,F9,F9,trivial⟩ (by kernel_rfl) (λx=>by kernel_rfl)
def z6:d4:=(A_ [0] 2 [Q_ As] (A_ [2] 3 [C_ 0,B_ (.bin .geq 3 AA),C_ 4,F_ 5 (Q_ 0),F_ 5 (B_ (.bin .leq 6 (.c (.int .i64 56)))),L_ 5 7 As,G_ 2 (C_ 8)] .ret))
def FJ:Fn:=⟨⟨1,9,0,true,[.tmp 2],z6⟩,[.one .Z' (.int .i64)],.one (.one .own (.bool))⟩
theorem Zv:FJ.A:=AM trivial
def Iu:Int->Bool:=FJ.V
def Px:Int->Prop:=FJ.O
theorem Zr:FJ.B:=AO trivial (by kernel_rfl) (λx=>by kernel_rfl)
def zp:d4:=(A_ [0] 2 [Q_ As] (A_ [2] 3 [C_ 0,B_ (.bin .geq 3 AA),C_ 4,F_ 5 (Q_ 0),F_ 5 (B_ (.bin .leq 6 (.c (.int .i64 15)))),L_ 5 7 As,G_ 2 (C_ 8)] .ret))
def Eh:Fn:=⟨⟨1,9,0,true,[.tmp 2],zp⟩,[.one .Z' (.int .i64)],.one (.one .own (.bool))⟩
theorem Zs:Eh.A:=AM trivial
def PA:Int->Bool:=Eh.V
def Nt:Int->Prop:=Eh.O
theorem Zq:Eh.B:=AO trivial (by kernel_rfl) (λx=>by kernel_rfl)
def yj:d4:=(A_ [0] 2 [Q_ As] (A_ [2] 3 [C_ 0,B_ (.bin .geq 3 AA),C_ 4,F_ 5 (Q_ 0),F_ 5 (B_ (.bin .leq 6 (.c (.int .i64 3)))),L_ 5 7 As,G_ 2 (C_ 8)] .ret))
def FG:Fn:=⟨⟨1,9,0,true,[.tmp 2],yj⟩,[.one .Z' (.int .i64)],.one (.one .own (.bool))⟩
theorem gF:FG.A:=AM trivial
def Vy:Int->Bool:=FG.V
def Rq:Int->Prop:=FG.O
theorem gz:FG.B:=AO trivial (by kernel_rfl) (λx=>by kernel_rfl)
def vw:d4:=(A_ [1] 1 [O' 0 4 0,Q_ As] (.seq [] (A_ [4,1] 3 [J' 0 1,J_ 0 3] (.block 0 (.seq [5,4,1] (A_ [5,4,1] 6 [Nm 4 AL,G_ 5 (C_ 6)] (.cond 5 .skip (A_ [5,4,1] 7 [Nm 4 AA,G_ 5 (C_ 7)] (.cond 5 .skip (At 8 [Nm 4 (.c (.int .i64 10)),G_ 5 (C_ 8)]))))) (.cond 5 (A_ [2] 9 [J' 1 1,J_ 0 9,Nm 10 AL,C_ 11,F_ 12 (J' 2 1),F_ 12 (J_ 0 13),F_ 12 (Nm 14 AL),L_ 12 15 As,C_ 16,F_ 17 (J' 3 1),F_ 17 (J_ 0 18),F_ 17 (Nm 19 AL),L_ 17 20 As,G_ 2 (C_ 21)] .ret) (A_ [22,4,1] 23 [Nm 4 (.c (.int .i64 2)),G_ 22 (C_ 23)] (.cond 22 (A_ [2] 24 [J' 3 1,J_ 0 24,Nm 25 AL,C_ 26,F_ 27 (J' 1 1),F_ 27 (J_ 0 28),F_ 27 (Nm 29 AL),F_ 27 (Q_ 30),F' 31 (J' 1 1),F' 31 (J_ 0 32),F' 31 (I' FJ [33]),F_ 27 (L_ 31 AW 34),L_ 27 35 As,C_ 36,F_ 37 (J' 2 1),F_ 37 (J_ 0 38),F_ 37 (Nm 39 AL),F_ 37 (Q_ 40),F' 41 (J' 2 1),F' 41 (J_ 0 42),F' 41 (I' Eh [43]),F_ 37 (L_ 41 AW 44),L_ 37 45 As,C_ 46,F_ 47 (J' 1 1),F_ 47 (J_ 0 48),F_ 47 (N' 49 AL),F_ 47 (Q_ 50),F' 51 (J' 2 1),F' 51 (J_ 0 52),F' 51 (N' 53 AL),F_ 47 (L_ 51 AW 54),L_ 47 55 As,G_ 2 (C_ 56)] .ret) (.seq [57,4,1] (A_ [57,4,1] 58 [Nm 4 (.c (.int .i64 3)),G_ 57 (C_ 58)] (.cond 57 .skip (At 59 [Nm 4 (.c (.int .i64 4)),G_ 57 (C_ 59)]))) (.cond 57 (A_ [2] 60 [J' 1 1,J_ 0 60,Nm 61 AL,C_ 62,F_ 63 (J' 2 1),F_ 63 (J_ 0 64),F_ 63 (Nm 65 AL),L_ 63 66 As,C_ 67,F_ 68 (J' 3 1),F_ 68 (J_ 0 69),F_ 68 (I' FG [70]),L_ 68 71 As,G_ 2 (C_ 72)] .ret) (A_ [73,4,1] 74 [Nm 4 (.c (.int .i64 5)),G_ 73 (C_ 74)] (.cond 73 (A_ [2] 75 [J' 1 1,J_ 0 75,Nm 76 AL,C_ 77,F_ 78 (J' 2 1),F_ 78 (J_ 0 79),F_ 78 (Nm 80 AL),L_ 78 81 As,C_ 82,F_ 83 (J' 3 1),F_ 83 (J_ 0 84),F_ 83 (B_ (.bin .geq 85 AL)),L_ 83 86 As,C_ 87,F_ 88 (J' 3 1),F_ 88 (J_ 0 89),F_ 88 (B_ (.bin .leq 90 (.c (.int .i64 3)))),L_ 88 91 As,G_ 2 (C_ 92)] .ret) (A_ [93,4,1] 94 [Nm 4 (.c (.int .i64 9)),G_ 93 (C_ 94)] (.cond 93 (A_ [2] 95 [J' 1 1,J_ 0 95,Nm 96 AL,C_ 97,F_ 98 (J' 2 1),F_ 98 (J_ 0 99),F_ 98 (Nm 100 AL),L_ 98 101 As,C_ 102,F_ 103 (J' 3 1),F_ 103 (J_ 0 104),F_ 103 (B_ (.bin .geq 105 AL)),L_ 103 106 As,C_ 107,F_ 108 (J' 3 1),F_ 108 (J_ 0 109),F_ 108 (B_ (.bin .leq 110 (.c (.int .i64 3)))),L_ 108 111 As,G_ 2 (C_ 112)] .ret) (A_ [113,4,1] 114 [Nm 4 (.c (.int .i64 6)),G_ 113 (C_ 114)] (.cond 113 (A_ [2] 115 [J' 1 1,J_ 0 115,I' FJ [116],C_ 117,F_ 118 (J' 2 1),F_ 118 (J_ 0 119),F_ 118 (I' Eh [120]),L_ 118 121 As,C_ 122,F_ 123 (J' 3 1),F_ 123 (J_ 0 124),F_ 123 (Nm 125 AL),L_ 123 126 As,G_ 2 (C_ 127)] .ret) (A_ [128,4,1] 129 [Nm 4 (.c (.int .i64 7)),G_ 128 (C_ 129)] (.cond 128 (A_ [2] 130 [J' 1 1,J_ 0 130,I' FJ [131],C_ 132,F_ 133 (J' 2 1),F_ 133 (J_ 0 134),F_ 133 (Nm 135 AL),L_ 133 136 As,C_ 137,F_ 138 (J' 3 1),F_ 138 (J_ 0 139),F_ 138 (I' FG [140]),L_ 138 141 As,G_ 2 (C_ 142)] .ret) (A_ [143,1] 144 [Nm 4 (.c (.int .i64 8)),G_ 143 (C_ 144)] (.cond 143 (A_ [2] 145 [J' 1 1,J_ 0 145,Nm 146 AL,C_ 147,F_ 148 (J' 2 1),F_ 148 (J_ 0 149),F_ 148 (I' Eh [150]),L_ 148 151 As,C_ 152,F_ 153 (J' 3 1),F_ 153 (J_ 0 154),F_ 153 (Nm 155 AL),L_ 153 156 As,G_ 2 (C_ 157)] .ret) .skip)))))))))))))))))) (A_ [2] 2 [Q_ As] .ret)))
def ET:Fn:=⟨⟨1,158,1,true,[.tmp 2],vw⟩,[.agg [Au,Au,Au,Au]],.one (.one .own (.bool))⟩
theorem UR:ET.A:=AM ⟨Zv,Zs,gF,Zv,Zs,Zv,gF,Zs,trivial⟩
def B4:Cw->Bool:=ET.V
def Nr:Cw->Prop:=ET.O
theorem U3:ET.B:=AO ⟨Zr,Zq,gz,Zr,Zq,Zr,gz,Zq,trivial⟩ (by kernel_rfl) (λx=>by kernel_rfl)
def vV:d4:=(A_ [3,2] 2 [O' 0 4 0,O' 1 4 1,Q_ As] (.seq [3,2] (A_ [9,3,2] 5 [J' 0 2,J_ 0 5,J' 0 3,J_ 1 7,N' 6 8] (.cond 9 (A_ [4] 4 [Q_ As] .ret) .skip)) (.seq [3,2] (A_ [14,3,2] 10 [J' 1 2,J_ 0 10,J' 1 3,J_ 1 12,N' 11 13] (.cond 14 (A_ [4] 4 [Q_ As] .ret) .skip)) (.seq [3,2] (A_ [19,3,2] 15 [J' 2 2,J_ 0 15,J' 2 3,J_ 1 17,N' 16 18] (.cond 19 (A_ [4] 4 [Q_ As] .ret) .skip)) (.seq [] (A_ [24] 20 [J' 3 2,J_ 0 20,J' 3 3,J_ 1 22,N' 21 23] (.cond 24 (A_ [4] 4 [Q_ As] .ret) .skip)) (A_ [4] 4 [Q_ AW] .ret))))))
def Il:Fn:=⟨⟨2,25,2,true,[.tmp 4],vV⟩,[.agg [Au,Au,Au,Au],.agg [Au,Au,Au,Au]],.one (.one .own (.bool))⟩
theorem ga:Il.A:=AM trivial
def Jp:dZ->Bool:=Il.V
def Ph:dZ->Prop:=Il.O
theorem fU:Il.B:=AO trivial (by kernel_rfl) (λx=>by kernel_rfl)
end
section
set_option maxRecDepth 100000
theorem ZF(x):BM x=W_ (iGe x.1 x.2.1) (iLe x.1 x.2.2):=(BR.v x).trans (by kernel_rfl)
theorem PF(x):D8 x=True:=(BR.o x).trans (by kernel_rfl)
theorem ZjZ(x:Cw)(a)(_:a=w_ (g9 x.1 0) (w_ (g9 x.1 1) (g9 x.1 10)))(b)(_:b=BM (x.2.2.1,1,15))(c)(_:c=g9 x.2.2.1 0)(d)(_:d=w_ (g9 x.1 3) (g9 x.1 4))(e)(_:e=w_ (g9 x.1 5) (g9 x.1 9))(f)(_:f=g9 x.2.1 0)(g)(_:g=x.2.2.2)(h)(_:h=BM (x.2.1,1,56))(i)(_:i=g9 g 0)(j)(_:j=g9 x.1 2):D6 x=Y_ a (W_ f (W_ c i)) (Y_ j (W_ i (Y_ h (w_ b c) (W_ f (W_ b (w_ b c))))) (Y_ d (W_ (BM (g,1,3)) (W_ f c)) (Y_ e (W_ (BM (g,0,3)) (W_ f c)) (Y_ (g9 x.1 6) (W_ h (W_ b i)) (Y_ (g9 x.1 7) (W_ h (W_ (BM (g,1,3)) c)) (W_ (g9 x.1 8) (W_ b (W_ f i))))))))/\Ns x=(D8 (x.2.1,1,56)/\D8 (x.2.2.1,1,15)/\D8 (g,1,3)/\(a=true->True)/\(a=false->(j=true->True)/\(j=false->(d=true->True)/\(d=false->(e=true->D8 (g,0,3))/\(e=false->True))))):=by subst_vars;exact⟨(Ef.v x).trans (by kernel_rfl),(Ef.o x).trans (by kernel_rfl)⟩
abbrev uU:=λx=>(ZjZ x _ rfl _ rfl _ rfl _ rfl _ rfl _ rfl _ rfl _ rfl _ rfl _ rfl).1
abbrev uu:=λx=>(ZjZ x _ rfl _ rfl _ rfl _ rfl _ rfl _ rfl _ rfl _ rfl _ rfl _ rfl).2
theorem VJ(x):Iu x=W_ (iGe x 1) (iLe x 56):=(FJ.v x).trans (by kernel_rfl)
theorem ze(x):Px x=True:=(FJ.o x).trans (by kernel_rfl)
theorem Vz(x):PA x=W_ (iGe x 1) (iLe x 15):=(Eh.v x).trans (by kernel_rfl)
theorem zd(x):Nt x=True:=(Eh.o x).trans (by kernel_rfl)
theorem Zk(x):Vy x=W_ (iGe x 1) (iLe x 3):=(FG.v x).trans (by kernel_rfl)
theorem xU(x):Rq x=True:=(FG.o x).trans (by kernel_rfl)
theorem Zj2(x:Cw)(h)(_:h=x.2.2.1)(a)(_:a=g9 h 0)(b)(_:b=g9 x.2.1 0)(c)(_:c=w_ (i_ x.2.1 0) (i_ h 0))(d)(_:d=w_ (g9 x.1 0) (w_ (g9 x.1 1) (g9 x.1 10)))(e)(_:e=x.2.2.2)(f)(_:f=Iu x.2.1)(g)(_:g=w_ (g9 x.1 3) (g9 x.1 4))(i)(_:i=W_ b (W_ a (W_ (iGe e 0) (iLe e 3))))(j)(_:j=g9 e 0)(k)(_:k=((a=true->True)/\(a=false->Nt h)))(l)(_:l=((a=true->Rq e)/\(a=false->True)))(m)(_:m=(f=false->True))(n)(_:n=Y_ a c (W_ (PA h) c))(p)(_:p=g9 x.1 2)(q)(_:q=g9 x.1 5)(r)(_:r=g9 x.1 9)(s)(_:s=g9 x.1 6)(t)(_:t=g9 x.1 7)(u)(_:u=g9 x.1 8)(w)(_:w=Px x.2.1)(y)(_:y=(b=false)):B4 x=Y_ d (W_ b (W_ a j)) (Y_ p (W_ j (Y_ b n (W_ f n))) (Y_ g (W_ b (W_ a (Vy e))) (Y_ q i (Y_ r i (Y_ s (W_ f (W_ (PA h) j)) (Y_ t (W_ f (W_ a (Vy e))) (W_ u (W_ b (W_ (PA h) j)))))))))/\Nr x=((d=true->True)/\(d=false->(p=true->(j=true->(b=true->k)/\(y->w/\(f=true->k)/\m))/\(j=false->True))/\(p=false->(g=true->(b=true->l)/\(y->True))/\(g=false->(q=true->True)/\(q=false->(r=true->True)/\(r=false->(s=true->w/\(f=true->Nt h)/\m)/\(s=false->(t=true->w/\(f=true->l)/\m)/\(t=false->(u=true->(b=true->Nt h)/\(y->True))/\(u=false->True))))))))):=by subst_vars;exact⟨(ET.v x).trans (by kernel_rfl),(ET.o x).trans (by kernel_rfl)⟩
abbrev Rb:=λx=>(Zj2 x _ rfl _ rfl _ rfl _ rfl _ rfl _ rfl _ rfl _ rfl _ rfl _ rfl _ rfl _ rfl _ rfl _ rfl _ rfl _ rfl _ rfl _ rfl _ rfl _ rfl _ rfl _ rfl).1
abbrev wC:=λx=>(Zj2 x _ rfl _ rfl _ rfl _ rfl _ rfl _ rfl _ rfl _ rfl _ rfl _ rfl _ rfl _ rfl _ rfl _ rfl _ rfl _ rfl _ rfl _ rfl _ rfl _ rfl _ rfl _ rfl).2
theorem vS(x):Jp x=W_ (U' (i_ x.1.1 x.2.1)) (W_ (U' (i_ x.1.2.1 x.2.2.1)) (W_ (U' (i_ x.1.2.2.1 x.2.2.2.1)) (U' (i_ x.1.2.2.2 x.2.2.2.2)))):=(Il.v x).trans (by kernel_rfl)
theorem wS(x):Ph x=True:=(Il.o x).trans (by kernel_rfl)
attribute [irreducible] BM D8 D6 Ns Iu Px PA Nt Vy Rq B4 Nr Jp Ph
end
end
end Go.Ag
