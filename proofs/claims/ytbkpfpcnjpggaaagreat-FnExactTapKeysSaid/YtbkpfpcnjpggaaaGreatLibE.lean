/- Part 5 of what FnExactTapKeys needs. No conditions. -/
import Derived.WalkKit
import Derived.ProofKit
import Derived.OpenShut
import Derived.Carry
import Derived.ChangeSame
import Derived.Attr
import Derived.KernelRfl
import Derived.Test.YtbkpfpcnjpggaaaGreatLibD
namespace Go.Ag
set_option linter.unusedSimpArgs false
set_option linter.unusedVariables false
noncomputable section
theorem Zfu(v:DV):v.enc.isAgg=v.isAgg:=by cases v<;>rfl
theorem mI{v:DV}(h:v.flatc=true):v.enc.flatc=true/\∀q es,v.enc≠.sl q es:=by cases v<;>first|(cases h;done)|exact⟨rfl,λ_ _ h=>(by cases h)⟩
theorem Zfd{s:PS}{hd:Hd}{c:Nat}{v:PV}{os as:List PV}(h:v.flatc=true)(b:JJ s hd (c+1) os as):JJ s hd c (v::os) (v::as):=by
 cases v<;>first|exact⟨rfl,h,b⟩|(cases h;done)
theorem Nn{d:DS}{s:PS}(hs:ES d s){hd:Hd}:∀(i:List DV) (c:Nat) {g:PX} {os:List DV},EY d hd c i=some (g,os)->g.den->JJ s hd c (DV.d8 os) (DV.d8 i)
 | [],c,g,os,h,_=>by
   simp only[EY,Ap,Aq]at h;rw[<- h.2];trivial
 | v :: i,c,g,os,h,b=>by
   have D:v.flatc=true->(match EY d hd (c+1) i with|some (g,os)=>some (g,v::os)|none=>none)=some (g,os)->JJ s hd c (DV.d8 os) (DV.d8 (v::i)):=by
    intro I h;cases h1:EY d hd (c+1) i with
    |none=>rw[h1]at h;cases h
    | some r=>
      obtain⟨G,x⟩:=r;rw[h1]at h;simp only[Ap,Aq]at h;obtain⟨rfl,rfl⟩:=h;exact Zfd (mI I).1 (Nn hs i (c+1) h1 b)
   have z:(if v.flatc=true then (match EY d hd (c+1) i with|some (g,os)=>some (g,v::os)|none=>none)else none)=some (g,os)->JJ s hd c (DV.d8 os) (DV.d8 (v::i)):=by
    intro h;split at h
    ·exact D (by assumption) h
    cases h
   cases v with
   | sl q r l=>
     simp only[EY]at h;split at h
     ·rename_i n;have n:q= .i6 hd [c] true:=(by simpa [Eh]using n);subst n;cases h1:EY d hd (c+1) i with
      |none=>rw[h1]at h;split at h<;>simp_all
      | some r=>
        obtain⟨G,x⟩:=r;rw[h1]at h;have C:Ck d hd [c]≠.any:=(by intro e;rw[e]at h;cases h);have A:=HZ hs hd [c] C;split at h
        ·rename_i r' l' F t u j;simp only[Ap,Aq]at h j;obtain⟨rfl,rfl⟩:=h;obtain⟨rfl,rfl⟩:=j;have b:=(PX.n_ _ _).mp b;have y:l.length=l'.length:=b.1;refine⟨rfl,⟨.own,by rw[A,u];rfl,_,.inl ⟨rfl,rfl⟩,?_⟩,Nn hs i (c+1) h1 b.2⟩;rw[Bh,Bh];exact y
        ·rename_i F t u j;simp only[Ap,Aq]at h j;obtain⟨rfl,rfl⟩:=h;obtain⟨rfl,rfl⟩:=j;have b:=(PX.n_ _ _).mp b;have y:l.length=0:=b.1;refine⟨rfl,⟨.own,by rw[A,u];rfl,_,.inl ⟨rfl,rfl⟩,?_⟩,Nn hs i (c+1) h1 b.2⟩;rw[Bh];exact y
        cases h
     split at h
     ·rename_i n;have n:q= .pre hd [c]:=(by simpa [Eh]using n);subst n;cases h1:EY d hd (c+1) i with
      |none=>rw[h1]at h;split at h<;>simp_all
      | some r=>
        obtain⟨G,x⟩:=r;rw[h1]at h;have C:Ck d hd [c]≠.any:=(by intro e;rw[e]at h;cases h);have A:=HZ hs hd [c] C;split at h
        ·rename_i w r' l' F t u j;simp only[Ap,Aq]at h j;obtain⟨rfl,rfl⟩:=h;obtain⟨rfl,rfl⟩:=j;have b:=(PX.n_ _ _).mp b;have y:l.length=l'.length:=b.1;refine⟨rfl,⟨.i5 w,by rw[A,u];rfl,_,.inr ⟨⟨w,rfl⟩,rfl⟩,?_⟩,Nn hs i (c+1) h1 b.2⟩;rw[Bh,Bh];exact y
        cases h
     cases h
   | nil q=>
     simp only[EY]at h;split at h
     ·rename_i n;have n:q= .i6 hd [c] true:=(by simpa [Eh]using n);subst n;cases h1:EY d hd (c+1) i with
      |none=>rw[h1]at h;split at h<;>simp_all
      | some r=>
        obtain⟨G,x⟩:=r;rw[h1]at h;have C:Ck d hd [c]≠.any:=(by intro e;rw[e]at h;cases h);have A:=HZ hs hd [c] C;split at h
        ·rename_i r' l' F t u j;simp only[Ap,Aq]at h j;obtain⟨rfl,rfl⟩:=h;obtain⟨rfl,rfl⟩:=j;have b:=(PX.n_ _ _).mp b;have y:l'.length=0:=b.1;refine⟨rfl,⟨.own,by rw[A,u];rfl,_,.inl ⟨rfl,rfl⟩,?_⟩,Nn hs i (c+1) h1 b.2⟩;rw[Bh];exact y.symm
        ·rename_i F t u j;simp only[Ap,Aq]at h j;obtain⟨rfl,rfl⟩:=h;obtain⟨rfl,rfl⟩:=j;exact⟨rfl,⟨.own,by rw[A,u];rfl,_,.inl ⟨rfl,rfl⟩,rfl⟩,Nn hs i (c+1) h1 b⟩
        cases h
     cases h
   |_=>exact z h
def DV.flag:List DV->Prop
 |[]=>True|.sl q _ _::r=>q= .own/\DV.flag r|_::r=>DV.flag r
theorem eu:∀(r:RT) (x:r.D),r.pl=true->DV.flag (r.dv .own x)
 |.one t,x,h=>by cases t<;>first|trivial|(cases h;done)|exact⟨rfl,trivial⟩
 | .cons t r,x,h=>by
   rw[RT.pl,Aj]at h;obtain⟨h,b⟩:=h;cases t<;>first|(cases h;done)|exact⟨rfl,eu r x.2 b⟩|exact eu r x.2 b
theorem Uh{hd:Hd}{D':DS}{K:PS->Prop}(i:∀u,ES D' u->K u):∀(b:List DV) (c:Nat) {d:DS} {s:PS},ES d s->JL hd c b d=some D'->DV.flag b->Pu hd c (DV.d8 b) K s
 | [],c,d,s,hs,h,_=>by
   simp only[JL,Ap]at h;subst h;exact i _ hs
 | v :: b,c,d,s,hs,h,g=>by
   cases v with
   | sl q r l=>
     simp only[JL]at h;have n:Ck d hd [c]≠.any:=(by intro e;rw[e]at h;cases h);have t:=HZ hs hd [c] n;obtain⟨rfl,g⟩:=g;split at h
     ·rename_i j;exact⟨.own,_,rfl,by rw[t,j];rfl,Uh i b (c+1) (MP hs hd [c] (.sl .own r l) n) h g⟩
     ·rename_i j;exact⟨.own,_,rfl,by rw[t,j];rfl,Uh i b (c+1) (MP hs hd [c] (.sl .own r l) n) h g⟩
     ·rename_i w _ _ j;exact⟨.i5 w,_,rfl,by rw[t,j];rfl,Uh i b (c+1) (MP hs hd [c] (.sl (.i5 w) r l) n) h g⟩
     cases h
   |nil q=>cases h
   |_=>exact Uh i b (c+1) hs h g
theorem dZ:∀(r:RT) (x y:r.D),r.pl=true->ND (RT.enc r x) (RT.enc r y)
 |.one t,x,y,h=>by cases t<;>first|(cases h;done)|exact⟨⟨_,rfl⟩,trivial⟩|exact⟨λ_ _ h=>(by cases h),trivial⟩
 | .cons t r,x,y,h=>by
   rw[RT.pl,Aj]at h;obtain⟨h,b⟩:=h;cases t<;>first|(cases h;done)|exact⟨⟨_,rfl⟩,dZ r x.2 y.2 b⟩|exact⟨λ_ _ h=>(by cases h),dZ r x.2 y.2 b⟩
theorem nJ:∀ {i:List DV} {c:Nat} {hd:Hd} {b:Nat},Za c i=some (hd,b)->hd.sb=true
 |[],_,_,_,h=>by cases h
 | v :: i,c,hd,b,h=>by
   unfold Za at h;split at h
   ·cases h
   ·split at h
    ·rename_i g;simp only[Aj]at g;simp only[Ap,Aq]at h;rw[<- h.1];exact g.2
    cases h
   ·split at h
    ·rename_i g;simp only[Aj]at g;simp only[Ap,Aq]at h;rw[<- h.1];exact g.2
    cases h
   rename_i h1;cases h1;exact nJ h
theorem ZiN {d d1:DS}{s:PS}(hs:ES d s){M:DMk}{x y:T_}{g:PX}{v:DV}(h:Pj M x y d=some (g,v,d1))(t:g.den){dst:Option Nat}{k:PS->Prop}(G:∀q,ES d1 q->k (q.put dst v.enc)):fW M.P x y dst k s:=by
 unfold Pj at h;split at h
 ·rename_i m hm;split at h
  ·rename_i i;simp only[Aj]at i;obtain⟨i,n⟩:=i;split at h
   ·rename_i hd b I;split at h
    ·rename_i N os F;split at h
     ·rename_i z C;split at h
      ·rename_i f4 J;simp only[Ap,Aq]at h;obtain⟨rfl,rfl,rfl⟩:=h;have t:=(PX.n_ _ _).mp t;have D:y.t7 s.sl= .fl (.int .i64 m):=by
        have:=y.dev_ev hs;rw[hm]at this;exact this.of (by simp)
       have u:x.t7 s.sl=(x.dev d.sl).enc:=(x.dev_ev hs).of (by intro e;rw[e]at i;cases i.2);refine⟨m,hd,b,M.r.enc z,D,?_,nJ I,?_,?_,⟨z,rfl,t.2,dZ _ _ _ n,?_⟩⟩
       ·rw[u,Zfu];exact eq_of_beq i.1
       ·rw[u];exact b8 _ i.2
       ·rw[u,MU,<- UE C];exact Nn hs _ b F t.1
       rw[<- eU];have L:M.P.vd=M.vd:=rfl;refine Uh (λq A=>?_) _ b hs J (eu _ _ n);have h:=G q A;rw[L];cases j:M.vd with
       |true=>rw[j]at h;exact h
       |false=>rw[j]at h;exact h
      cases h
     cases h
    cases h
   cases h
  cases h
 cases h
theorem Tz{hd:Hd}{D':DS}:∀(b:List DV) (c:Nat) {d:DS},JL hd c b d=some D'->d_ d D'
 | [],c,d,h=>by
   simp only[JL,Ap]at h;subst h;exact d_.refl _
 | v :: b,c,d,h=>by
   cases v with
   | sl q r l=>
     simp only[JL]at h;split at h
     ·exact(d_.y_ _ _ _ _).trans (Tz b _ h)
     ·exact(d_.y_ _ _ _ _).trans (Tz b _ h)
     ·exact(d_.y_ _ _ _ _).trans (Tz b _ h)
     cases h
   |nil q=>cases h
   |_=>exact Tz b _ h
theorem ZfE{d d1:DS}{M:DMk}{x y:T_}{g:PX}{v:DV}(h:Pj M x y d=some (g,v,d1)):d_ d d1:=by
 unfold Pj at h;repeat' split at h
 all_goals first|(cases h;done)|skip
 all_goals
  simp only[Ap,Aq]at h;obtain⟨_,_,rfl⟩:=h;exact Tz _ _ (by assumption)
theorem qM:∀ {t:CT} {v:DV} {x:t.D},t.ofA v=some x->v.enc.fz=(t.enc x).fz
 | .int k,.int k' n,x,h=>by
   have h:(if k=k' then some n else none)=some x:=h;by_cases g:k=k'
   ·rw[Ad g]at h;cases h;subst g;rfl
   rw[Ae g]at h;cases h
 |.bool,.bool b,x,h=>by cases h;rfl
 |.str,.str s,x,h=>by cases h;rfl
 |.ifc,.ifc b,x,h=>by cases h;rfl
 |.sl r,.nil q,x,h=>by cases h;rfl
 | .sl r,.sl q r' l,x,h=>by
   have h:Io (r':=r') (r:=r) l=some x:=h;obtain⟨rfl,h⟩:=OL h;show PV.sl .Z_ _=PV.sl .Z_ _;rw[h]
 |.slf r,.nil q,x,h=>by cases h;rfl
 | .slf r,.sl q r' l,x,h=>by
   have h:Io (r':=r') (r:=r) l=some x:=h;obtain⟨rfl,h⟩:=OL h;show PV.sl .Z_ _=PV.sl .Z_ _;rw[h]
theorem qx:∀ {r:RT} {g:List DV} {x:r.D},r.ofA g=some x->PV.fzL (DV.d8 g)=PV.fzL (RT.enc r x)
 |.one t,[v],x,h=>by simp only[DV.d8,RT.enc,PV.fzL,qM (t:=t) h]
 | .cons t r,v::g,x,h=>by
   have h':(match t.ofA v,r.ofA g with|some x,some y=>some (x,y)|_,_=>none)=some x:=h;split at h'
   ·rename_i a b h1 i;cases h';simp only[DV.d8,RT.enc,PV.fzL,qM h1,qx i]
   cases h'
theorem Zio{r:RT}{l:List r.D}{idx:List Nat}(h:∀i∈idx,i<l.length):idx.map (Bs (l.map (RT.enc r)))=(idx.map λi=>l.getD i r.dflt).map (RT.enc r):=by
 rw[List.map_map];exact List.map_congr_left λi hi=>LU r l i (h i hi)
theorem ZkT{d d1:DS}{s:PS}(hs:ES d s){M:DTk}{x y:T_}{g:PX}{v:DV}(h:PB M x y d=some (g,v,d1))(L:g.den){dst:Option Nat}{k:PS->Prop}(J:∀n,ES d1 n->k (n.put dst v.enc)):gA M.P x y dst k s:=by
 unfold PB at h;split at h
 ·rename_i t cs G;split at h
  ·rename_i l0 a b O;obtain⟨l,rfl⟩:∃l:List M.row.D,l=l0:=⟨l0,rfl⟩;split at h
   ·rename_i u;simp only[Aj,Br]at u;simp only[Ap,Aq]at h;obtain⟨rfl,rfl,rfl⟩:=h;obtain⟨⟨h1,U⟩,R⟩:=u;have A:M.ok a l:=L;obtain⟨F,q,C⟩:=M.law a l A;have j:x.t7 s.sl=(DV.agg cs).enc:=by
     have:=x.dev_ev hs;rw[G]at this;exact this.of (by simp)
    have Y:Aa s.sl t= .sl .own (l.map (RT.enc M.row)):=by
     have h0:=(T_.t t).dev_ev hs;have I:Bu d.sl t≠.any:=(by intro e;rw[e]at b;cases b);rw[show Aa s.sl t=(Bu d.sl t).enc from h0.of I,fP b];rfl
    refine⟨t,_,rfl,Y,by rw[j];exact b8 _ h1,by rw[j,Td];exact U,(Jl _ _).2 λe N=>?_,Dp R,⟨a,l,?_,rfl,A,⟨F,λi hi=>by rw[Bh];exact q i hi⟩,?_⟩⟩
    ·obtain⟨z,_,rfl⟩:=List.mem_map.1 N;exact L0 M.row z
    ·rw[j];show PV.nrm (.agg (PV.fzL (DV.d8 cs)))=PV.nrm (.agg (PV.fzL (RT.enc M.ra a)));rw[qx O]
    have Z:(DV.sl .own M.row (M.val a l)).enc= .sl .own ((M.sel a l).map (Bs (l.map (RT.enc M.row)))):=by
     show PV.sl .own ((M.val a l).map (RT.enc M.row))=_;rw[Zio q,C]
    rw[<- Z];exact J _ ⟨(hs.sl.put t (.inl rfl)).clr _,hs.bx,hs.hp⟩
   cases h
  cases h
 cases h
theorem Zjw{d d1:DS}{M:DTk}{x y:T_}{g:PX}{v:DV}(h:PB M x y d=some (g,v,d1)):d_ d d1:=by
 unfold PB at h;repeat' split at h
 all_goals first|(cases h;done)|skip
 simp only[Ap,Aq]at h;obtain⟨_,_,rfl⟩:=h;exact⟨(Chg.put _ _ _).trans (Chg.clr _ _),i_.refl _,i_.refl _⟩
theorem ZjA{v:DV}{r:Hd×Nat}(h:v.hld=some r):v≠.any/\v.enc.hld=some r:=by
 cases v<;>first|(cases h;done)|exact⟨by simp,h⟩
theorem ZgU{a:DV}{n:Nat}{d d1:DS}{s:PS}{g:PX}{v:DV}(hs:ES d s)(h:O4 a n d=some (g,v,d1))(t:g.den):∃b,YG a.enc n s=some b/\ES d1 b:=by
 unfold O4 at h;split at h
 ·rename_i i o;obtain⟨b,q,j⟩:=aT (p:=.box i o) hs (.inr rfl) h;refine⟨b,?_,j⟩;show (Jq true i (some n) (.box i o) s).map (·.2)=some b;rw[q];rfl
 ·rename_i i o;obtain⟨b,q,j⟩:=aS (p:=.ptr i o) hs (.inr rfl) h t;refine⟨b,?_,j⟩;show (Jp true (some n) (.ptr i o) s).map (·.2)=some b;rw[q];rfl
 cases h
theorem Ze9{a:DV}{n:Nat}{d d1:DS}{g:PX}{v:DV}(h:O4 a n d=some (g,v,d1)):d_ d d1:=by
 unfold O4 at h;split at h
 ·exact bD h
 ·exact bE h
 cases h
theorem OO{d:DS}{s:PS}(hs:ES d s){hd:Hd}:∀(g:List DV) (c:Nat) {n:List DV},Mi d hd c g=some n->UF s hd c (DV.d8 g) (DV.d8 n)
 | [],c,n,h=>by
   simp only[Mi,Ap]at h;subst h;trivial
 | v :: g,c,n,h=>by
   have u:(if v.flatc then (match Mi d hd (c+1) g with|some os=>some (v::os)|none=>none)else none)=some n->UF s hd c (DV.d8 (v::g)) (DV.d8 n):=by
    intro h;split at h
    ·rename_i A;split at h
     ·rename_i os h1;cases h;exact⟨.inl ⟨rfl,λes e=>absurd e ((mI A).2 _ _)⟩,OO hs g (c+1) h1⟩
     cases h
    cases h
   cases v with
   | sl q r l=>
     simp only[Mi]at h;have x:Ck d hd [c]≠.any:=(by intro e;rw[e]at h;cases h);have t:=HZ hs hd [c] x;split at h
     ·rename_i j h1;cases h;exact⟨.inl ⟨rfl,λ_ _=>⟨_,by rw[t,j];rfl⟩⟩,OO hs g (c+1) h1⟩
     ·rename_i j h1;cases h;exact⟨.inl ⟨rfl,λ_ _=>⟨_,by rw[t,j];rfl⟩⟩,OO hs g (c+1) h1⟩
     ·rename_i w r' l' os j h1;split at h
      ·rename_i y;simp only[Aj]at y;cases h;have z:q= .own:=(by simpa [Eh]using y.2);subst z;obtain⟨i,rfl⟩:∃i,hd= .b i:=(by cases hd<;>first|exact⟨_,rfl⟩|cases y.1);exact⟨.inr ⟨w,_,i,⟨_,rfl⟩,by rw[t,j];rfl,rfl,rfl⟩,OO hs g (c+1) h1⟩
      cases h
     cases h
   | nil q=>
     simp only[Mi]at h;have x:Ck d hd [c]≠.any:=(by intro e;rw[e]at h;cases h);have t:=HZ hs hd [c] x;split at h
     ·rename_i j h1;cases h;exact⟨.inl ⟨rfl,λ_ _=>⟨_,by rw[t,j];rfl⟩⟩,OO hs g (c+1) h1⟩
     ·rename_i j h1;cases h;exact⟨.inl ⟨rfl,λ_ _=>⟨_,by rw[t,j];rfl⟩⟩,OO hs g (c+1) h1⟩
     cases h
   |_=>exact u h
theorem Zkf{a:T_}{t:Nat}{d d1:DS}{s:PS}{g:PX}(hs:ES d s)(h:Pr a t d=some (g,d1))(i:g.den){K:PS->Prop}(F:∀y,ES d1 y->K y):gg a t K s:=by
 unfold Pr at h;split at h
 ·rename_i hd b cs J I;have ht:=hs.sl.get t;rw[I]at ht;have ht:=ht.of (by simp);have j:=a.dev_ev hs;obtain⟨q,n⟩:=ZjA J;have j:=j.of q;cases x:EY d hd b cs with
  |none=>rw[x]at h;cases h
  | some r=>
    obtain⟨M,os⟩:=r;rw[x]at h;simp only at h;cases u:O4 (a.dev d.sl) os.length d with
    |none=>rw[u]at h;cases h
    | some r=>
      obtain⟨L,w,N⟩:=r;rw[u]at h;simp only at h;split at h
      ·rename_i z G;simp only[Ap,Aq]at h;obtain⟨rfl,rfl⟩:=h;have i:=(PX.n_ _ _).mp i;obtain⟨A,D,C⟩:=ZgU hs u i.2;refine⟨hd,b,DV.d8 os,DV.d8 z,A,by rw[j];exact n,by rw[ht];rfl,?_,OO hs os b G,?_,F _ (C.put (some t) (.agg z))⟩
       ·rw[ht];exact Nn hs cs b x i.1
       rw[j,F1];exact D
      cases h
 cases h
theorem ZhH{a:T_}{t:Nat}{d d1:DS}{g:PX}(h:Pr a t d=some (g,d1)):d_ d d1:=by
 unfold Pr at h;split at h
 ·rename_i hd b cs u s;cases j:EY d hd b cs with
  |none=>rw[j]at h;cases h
  | some r=>
    obtain⟨q,os⟩:=r;rw[j]at h;simp only at h;cases i:O4 (a.dev d.sl) os.length d with
    |none=>rw[i]at h;cases h
    | some r=>
      obtain⟨n,w,x⟩:=r;rw[i]at h;simp only at h;split at h
      ·simp only[Ap,Aq]at h;obtain⟨_,rfl⟩:=h;exact(Ze9 i).trans (d_.put _ _ _)
      cases h
 cases h
theorem Zkb{c:DC}{p:PV}(h:EV c.v p):EV (sK c).v p.fz:=by
 obtain⟨d,v⟩:=c;rcases h with h|h
 ·simp only at h;subst h;exact .inl rfl
 simp only at h;subst h;have b:(⟨true,v.fz⟩:DC).v.enc=v.enc.fz:=YV v;right;cases v with
 |sl q r l=>cases q<;>rfl
 |nil q=>cases q<;>rfl
 |any=>rfl
 |undef=>rfl
 |int _ _=>rfl
 |bool _=>rfl
 |str _=>rfl
 |ifc _=>rfl
 |_=>exact b.symm
theorem qE:∀ {a:List DC} {b:List PV},EL a b->EL (RF a) (PV.fzL b)
 |[],[],_=>trivial
 |_::_,_::_,h=>⟨Zkb h.1,qE h.2⟩
 |[],_::_,h=>h.elim
 |_::_,[],h=>h.elim
theorem rf{a:List DC}{b:List PV}(h:EBx a b):EBx (RF a) (PV.fzL b):=by
 rcases h with h|h
 ·left;rw[h];rfl
 exact .inr (qE h)
theorem du:∀(x:List DC),Chg x (RF x)
 |[]=>trivial
 | c::r=>by
   refine⟨?_,du r⟩;obtain⟨d,v⟩:=c;cases v with
   |sl q r l=>cases q<;>first|exact .inr rfl|exact .inl rfl
   |nil q=>cases q<;>first|exact .inr rfl|exact .inl rfl
   |_=>first|exact .inr rfl|exact .inl rfl
theorem Zj7{a:DV}{p:PV}{d d1:DS}{s:PS}(hs:ES d s)(g:EV a p)(h:Po a d=some d1):∃b,UJ p s=some b/\ES d1 b:=by
 unfold Po at h;split at h
 ·rename_i i o;rw[g.of (by simp)];simp only[Ap]at h;subst h;exact⟨_,rfl,hs.sl.clr _,hs.bx.put i (rf (hs.bx.get i)),hs.hp⟩
 ·rename_i i o;rw[g.of (by simp)];simp only[Ap]at h;subst h;exact⟨_,rfl,hs.sl.clr _,hs.bx,hs.hp.put i (rf (hs.hp.get i))⟩
 cases h
theorem ZhO{a:DV}{d d1:DS}(h:Po a d=some d1):d_ d d1:=by
 unfold Po at h;split at h
 ·simp only[Ap]at h;subst h;exact⟨Chg.clr _ _,i_.put _ _ (du _),i_.refl _⟩
 ·simp only[Ap]at h;subst h;exact⟨Chg.clr _ _,i_.refl _,i_.put _ _ (du _)⟩
 cases h
def Ys(p:Dl)(D:NG):Prop:=∀(args:List DV) (g:PX) (v:DV) (Q:PV->List (List PV)->Prop),D args=some (g,v)->g.den->(∀H,Q v.enc H)->p (DV.d8 args) [] Q
def Q6(p:Dl)(D:GO):Prop:=∀(args:List DV) (b:List (List DV)) (g:PX) (v:DV) (H:List (List DV)) (Q:PV->List (List PV)->Prop),D args b=some (g,v,H)->g.den->Q v.enc (HA (Km b H))->p (DV.d8 args) (HA b) Q
inductive ObD where
 |nv (p:Dl) (D:NG)|wp (p:Dl) (D:GO)
def ObD.sound:ObD->Prop
 |.nv p D=>Ys p D|.wp p D=>Q6 p D
def DOp.t_:DOp->List ObD
 |.a _ _ _=>[]|.aw _ _ _ _=>[]|.call _ _ p D _=>[.nv p D]|.mark _ _ _ _=>[]|.tk _ _ _ _=>[]|.callp _ _ p D _=>[.wp p D]|.callv _ _ p D _ _ _=>[.wp p D]|.fz _=>[]|.clm _ _ _=>[]|.fzb _ _=>[]
def Yd:List DOper->List ObD
 |[]=>[]|o::r=>o.op.t_++Yd r
def d5.t_:d5->List ObD
 |.skip=>[]|.region ops=>Yd ops|.regionU ops=>Yd ops|.seq _ a b=>a.t_++b.t_|.cond _ a b=>a.t_++b.t_|.block _ a=>a.t_|.scope a=>a.t_|.loop _ _ a=>a.t_|.exit _=>[]|.ret=>[]
def AllD:List ObD->Prop
 |[]=>True|o::r=>o.sound/\AllD r
theorem AllD.app:∀ {a b:List ObD},AllD (a++b)->AllD a/\AllD b
 |[],_,h=>⟨trivial,h⟩
 |_::_,_,⟨h1,h2⟩=>⟨⟨h1,(AllD.app h2).1⟩,(AllD.app h2).2⟩
theorem YP{d:DS}{s:PS}(hs:ES d s):∀(args:List T_),Js (FP d.sl args)=true->args.map (·.t7 s.sl)=DV.d8 (FP d.sl args)
 |[],_=>rfl
 | x::r,h=>by
   simp only[FP,Js,Aj]at h;simp only[Cm,FP,DV.d8,YP hs r h.2];rw[(x.dev_ev hs).of (by intro e;rw[e]at h;cases h.1)]
theorem QE:∀(l:List PV),l.any PV.q_=PV.hasPtrL l
 |[]=>rfl
 |v::r=>by simp only[List.any_cons,PV.hasPtrL,QE r]
theorem YL:∀(l:List PV),l.map PV.fz=PV.fzL l
 |[]=>rfl
 |v::r=>by simp only[Cm,PV.fzL,YL r]
theorem dx:∀(l:List PV),(l.all λv=>!v.hold)=!PV.holdL l
 |[]=>rfl
 |v::r=>by simp only[F7,PV.holdL,dx r,Bool.not_or]
mutual
theorem oA:∀(v:DV),v.deep=true->v.enc.deep=true
 |.undef,_|.bool _,_|.int _ _,_|.str _,_|.ifc _,_|.ptr _ _,_=>rfl
 |.nil q,h=>by cases q<;>first|rfl|cases h
 | .sl q r l,h=>by
   rw[DV.deep,Aj]at h;obtain⟨h,b⟩:=h;cases q<;>first|(cases h;done)|exact dy r l b
 |.agg cs,h=>b9 cs h
 |.f8 cs,h=>b9 cs h
theorem b9:∀(l:List DV),DV.deepL l=true->PV.deepL (DV.d8 l)=true
 |[],_=>rfl
 | v::r,h=>by
   simp only[DV.deepL,Aj]at h;simp only[DV.d8,PV.deepL,oA v h.1,b9 r h.2,DJ]
end
theorem dD(v:DV):v.enc.retc=v.retc:=by
 cases v<;>first|rfl|skip
 case nil q=>cases q<;>rfl
 case sl q r l=>cases q<;>rfl
theorem p8:∀(l:List DV),FI (DV.d8 l)=Kl l
 |[]=>rfl
 |v::r=>by simp only[DV.d8,FI,Kl,dD v,p8 r]
theorem Zh1(v:DV):v.enc.retok=v.retok:=by
 cases v<;>first|rfl|skip
 case nil q=>exact dD (.nil q)
 case sl q r l=>exact dD (.sl q r l)
 case agg cs=>exact p8 cs
theorem Zhr{d:DS}{s:PS}(x:T_)(h:ES d s)(i:∀n,x= .t n->Bu d.sl n≠.any):ES (FE x d).2 (fzOut x s).2:=by
 cases x with
 |c v=>exact h
 | t n=>
   simp only[FE,UO,fzOut,Zs];have j:=(h.sl.get n).of (i n rfl);rw[j,J9,Zh1];by_cases g:(Bu d.sl n).own=true
   ·simp only[g,AX];by_cases b:(Bu d.sl n).retok=true
    ·rw[Ad b,Ad b,<- YV];exact⟨(h.sl.put n (.inr rfl)).clr _,h.bx,h.hp⟩
    rw[Ae b,Ae b];exact h
   simp only[g];exact h
theorem kL(v:DV):∀(l:List DC) (k n:Nat),Bu l n= .any->k≠n->Bu (DM l k v) n= .any
 |[],_,_,_,_=>rfl
 |_::_,0,0,_,hn=>absurd rfl hn
 |_::_,0,_+1,h,_=>h
 |_::_,_+1,0,h,_=>h
 |_::r,k+1,n+1,h,hn=>kL v r k n h (by simpa using hn)
theorem kG(hd:Hd):∀(l:List DC) (n:Nat),Bu l n= .any->Bu (Dv hd l) n= .any
 |[],_,_=>rfl
 | c::_,0,h=>by
   have h:c.v= .any:=h;simp only[Dv,h,DV.i6,AZ,A5,Bu]
 |_::r,n+1,h=>kG hd r n h
theorem ZdM(x:T_)(d:DS)(n:Nat)(h:Bu d.sl n= .any):Bu (FE x d).2.sl n= .any:=by
 cases x with
 |c v=>exact h
 | t k=>
   simp only[FE,UO];split
   ·rename_i b;split
    ·refine kG _ _ _ (kL _ _ _ _ h ?_);rintro rfl;rw[h]at b;cases b
    exact h
   exact h
theorem kK:∀(args:List T_) (d:DS) (n:Nat),Bu d.sl n= .any->Bu (E8 args d).sl n= .any
 |[],_,_,h=>h
 |x::r,d,n,h=>kK r _ n (ZdM x d n h)
theorem X7:∀(args:List T_) {d:DS} {s:PS},ES d s->(∀x∈args,x.dev (E8 args d).sl≠.any)->ES (E8 args d) (fzArgs args s)
 |[],_,_,h,_=>h
 | x::r,d,s,h,hk=>by
   refine X7 r (Zhr x h λn g i=>?_) λy b=>hk y (List.mem_cons_of_mem _ b);subst g;exact hk (.t n) (Hx ..) (kK (.t n::r) d n i)
theorem Xi{sl:List DC}:∀ {args:List T_},Js (FP sl args)=true->∀x∈args,x.dev sl≠.any
 |[],_,_,b=>by cases b
 | a::r,h,x,b=>by
   simp only[FP,Js,Aj]at h;rcases CE.mp b with rfl|b
   ·intro e;rw[e]at h;cases h.1
   exact Xi h.2 x b
theorem DS.fzArgs_chg:∀(args:List T_) (d:DS),d_ d (E8 args d)
 |[],d=>d_.refl d
 |x::r,d=>(d_.fzOut x d).trans (DS.fzArgs_chg r _)
section
variable {E:AExit} {D':DS}
def UR(E:AExit)(D':DS)(K:DS->DT)(k:PS->Prop):Prop:=∀d s,ES d s->(K d).ok.den->(K d).lf=some (E,D')->k s
theorem Zix{A B:Type}(e:A=B)(h:List A=List B)(x:A)(l:List A):h.mp (x::l)=e.mp x::h.mp l:=by subst e;rfl
theorem ZjM{A B:Type}(e:A=B)(h:List A=List B):h.mp []=[]:=by subst e;rfl
theorem ZiZ{A A' B i:Type}(g:A=A')(b:B=i)(h:(A×B)=(A'×i))(x:A×B):h.mp x=(g.mp x.1,b.mp x.2):=by subst g;subst b;rfl
mutual
theorem qP:∀(t:CT) (x:t.D),CT.enc t.nrm ((CT.D_nrm t).symm.mp x)=(CT.enc t x).ownr
 |.int _,_|.bool,_|.str,_|.ifc,_=>rfl
 | .sl r,l=>by
   show PV.sl .own _=PV.sl .own _;rw[<- Yk r l];rfl
 | .slf r,l=>by
   show PV.sl .own _=PV.sl .own _;rw[<- Yk r l];rfl
theorem qZ:∀(r:RT) (x:r.D),RT.enc r.nrm ((RT.D_nrm r).symm.mp x)=PV.ownrL (RT.enc r x)
 | .one t,x=>by
   show [CT.enc t.nrm ((CT.D_nrm t).symm.mp x)]=[(CT.enc t x).ownr];rw[qP t x]
 | .cons t r,x=>by
   have e:=ZiZ (CT.D_nrm t).symm (RT.D_nrm r).symm (RT.D_nrm (.cons t r)).symm x;show RT.enc (.cons t.nrm r.nrm) ((RT.D_nrm (.cons t r)).symm.mp x)=(CT.enc t x.1).ownr::PV.ownrL (RT.enc r x.2);rw[<- qP t x.1,<- qZ r x.2];show CT.enc t.nrm ((RT.D_nrm (.cons t r)).symm.mp x).1::RT.enc r.nrm ((RT.D_nrm (.cons t r)).symm.mp x).2=_;rw[show ((RT.D_nrm (.cons t r)).symm.mp x)=_ from e]
theorem Yk:∀(r:RT) (l:List r.D),(Zr r l).map (RT.enc r.nrm)=PV.ownrE (l.map (RT.enc r))
 | r,[]=>by
   unfold Zr;rw[ZjM (RT.D_nrm r).symm];rfl
 | r,x::l=>by
   have i:=Yk r l;unfold Zr at i ⊢;rw[Zix (RT.D_nrm r).symm,Cm,Cm,i,qZ r x];rfl
end
mutual
theorem rQ:∀(t:CT) (x:t.D),t.pl=true->(CT.enc t x).ownr=CT.enc t x
 |.int _,_,_|.bool,_,_|.str,_,_|.ifc,_,_=>rfl
 | .sl r,l,h=>by
   show PV.sl .own _=PV.sl .own _;rw[eM r l h]
 |.slf _,_,h=>by cases h
theorem rL:∀(r:RT) (x:r.D),r.pl=true->PV.ownrL (RT.enc r x)=RT.enc r x
 | .one t,x,h=>by
   show [(CT.enc t x).ownr]=[CT.enc t x];rw[rQ t x h]
 | .cons t r,x,h=>by
   rw[RT.pl,Aj]at h;show (CT.enc t x.1).ownr::PV.ownrL (RT.enc r x.2)=CT.enc t x.1::RT.enc r x.2;rw[rQ t x.1 h.1,rL r x.2 h.2]
theorem eM:∀(r:RT) (l:List r.D),r.pl=true->PV.ownrE (l.map (RT.enc r))=l.map (RT.enc r)
 |_,[],_=>rfl
 |r,x::l,h=>by rw[Cm,PV.ownrE,rL r x h,eM r l h]
end
theorem oX(v:DV):v.nrm1.enc=v.enc.nrm1:=by
 cases v with
 | sl q r l=>
   cases q with
   | Z_=>
     show (DV.nrm1 (.sl .Z_ r l)).enc=PV.sl .Z_ _;rw[DV.nrm1];split
     ·rename_i h;show PV.sl .Z_ _=PV.sl .Z_ _;rw[eM r l h]
     show PV.sl .Z_ _=PV.sl .Z_ _;rw[Yk r l]
   |_=>rfl
 |nil q=>cases q<;>rfl
 |_=>rfl
theorem oZ:∀l:List DV,DV.d8 (DV.nrmA l)=PV.nrmA (DV.d8 l)
 |[]=>rfl
 |v::r=>by simp only[DV.nrmA,DV.d8,PV.nrmA,oX v,oZ r]
theorem pJ(v:DV):v.nrm.enc=v.enc.nrm:=by
 cases v with
 | agg cs=>
   show PV.agg _=PV.agg _;rw[oZ]
 |sl q r l=>exact oX _
 |nil q=>cases q<;>rfl
 |_=>rfl
theorem XI:∀l:List DV,DV.d8 (DV.nrmV l)=(DV.d8 l).map PV.nrm
 |[]=>rfl
 |v::r=>by simp only[DV.nrmV,DV.d8,Cm,pJ v,XI r]
theorem Zjc{D:NG}{p:Dl}(hp:Ys p D){args:List T_}{d d1:DS}{s:PS}{g:PX}{v:DV}{dst:Option Nat}{k:PS->Prop}(hs:ES d s)(h:Pf D args d=some (g,v,d1))(y:g.den)(x:∀j,ES (d1.put dst v) j->k j):fI p args dst k s:=by
 unfold Pf at h;simp only at h;split at h
 ·rename_i q;simp only[Aj,Br]at q;obtain⟨h1,t⟩:=q;split at h
  ·rename_i A u z;split at h
   ·rename_i n;simp only[Aj,Br,Ce]at n;obtain⟨⟨C,b⟩,i⟩:=n;simp only[Ap,Aq]at h;obtain⟨rfl,rfl,rfl⟩:=h;have e:=YP hs args h1;refine⟨by rw[e,QE,MO,t],by rw[e];exact Xm _ h1,?_⟩;rw[e,QE,MO,t];simp only[AZ,A5];rw[YL,<- Q1,<- XI];refine hp _ _ _ _ z y λH=>⟨?_,?_⟩
    ·rw[Td,b,dx,Tl];rcases i with h|h
     ·simp[oA _ h]
     simp[h]
    rw[Td,b];simp only[AZ,A5];exact x _ (hs.put dst u)
   cases h
  cases h
 cases h
theorem o9{D:NG}{args:List T_}{d d1:DS}{g:PX}{v:DV}(h:Pf D args d=some (g,v,d1)):d1=d/\Js (FP d.sl args)=true:=by
 unfold Pf at h;simp only at h;split at h
 ·rename_i b;simp only[Aj]at b;split at h
  ·split at h
   ·simp only[Ap,Aq]at h;exact⟨h.2.2.symm,b.1⟩
   cases h
  cases h
 cases h
theorem gk(q:Ql):∀es,(PV.sl q es).isH=q.isH'/\∀j o,(PV.ep q es j o).isH=q.isH':=by
 intro es;cases q with
 |i6 hd p t=>cases hd<;>exact⟨rfl,λ_ _=>rfl⟩
 |pre hd p=>cases hd<;>exact⟨rfl,λ_ _=>rfl⟩
 |_=>exact⟨rfl,λ_ _=>rfl⟩
mutual
theorem eA:∀(v:DV),v.enc.isH=v.isH
 |.nil q=>(gk q []).1
 |.sl q r l=>(gk q _).1
 |.ep q r l j o=>(gk q _).2 j o
 |.agg cs=>dc cs
 |.f8 vs=>dc vs
 |.any|.undef|.bool _|.int _ _|.str _|.ifc _|.box _ _|.ptr _ _=>rfl
theorem dc:∀(l:List DV),PV.isHL (DV.d8 l)=DV.isHL l
 |[]=>rfl
 |v::r=>by simp only[DV.d8,PV.isHL,DV.isHL,eA v,dc r]
end
theorem EL.clrH:∀ {a:List DC} {b:List PV},EL a b->EL (Ur a) (Go.Ag.clrH b)
 |[],[],_=>trivial
 | c :: a,p::b,h=>by
   refine⟨?_,EL.clrH h.2⟩;by_cases g:c.v.isH=true
   ·rw[Ad g];exact .inl rfl
   rw[Ae g];rcases h.1 with h1|h1
   ·exact .inl h1
   rw[h1,eA,Ae g];exact .inr rfl
theorem EL.all:∀ {a:List DC} {b:List PV},EL a b->DV.okL (Ct a)=true->b=DV.d8 (Ct a)
 |[],[],_,_=>rfl
 | c::a,p::b,h,hk=>by
   simp only[Ct,DV.okL,Aj]at hk;rcases h.1 with h1|h1
   ·rw[h1]at hk;cases hk.1
   simp only[Ct,DV.d8];rw[h1,EL.all h.2 hk.2]
theorem EB.all:∀ {a:List (List DC)} {b:List (List PV)},EB a b->Zt (Iq a)=true->b=HA (Iq a)
 |[],[],_,_=>rfl
 | c::a,p::b,h,hk=>by
   simp only[Iq,Zt,Aj]at hk;have g:0<c.length:=(by rw[<- XY];exact Dp hk.1.1);simp only[Iq,HA];rw[(h.1.to g).all hk.1.2,EB.all h.2 hk.2]
theorem EL.mix:∀(a:List DC) (b:List DV),EL (Pk a b) (DV.d8 (Gi (Ct a) b))
 |[],b=>by simp only[Pk,Ct,Gi];exact EL.news b
 | c :: a,[]=>by
   have:∀(a:List DC),EL a (DV.d8 (Ct a)):=by
    intro a;induction a with
    |nil=>exact trivial
    |cons x r g=>exact⟨.inr rfl,g⟩
   exact this (c::a)
 | c::a,v::b=>by
   simp only[Pk,Ct,Gi];refine⟨?_,EL.mix a b⟩;by_cases h:v.isAny=true
   ·rw[Ad h,Ad h];exact .inr rfl
   rw[Ae h,Ae h];exact .inr rfl
theorem EB.newsB:∀(b:List (List DV)),EB (Go.Ag.newsB b) (HA b)
 |[]=>trivial
 |v::r=>⟨.inr (EL.news v),EB.newsB r⟩
theorem EB.mix:∀(a:List (List DC)) (b:List (List DV)),EB (Pn a b) (HA (Km (Iq a) b))
 |[],b=>by simp only[Pn,Iq,Km];exact EB.newsB b
 | c :: a,[]=>by
   have h0:∀(a:List DC),Pk a []=a:=(by intro a;cases a<;>rfl);have h1:∀(a:List DC),Gi (Ct a) []=Ct a:=(by intro a;cases a<;>rfl);have:∀(a:List (List DC)),EB a (HA (Iq a)):=by
    intro a;induction a with
    |nil=>exact trivial
    | cons x r ih=>
      refine⟨.inr ?_,ih⟩;have:=EL.mix x [];rw[h0,h1]at this;exact this
   exact this (c::a)
 | c::a,v::b=>by
   simp only[Pn,Iq,Km];exact⟨.inr (EL.mix c v),EB.mix a b⟩
theorem bW:∀(a:List (List DV)),(HA a).length=a.length
 |[]=>rfl
 |_::r=>by simp only[HA,A0,bW r]
theorem na:∀(a b:List (List DV)),a.length<=(Km a b).length
 |[],_=>Ec _
 |_::_,[]=>BN _
 |_::a,_::b=>by simp only[Km,A0];exact Nat.succ_le_succ (na a b)
theorem nZ{D:GO}{p:Dl}(hp:Q6 p D){args:List T_}{d d1:DS}{s:PS}{g:PX}{v:DV}{dst:Option Nat}{k:PS->Prop}(hs:ES d s)(h:L3 D args d=some (g,v,d1))(A:g.den)(z:∀y,ES (d1.put dst v) y->k y):Uy p args dst k s:=by
 unfold L3 at h;simp only at h;split at h
 ·rename_i C;simp only[Aj,Br]at C;obtain⟨⟨h1,J⟩,I⟩:=C;have e:=YP hs args h1;have F:=hs.hp.all I;have j:((DV.d8 (FP d.sl args)).all λv=>!v.hold)=true:=(by rw[dx,Tl,J];rfl);split at h
  ·rename_i b;split at h
   ·rename_i L n H x;split at h
    ·rename_i i;simp only[Aj,Br]at i;simp only[Ap,Aq]at h;obtain⟨rfl,rfl,rfl⟩:=h;refine⟨by rw[e];exact Xm _ h1,?_⟩;rw[e,QE,MO,b];simp only[AX];refine⟨j,?_⟩;rw[YL,<- Q1,<- XI,F];have u:ES { d with sl:=Ur d.sl,hp:=Pn d.hp H } { s with sl:=Go.Ag.clrH s.sl,hp:=HA (Km (Iq d.hp) H) }:=⟨hs.sl.clrH,hs.bx,EB.mix d.hp H⟩;refine hp _ _ _ _ _ _ x A ⟨?_,by rw[Td];exact i.2,z _ (u.put dst n)⟩;rw[bW,bW];exact na _ _
    cases h
   cases h
  rename_i b;split at h
  ·rename_i t;have t:d.hp=[]:=Dq (by simpa using t);split at h
   ·rename_i L n H x;split at h
    ·rename_i i;simp only[Ap,Aq]at h;obtain⟨rfl,rfl,rfl⟩:=h;have G:n= .ptr 0 0:=by
      unfold DV.isP0 at i;split at i
      ·rfl
      cases i
     subst G;have q:s.hp=[]:=(by rw[F,t];rfl);refine⟨by rw[e];exact Xm _ h1,?_⟩;rw[e,QE,MO];rw[Ae (by simpa using b)];rw[YL,<- Q1,<- XI];have:=hp _ [] _ _ _ (λr H=>(((!r.q_&&r.deep)||(DV.d8 (FP d.sl args)).all λv=>!v.hold)=true)/\k (PS.put { s with hp:=if r.q_ then s.hp++H else s.hp } dst (if r.q_ then r.shift s.hp.length else r))) x A ⟨by rw[j];simp,by
      have u:ES { d with hp:=newsB H } { s with hp:=HA H }:=⟨hs.sl,hs.bx,EB.newsB H⟩;have:=z _ (u.put dst (.ptr 0 0));simpa [q,DV.enc,PV.q_,PV.shift,Km]using this⟩
     exact this
    cases h
   cases h
  cases h
 cases h
theorem ow{i c:Nat}{D:GO}{args:List T_}{d d1:DS}{g:PX}{v:DV}(h:T6 i c D args d=some (g,v,d1)):DV.hasPtrL (FP d.sl args)=true/\(Ck d (.b i) [c]).ownS=true/\L3 D args d=some (g,v,d1):=by
 unfold T6 at h;by_cases j:(DV.hasPtrL (FP d.sl args)&&(Ck d (.b i) [c]).ownS)=true
 ·rw[Ad j]at h;rw[Aj]at j;exact⟨j.1,j.2,h⟩
 rw[Ae j]at h;cases h
theorem XD{D:GO}{args:List T_}{d d1:DS}{g:PX}{v:DV}(h:L3 D args d=some (g,v,d1)):d_ d d1/\Js (FP d.sl args)=true:=by
 have t:∀(l:List DC),Chg l (Ur l):=by
  intro l;induction l with
  |nil=>trivial
  | cons c r ih=>
    refine⟨?_,ih⟩;by_cases i:c.v.isH=true
    ·rw[Ad i];exact .inl rfl
    rw[Ae i];exact .inr rfl
 have n:∀(x:List DC) (b:List DV),Chg x (news b):=by
  intro x b;induction b generalizing x with
  |nil=>cases x<;>trivial
  | cons v r ih=>cases x with
    |nil=>exact⟨rfl,ih []⟩
    |cons c x=>exact⟨.inl rfl,ih x⟩
 have s:∀(a:List DC) (b:List DV),Chg a (Pk a b):=by
  intro a;induction a with
  |nil=>intro b;exact n [] b
  | cons c r ih=>
    intro b;cases b with
    |nil=>exact Chg.refl _
    | cons v b=>
      refine⟨?_,ih b⟩;by_cases h:v.isAny=true
      ·rw[Ad h];exact .inr rfl
      rw[Ae h];exact .inl rfl
 have j:∀(x:List (List DC)) (b:List (List DV)),i_ x (newsB b):=by
  intro x b;induction b generalizing x with
  |nil=>cases x<;>trivial
  | cons v r ih=>cases x with
    |nil=>exact⟨n _ _,ih []⟩
    |cons c x=>exact⟨n _ _,ih x⟩
 have q:∀(a:List (List DC)) (b:List (List DV)),i_ a (Pn a b):=by
  intro a;induction a with
  |nil=>intro b;exact j [] b
  | cons c r ih=>
    intro b;cases b with
    |nil=>exact i_.refl _
    |cons v b=>exact⟨s c v,ih b⟩
 unfold L3 at h;simp only at h;split at h
 ·rename_i i;simp only[Aj]at i;refine⟨?_,i.1.1⟩;split at h
  ·split at h
   ·split at h
    ·simp only[Ap,Aq]at h;obtain⟨_,_,rfl⟩:=h;exact⟨t _,i_.refl _,q _ _⟩
    cases h
   cases h
  split at h
  ·split at h
   ·split at h
    ·simp only[Ap,Aq]at h;obtain⟨_,_,rfl⟩:=h;exact⟨Chg.refl _,i_.refl _,j _ _⟩
    cases h
   cases h
  cases h
 cases h
theorem pM{d:DS}{s:PS}(x:T_)(hs:ES d s)(g:x.dev d.sl≠.any)(b:(x.dev d.sl).own=false):f' x s=((x.dev d.sl).enc,s):=by
 cases x with
 |c v=>simp only[f',T_.dev];rw[TD v g]
 | t n=>
   have:=(hs.sl.get n).of g;simp only[f',Gm,this,J9,T_.dev]at b ⊢;rw[Ae (by simp[b])]
theorem YD{o:DOp}(Y:AllD o.t_){dst:Option Nat}{K:DS->DT}{k:PS->Prop}(F:UR E D' K k):UR E D' (Cr o dst K) (λs=>CU o.er dst k s):=by
 intro d s hs j n;cases o with
 | call m f p D args=>
   simp only[Cr]at j n;simp only[DOp.er,CU];cases z:Pf D args (if m=true then E8 args d else d)with
   |none=>rw[z]at j;exact j.elim
   | some r=>
     obtain⟨g,v,d1⟩:=r;rw[z]at j n;simp only[DT.chk_ok,DT.chk_lf]at j n;obtain⟨G,A⟩:=o9 z;have u:ES (if m=true then E8 args d else d) (if m=true then fzArgs args s else s):=by
      cases m with
      |false=>exact hs
      |true=>exact X7 args hs (Xi A)
     exact Zjc Y.1 u z j.1 λJ u=>F _ _ u j.2 n
 | aw ws m o ty=>
   simp only[Cr]at j n;simp only[DOp.er,CU];cases q:O6 ws m o ty d with
   |none=>rw[q]at j;exact j.elim
   | some r=>
     obtain⟨g,v,d1⟩:=r;rw[q]at j n;simp only[DT.chk_ok,DT.chk_lf]at j n;obtain⟨J,v0,G,A,e3⟩:=Zdp hs q j.1;simp only[G,A];exact F _ _ (e3.put dst v) j.2 n
 | tk f M x y=>
   simp only[Cr]at j n;simp only[DOp.er,CU];cases q:PB M x y d with
   |none=>rw[q]at j;exact j.elim
   | some r=>
     obtain⟨g,v,d1⟩:=r;rw[q]at j n;simp only[DT.chk_ok,DT.chk_lf]at j n;exact ZkT hs q j.1 λJ u=>F _ _ (u.put dst v) j.2 n
 | mark f M x y=>
   simp only[Cr]at j n;simp only[DOp.er,CU];cases q:Pj M x y d with
   |none=>rw[q]at j;exact j.elim
   | some r=>
     obtain⟨g,v,d1⟩:=r;rw[q]at j n;simp only[DT.chk_ok,DT.chk_lf]at j n;exact ZiN hs q j.1 λJ u=>F _ _ (u.put dst v) j.2 n
 | callp m f p D args=>
   simp only[Cr]at j n;simp only[DOp.er,CU];cases z:L3 D args (if m=true then E8 args d else d)with
   |none=>rw[z]at j;exact j.elim
   | some r=>
     obtain⟨g,v,d1⟩:=r;rw[z]at j n;simp only[DT.chk_ok,DT.chk_lf]at j n;obtain⟨G,A⟩:=XD z;have u:ES (if m=true then E8 args d else d) (if m=true then fzArgs args s else s):=by
      cases m with
      |false=>exact hs
      |true=>exact X7 args hs (Xi A)
     exact nZ Y.1 u z j.1 λJ u=>F _ _ u j.2 n
 | callv m f p D args i c=>
   simp only[Cr]at j n;simp only[DOp.er,CU];cases z:T6 i c D args (if m=true then E8 args d else d)with
   |none=>rw[z]at j;exact j.elim
   | some r=>
     obtain⟨g,v,d1⟩:=r;rw[z]at j n;simp only[DT.chk_ok,DT.chk_lf]at j n;obtain⟨C,O,z⟩:=ow z;obtain⟨G,A⟩:=XD z;have u:ES (if m=true then E8 args d else d) (if m=true then fzArgs args s else s):=by
      cases m with
      |false=>exact hs
      |true=>exact X7 args hs (Xi A)
     refine⟨⟨?_,?_⟩,nZ Y.1 u z j.1 λJ u=>F _ _ u j.2 n⟩
     ·rw[YP u args A,QE,MO,C]
     have:=HZ u (.b i) [c] (λe=>by rw[e]at O;cases O);rw[this];unfold DV.ownS at O;split at O
     ·rename_i r l h;rw[h];exact⟨_,rfl⟩
     ·rename_i h;rw[h];exact⟨_,rfl⟩
     cases O
 | fz x=>
   simp only[Cr]at j n;simp only[DOp.er,CU];by_cases Z:(FE x d).1.ok=true
   ·rw[Ad Z]at j n;obtain⟨G,A⟩:=Zd5 x hs Z;rw[G,<- pJ];exact F _ _ (A.put dst _) j n
   rw[Ae Z]at j;exact j.elim
 | fzb a o=>
   simp only[Cr]at j n;simp only[DOp.er,CU];cases z:Po (a.dev d.sl) d with
   |none=>rw[z]at j;exact j.elim
   | some d1=>
     rw[z]at j n;simp only at j n;cases q:BD false o none d1 with
     |none=>rw[q]at j;exact j.elim
     | some r=>
       obtain⟨g,v,d2⟩:=r;rw[q]at j n;simp only[DT.chk_ok,DT.chk_lf]at j n;obtain⟨s1,k1,k2⟩:=Zj7 hs (a.dev_ev hs) z;obtain⟨J,G,A⟩:=W5 k2 q j.1;simp only[k1,G];exact F _ _ (A.put dst v) j.2 n
 | clm a t o=>
   simp only[Cr]at j n;simp only[DOp.er,CU];cases z:Pr a t d with
   |none=>rw[z]at j;exact j.elim
   | some r=>
     obtain⟨g0,d1⟩:=r;rw[z]at j n;simp only at j n;cases q:BD false o none d1 with
     |none=>rw[q]at j;exact j.elim
     | some r=>
       obtain⟨g,v,d2⟩:=r;rw[q]at j n;simp only[DT.chk_ok,DT.chk_lf]at j n;have hg:=(PX.n_ _ _).mp j.1;refine Zkf hs z hg.1 λs1 U=>?_;obtain⟨J,G,A⟩:=W5 U q hg.2;simp only[G];exact F _ _ (A.put dst v) j.2 n
 | a m o ty=>
   have N:(match BD m o ty d with|some (g,v,st)=>DT.chk' g (K (st.put dst v))|none=>DT.bad).ok.den->(match BD m o ty d with|some (g,v,st)=>DT.chk' g (K (st.put dst v))|none=>DT.bad).lf=some (E,D')->CU (DOp.a m o ty).er dst k s:=by
    intro j n;cases q:BD m o ty d with
    |none=>rw[q]at j;exact j.elim
    | some r=>
      obtain⟨g,v,d1⟩:=r;rw[q]at j n;simp only[DT.chk_ok,DT.chk_lf]at j n;obtain⟨J,G,A⟩:=W5 hs q j.1;simp only[DOp.er,CU,G];exact F _ _ (A.put dst v) j.2 n
   cases o<;>first|exact N j n|skip
   case pick c a b=>
    clear N;simp only[Cr]at j n;have z:=c.dev_ev hs;have I:∀(x:T_),(match Bx x d with|(v,st)=>if v.ok=true then K (st.put dst v)else DT.bad).ok.den->(match Bx x d with|(v,st)=>if v.ok=true then K (st.put dst v)else DT.bad).lf=some (E,D')->k ((f' x s).2.put dst (f' x s).1):=by
     intro x j n;by_cases R:(Bx x d).1.ok=true
     ·simp only[Ad R]at j n;obtain⟨m1,m2⟩:=Fz x hs R;rw[m1];exact F _ _ (m2.put dst _) j n
     simp only[Ae R]at j;exact j.elim
    cases C:c.dev d.sl with
    | bool t=>
      rw[C]at z;have hp:=z.of (by simp);simp only[DOp.er,CU,BC,hp,DV.enc];cases t with
      | lit t=>
        rw[C]at j n;cases t with
        |true=>exact I a j n
        |false=>exact I b j n
      | dyn t=>
        rw[C]at j n;simp only at j n;split at j
        ·rename_i h;rw[Ad h]at n;have j:=(PX.if_den _ _ _).mp j;cases t with
         |true=>exact I a (j.1 rfl) n
         |false=>exact I b (j.2 rfl) n
        rename_i h;rw[Ae h]at n;simp only[GI,Cl,B7]at h;obtain⟨⟨h1,h2⟩,L⟩:=h;have ka:a.dev d.sl≠.any:=by
         intro e;rw[e]at L;cases hb:b.dev d.sl<;>rw[hb]at L<;>cases L
        have kb:b.dev d.sl≠.any:=by
         intro e;rw[e]at L;cases hb:a.dev d.sl<;>rw[hb]at L<;>cases L
        have hm:DK t (a.dev d.sl) (b.dev d.sl)≠.any:=(by intro e;rw[e]at L;cases L);have he:=(YU t (a.dev d.sl) (b.dev d.sl)).resolve_left hm;have:=F _ _ (hs.put dst (DK t (a.dev d.sl) (b.dev d.sl))) j n;rw[he]at this;simp only[BX.b];cases t with
        |true=>simp only[AX,pM a hs ka h1];exact this
        |false=>simp only[AZ,A5,pM b hs kb h2];exact this
    |_=>rw[C]at j;exact j.elim
theorem pf{d:DS}{s:PS}{g:Nat}{b:Bool}(hs:ES d s)(h:Aa s.sl g= .fl (.bool b)):ES (Pw d g b) s:=by
 refine⟨?_,hs.bx,hs.hp⟩;have:∀ {a:List DC} {l:List PV} (n:Nat),EL a l->Aa l n= .fl (.bool b)->EL (DM a n (.bool (.lit b))) l:=by
  intro a;induction a with
  |nil=>intro l n h _;exact h
  | cons c a ih=>
    intro l n h i;cases l with
    |nil=>exact h.elim
    | cons p l=>
      cases n with
      |zero=>exact⟨.inr i,h.2⟩
      |succ n=>exact⟨h.1,ih n h.2 i⟩
 exact this g hs.sl h
theorem ZiO{o:DOper}(C:AllD o.op.t_){K:DS->DT}{k:PS->Prop}(y:UR E D' K k):UR E D' (Rt o K) (λs=>It o.er k s):=by
 intro d s hs i j;have q:∀ {d s},ES d s->(K (d.put o.dst (.f8 []))).ok.den->(K (d.put o.dst (.f8 []))).lf=some (E,D')->k (s.put o.dst (.f8 [])):=λhs i j=>y _ _ (hs.put o.dst (.f8 [])) i j;unfold Rt at i j;unfold It;simp only[DOper.er];cases D:o.guard with
 |none=>rw[D]at i j;exact YD C y d s hs i j
 | some g=>
   obtain⟨g,n⟩:=g;rw[D]at i j;simp only at i j ⊢;have A:=hs.sl.get g;cases x:Bu d.sl g with
   | bool t=>
     rw[x]at i j A;have hp:=A.of (by simp);simp only[DV.enc]at hp;rw[hp];simp only;cases t with
     | lit t=>
       simp only at i j;by_cases z:t=n
       ·rw[Ad (by simpa using z)]at i j;rw[Ad (show (BX.lit t).b=n from z)];exact YD C y d s hs i j
       rw[Ae (by simpa using z)]at i j;rw[Ae (show ¬(BX.lit t).b=n from z)];exact q hs i j
     | dyn t=>
       simp only[BX.b]at hp ⊢;have i:=(PX.if_den _ _ _).mp i;have u:=pf hs hp;cases t with
       | true=>
         have i:=i.1 rfl;simp only[DT.lf]at j;cases n with
         |true=>exact YD C y _ s u i j
         |false=>exact q u i j
       | false=>
         have i:=i.2 rfl;simp only[DT.lf]at j;cases n with
         |true=>exact q u i j
         |false=>exact YD C y _ s u i j
   | f8 vs=>
     cases vs with
     | nil=>
       rw[x]at i j A;have hp:=A.of (by simp);simp only[DV.enc,DV.d8]at hp;rw[hp];exact q hs i j
     |cons v r=>rw[x]at i;exact i.elim
   |_=>rw[x]at i;exact i.elim
theorem fo:∀(ops:List DOper),AllD (Yd ops)->∀ {k:PS->Prop},E= .normal->(∀s,ES D' s->k s)->UR E D' (KB ops) (λs=>Kz (ops.map λo=>o.er) k s)
 | [],_,k,hE,hk=>by
   intro d s hs i b;simp only[KB,DT.lf,Ap,Aq]at b;obtain⟨_,rfl⟩:=b;exact hk s hs
 | o::r,ho,k,hE,hk=>by
   obtain⟨h1,g⟩:=ho.app;exact ZiO h1 (fo r g hE hk)
end
theorem ZhZ{o:DOp}{dst:Option Nat}{K:DS->DT}{b:DS}(n:∀d,d_ b d->(K d).All (d_ b)):∀d,d_ b d->(Cr o dst K d).All (d_ b):=by
 intro d hd;cases o with
 | call m f p D args=>
   simp only[Cr];cases q:Pf D args (if m=true then E8 args d else d)with
   |none=>trivial
   | some r=>
     obtain⟨g,v,d1⟩:=r;obtain⟨rfl,_⟩:=o9 q;refine DT.chk_all _ (n _ ((hd.trans ?_).trans (d_.put _ _ _)));cases m with
     |true=>exact DS.fzArgs_chg args d
     |false=>exact d_.refl d
 | aw ws m o ty=>
   simp only[Cr];cases j:O6 ws m o ty d with
   |none=>trivial
   | some r=>
     obtain⟨g,v,d1⟩:=r;exact DT.chk_all _ (n _ ((hd.trans (Zej j)).trans (d_.put _ _ _)))
 | tk f M x y=>
   simp only[Cr];cases j:PB M x y d with
   |none=>trivial
   | some r=>
     obtain⟨g,v,d1⟩:=r;exact DT.chk_all _ (n _ ((hd.trans (Zjw j)).trans (d_.put _ _ _)))
 | mark f M x y=>
   simp only[Cr];cases j:Pj M x y d with
   |none=>trivial
   | some r=>
     obtain⟨g,v,d1⟩:=r;exact DT.chk_all _ (n _ ((hd.trans (ZfE j)).trans (d_.put _ _ _)))
 | callp m f p D args=>
   simp only[Cr];cases q:L3 D args (if m=true then E8 args d else d)with
   |none=>trivial
   | some r=>
     obtain⟨g,v,d1⟩:=r;obtain⟨h1,_⟩:=XD q;refine DT.chk_all _ (n _ (((hd.trans ?_).trans h1).trans (d_.put _ _ _)));cases m with
     |true=>exact DS.fzArgs_chg args d
     |false=>exact d_.refl d
 | fz x=>
   simp only[Cr];split
   ·exact n _ ((hd.trans (d_.fzOut x d)).trans (d_.put _ _ _))
   trivial
 | fzb a o=>
   simp only[Cr];cases q:Po (a.dev d.sl) d with
   |none=>trivial
   | some d1=>
     simp only;cases j:BD false o none d1 with
     |none=>trivial
     | some r=>
       obtain⟨g,v,A⟩:=r;exact DT.chk_all _ (n _ (((hd.trans (ZhO q)).trans (Xv j)).trans (d_.put _ _ _)))
 | clm a t o=>
   simp only[Cr];cases q:Pr a t d with
   |none=>trivial
   | some r=>
     obtain⟨C,d1⟩:=r;simp only;cases j:BD false o none d1 with
     |none=>trivial
     | some r=>
       obtain⟨g,v,A⟩:=r;exact DT.chk_all _ (n _ (((hd.trans (ZhH q)).trans (Xv j)).trans (d_.put _ _ _)))
 | callv m f p D args i c=>
   simp only[Cr];cases q:T6 i c D args (if m=true then E8 args d else d)with
   |none=>trivial
   | some r=>
     obtain⟨g,v,d1⟩:=r;obtain⟨_,_,q⟩:=ow q;obtain⟨h1,_⟩:=XD q;refine DT.chk_all _ (n _ (((hd.trans ?_).trans h1).trans (d_.put _ _ _)));cases m with
     |true=>exact DS.fzArgs_chg args d
     |false=>exact d_.refl d
 | a m o ty=>
   have u:(match BD m o ty d with|some (g,v,st)=>DT.chk' g (K (st.put dst v))|none=>DT.bad).All (d_ b):=by
    cases j:BD m o ty d with
    |none=>trivial
    | some r=>
      obtain⟨g,v,d1⟩:=r;exact DT.chk_all _ (n _ ((hd.trans (Xv j)).trans (d_.put _ _ _)))
   cases o<;>first|exact u|skip
   case pick c x y=>
    simp only[Cr];have s:∀(x:T_),(match Bx x d with|(v,st)=>if v.ok=true then K (st.put dst v)else DT.bad).All (d_ b):=by
     intro x;simp only;split
     ·exact n _ ((hd.trans (d_.f' x d)).trans (d_.put _ _ _))
     trivial
    cases z:c.dev d.sl with
    | bool t=>
      cases t with
      |lit t=>cases t<;>exact s _
      | dyn t=>
        simp only;split
        ·exact⟨s x,s y⟩
        exact n _ (hd.trans (d_.put _ _ _))
    |_=>trivial
theorem cO(d:DS)(g:Nat)(t:Bool):d_ d (Pw d g t):=⟨Chg.put _ _ _,i_.refl _,i_.refl _⟩
theorem Zgi{o:DOper}{K:DS->DT}{b:DS}(j:∀d,d_ b d->(K d).All (d_ b)):∀d,d_ b d->(Rt o K d).All (d_ b):=by
 intro d hd;unfold Rt;have hp:=ZhZ (o:=o.op) (dst:=o.dst) j;cases s:o.guard with
 |none=>exact hp d hd
 | some g=>
   obtain⟨g,i⟩:=g;simp only;cases q:Bu d.sl g with
   | bool t=>
     cases t with
     | lit t=>
       simp only;split
       ·exact hp d hd
       exact j _ (hd.trans (d_.put _ _ _))
     | dyn t=>
       have h1:=hd.trans (cO d g true);have n:=hd.trans (cO d g false);cases i with
       |true=>exact⟨hp _ h1,j _ (n.trans (d_.put _ _ _))⟩
       |false=>exact⟨j _ (h1.trans (d_.put _ _ _)),hp _ n⟩
   | f8 vs=>
     cases vs with
     |nil=>exact j _ (hd.trans (d_.put _ _ _))
     |cons v r=>trivial
   |_=>trivial
theorem df{b:DS}:∀(ops:List DOper) (d:DS),d_ b d->(KB ops d).All (d_ b)
 |[],_,h=>h
 |_::r,d,h=>Zgi (df r) d h
theorem rj:∀(ops:List DOper) {d n:DS} {e:AExit},(KB ops d).lf=some (e,n)->e= .normal:=by
 intro ops;have pick : ∀ {K:DS->DT} {e:AExit} {n:DS},(∀d,(K d).lf=some (e,n)->e= .normal)->∀(o:DOp) (dst:Option Nat) (d:DS),(Cr o dst K d).lf=some (e,n)->e= .normal:=by
  intro K e n j o dst d b;cases o with
  | call m f p D args=>
    simp only[Cr]at b;split at b
    ·rw[DT.chk_lf]at b;exact j _ b
    cases b
  | aw ws m o ty=>
    simp only[Cr]at b;split at b
    ·rw[DT.chk_lf]at b;exact j _ b
    cases b
  | tk f M x y=>
    simp only[Cr]at b;split at b
    ·rw[DT.chk_lf]at b;exact j _ b
    cases b
  | mark f M x y=>
    simp only[Cr]at b;split at b
    ·rw[DT.chk_lf]at b;exact j _ b
    cases b
  | callp m f p D args=>
    simp only[Cr]at b;split at b
    ·rw[DT.chk_lf]at b;exact j _ b
    cases b
  | fz x=>
    simp only[Cr]at b;split at b
    ·exact j _ b
    cases b
  | fzb a o=>
    simp only[Cr]at b;split at b
    ·split at b
     ·rw[DT.chk_lf]at b;exact j _ b
     cases b
    cases b
  | clm a t o=>
    simp only[Cr]at b;split at b
    ·split at b
     ·rw[DT.chk_lf]at b;exact j _ b
     cases b
    cases b
  | callv m f p D args i c=>
    simp only[Cr]at b;split at b
    ·rw[DT.chk_lf]at b;exact j _ b
    cases b
  | a m o ty=>
    have C:(match BD m o ty d with|some (g,v,st)=>DT.chk' g (K (st.put dst v))|none=>DT.bad).lf=some (e,n)->e= .normal:=by
     intro b;split at b
     ·rw[DT.chk_lf]at b;exact j _ b
     cases b
    cases o<;>first|exact C b|skip
    case pick c x y=>
     simp only[Cr]at b;have z:∀(x:T_),(match Bx x d with|(v,st)=>if v.ok=true then K (st.put dst v)else DT.bad).lf=some (e,n)->e= .normal:=by
      intro x b;simp only at b;split at b
      ·exact j _ b
      cases b
     cases A:c.dev d.sl with
     | bool t=>
       rw[A]at b;cases t with
       |lit t=>cases t<;>exact z _ b
       | dyn t=>
         simp only at b;split at b
         ·cases t<;>exact z _ b
         exact j _ b
     |_=>rw[A]at b;cases b
 induction ops with
 | nil=>
   intro d n e b;simp only[KB,DT.lf,Ap,Aq]at b;exact b.1.symm
 | cons o r ih=>
   intro d n e b;have s:∀d,(KB r d).lf=some (e,n)->e= .normal:=λd h=>ih h;simp only[KB]at b;unfold Rt at b;cases F:o.guard with
   |none=>rw[F]at b;exact pick s _ _ _ b
   | some g=>
     obtain⟨g,u⟩:=g;rw[F]at b;simp only at b;cases q:Bu d.sl g with
     | bool t=>
       rw[q]at b;cases t with
       | lit t=>
         simp only at b;split at b
         ·exact pick s _ _ _ b
         exact s _ b
       | dyn t=>
         cases t<;>cases u<;>first|exact pick s _ _ _ b|exact s _ b
     | f8 vs=>
       rw[q]at b;cases vs with
       |nil=>exact s _ b
       |cons v r=>cases b
     |_=>rw[q]at b;cases b
theorem EL.put1{v:DV}:∀ {a:List DC} {b:List PV} (n:Nat),EL a b->EV v (Aa b n)->EL (DM a n v) b
 |[],_,_,h,_=>h
 |_::_,[],_,h,_=>h.elim
 |_::_,_::_,0,h,hv=>⟨hv,h.2⟩
 |_::_,_::_,n+1,h,hv=>⟨h.1,EL.put1 n h.2 hv⟩
theorem EBx.put1{v:DV}{a:List DC}{b:List PV}(n:Nat)(h:EBx a b)(g:EV v (Aa b n)):EBx (DM a n v) b:=by
 rcases h with rfl|h
 ·exact .inl rfl
 exact .inr (h.put1 n g)
theorem EB.put1{v:List DC}:∀ {a:List (List DC)} {b:List (List PV)} (n:Nat),EB a b->EBx v (Ao b n)->EB (Fk a n v) b
 |[],_,_,h,_=>h
 |_::_,[],_,h,_=>h.elim
 |_::_,_::_,0,h,hv=>⟨hv,h.2⟩
 |_::_,_::_,n+1,h,hv=>⟨h.1,EB.put1 n h.2 hv⟩
def PS.at(s:PS):Pl->PV
 |.s i=>Aa s.sl i|.b i c=>Aa (Ao s.bx i) c|.h i c=>Aa (Ao s.hp i) c
theorem EBx.get{a:List DC}{b:List PV}(n:Nat)(h:EBx a b):EV (Bu a n) (Aa b n):=by
 rcases h with rfl|h
 ·exact .inl rfl
 exact h.get n
theorem ES.at{d:DS}{s:PS}(h:ES d s)(g:Pl):EV (d.at g) (s.at g):=by
 cases g with
 |s i=>exact h.sl.get i
 |b i c=>exact(h.bx.get i).get c
 |h i c=>exact(h.hp.get i).get c
theorem ES.wr{d:DS}{s:PS}(h:ES d s)(g:Pl){v:DV}(j:EV v (s.at g)):ES (d.wr v g) s:=by
 cases g with
 |s i=>exact⟨h.sl.put1 i j,h.bx,h.hp⟩
 |b i c=>exact⟨h.sl,h.bx.put1 i ((h.bx.get i).put1 c j),h.hp⟩
 |h i c=>exact⟨h.sl,h.bx,h.hp.put1 i ((h.hp.get i).put1 c j)⟩
theorem Ud{q:Ql}{t:CT}{v:DV}{x:t.D}(h:t.ofQ q v=some x):(t.dv q x).enc=v.enc/\v≠.any:=by
 cases t with
 | int k=>
   cases v<;>try (cases h;done)
   rename_i g n;have h':(if IntKind.same k g=true then some n else none)=some x:=h;clear h;split at h'
   ·rename_i i;have:=Ye i;subst this;have h':=Di h';subst h';exact⟨rfl,by simp⟩
   cases h'
 | bool=>
   cases v<;>try (cases h;done)
   have h:=Di h;subst h;exact⟨rfl,by simp⟩
 | str=>
   cases v<;>try (cases h;done)
   have h:=Di h;subst h;exact⟨rfl,by simp⟩
 | ifc=>
   cases v<;>try (cases h;done)
   have h:=Di h;subst h;exact⟨rfl,by simp⟩
 |slf r=>cases v<;>cases h
 | sl r=>
   cases v<;>try (cases h;done)
   case nil q'=>
    have h':(if Eh q q'=true then some ([]:List r.D)else none)=some x:=h;clear h;split at h'
    ·rename_i b;have:=OY b;subst this;have h':=Di h';subst h';exact⟨rfl,by simp⟩
    cases h'
   case sl q' r' l=>
    have h':(if Eh q q'=true then Io (r':=r') (r:=r) l else none)=some x:=h;clear h;split at h'
    ·rename_i b;have:=OY b;subst this;refine⟨?_,by simp⟩;show PV.sl q _=PV.sl q _;rw[(OL h').2]
    cases h'
theorem fX:∀ {l:List (Ql×CT)} {g:List DV} {x:AgX l},Ix l g=some x->DV.d8 (De l x)=DV.d8 g
 |[],[],_,_=>rfl
 | [a],[v],x,h=>by
   show [(a.2.dv a.1 x).enc]=[v.enc];rw[(Ud (q:=a.1) (t:=a.2) h).1]
 | a :: b::r,v::g,x,h=>by
   have h':(match a.2.ofQ a.1 v,Ix (b::r) g with|some x,some y=>some (x,y)|_,_=>none)=some x:=h;clear h;cases h1:a.2.ofQ a.1 v with
   |none=>rw[h1]at h';cases h'
   | some p=>
     cases i:Ix (b::r) g with
     |none=>rw[h1,i]at h';cases h'
     | some q=>
       rw[h1,i]at h';have h':=Di h';subst h';show (a.2.dv a.1 p).enc::DV.d8 (De (b::r) q)=v.enc::DV.d8 g;rw[(Ud h1).1,fX i]
theorem Ut{t:HT}{v:DV}{x:t.D}(h:t.of v=some x):(t.dv x).enc=v.enc/\v≠.any:=by
 cases t with
 |one q t=>exact Ud (q:=q) (t:=t) h
 | agg l=>
   cases v<;>try (cases h;done)
   rename_i cs;refine⟨?_,by simp⟩;show PV.agg _=PV.agg _;rw[fX (l:=l) h]
theorem fO{A:DS}{s:PS}(i:ES A s):∀(H:List Hole) {K:DS} {x:IA H},ES K s->NN A H=some x->ES (wrX K H x) s
 |[],K,x,hK,_=>hK
 | [a],K,x,hK,h=>by
   have h:a.t.of (A.at a.pl)=some x:=h;obtain⟨h1,g⟩:=Ut h;refine hK.wr a.pl (.inr ?_);rw[h1,(i.at a.pl).of g]
 | a :: b::r,K,x,hK,h=>by
   have h':(match a.t.of (A.at a.pl),NN A (b::r)with|some x,some y=>some (x,y)|_,_=>none)=some x:=h;clear h;cases h1:a.t.of (A.at a.pl)with
   |none=>rw[h1]at h';cases h'
   | some p=>
     cases g:NN A (b::r)with
     |none=>rw[h1,g]at h';cases h'
     | some q=>
       rw[h1,g]at h';have h':=Di h';subst h';obtain⟨n,j⟩:=Ut h1;refine fO i (b::r) (x:=q) (hK.wr a.pl (.inr ?_)) g;rw[n,(i.at a.pl).of j]
theorem qt(d:DS)(v:DV)(g:Pl):d_ d (d.wr v g):=by
 cases g with
 |s i=>exact⟨Chg.put _ _ _,i_.refl _,i_.refl _⟩
 |b i c=>exact⟨Chg.refl _,i_.put _ _ (Chg.put _ _ _),i_.refl _⟩
 |h i c=>exact⟨Chg.refl _,i_.refl _,i_.put _ _ (Chg.put _ _ _)⟩
theorem ql:∀(H:List Hole) (d:DS) (x:IA H),d_ d (wrX d H x)
 |[],d,_=>d_.refl d
 |[a],d,_=>qt d _ _
 |a::b::r,d,x=>(qt d _ _).trans (ql (b::r) _ _)
def LeC:List DC->List DC->Prop
 |[],[]=>True|k::a,b::r=>(k.v= .any\/k.v=b.v)/\LeC a r|_,_=>False
def LeB:List (List DC)->List (List DC)->Prop
 |[],[]=>True|k::a,b::r=>(k=[]\/LeC k b)/\LeB a r|_,_=>False
structure LeS (k b:DS):Prop where
 sl:LeC k.sl b.sl
 bx:LeB k.bx b.bx
 hp:LeB k.hp b.hp
theorem LeC.refl:∀(k:List DC),LeC k k
 |[]=>trivial
 |_::r=>⟨.inr rfl,LeC.refl r⟩
theorem LeB.refl:∀(k:List (List DC)),LeB k k
 |[]=>trivial
 |k::r=>⟨.inr (LeC.refl k),LeB.refl r⟩
theorem LeC.put{v:DV}:∀ {k b:List DC} (n:Nat),LeC k b->Bu k n= .any->LeC k (DM b n v)
 |[],[],_,h,_=>h
 |[],_::_,_,h,_=>h.elim
 |_::_,[],_,h,_=>h.elim
 |_::_,_::_,0,h,ha=>⟨.inl ha,h.2⟩
 |_::_,_::_,n+1,h,ha=>⟨h.1,LeC.put n h.2 ha⟩
theorem LeB.put{v:DV}:∀ {k b:List (List DC)} (i c:Nat),LeB k b->Bu (B1 k i) c= .any->LeB k (Fk b i (DM (B1 b i) c v))
 |[],[],_,_,h,_=>h
 |[],_::_,_,_,h,_=>h.elim
 |_::_,[],_,_,h,_=>h.elim
 |_::_,_::_,0,c,h,ha=>⟨h.1.imp id λh=>h.put c ha,h.2⟩
 |_::_,_::_,n+1,c,h,ha=>⟨h.1,LeB.put n c h.2 ha⟩
theorem oJ{v:DV}(h:v.isAny=true):v= .any:=by cases v<;>first|rfl|cases h
theorem LeS.wr{k b:DS}{v:DV}{j:Pl}(h:LeS k b)(g:(k.at j).isAny=true):LeS k (b.wr v j):=by
 have g:=oJ g;cases j with
 |s i=>exact⟨h.sl.put i g,h.bx,h.hp⟩
 |b i c=>exact⟨h.sl,h.bx.put i c g,h.hp⟩
 |h i c=>exact⟨h.sl,h.bx,h.hp.put i c g⟩
theorem LeS.wrX{k:DS}:∀(H:List Hole) {b:DS} (x:IA H),LeS k b->QW k H=true->LeS k (Go.Ag.wrX b H x)
 |[],_,_,h,_=>h
 | [a],_,_,h,ha=>by
   simp only[QW,Aj]at ha;exact h.wr ha.1
 | a :: b::r,_,x,h,ha=>by
   have g:(k.at a.pl).isAny=true/\QW k (b::r)=true:=by
    have:((k.at a.pl).isAny&&QW k (b::r))=true:=ha;simpa [Aj]using this
   exact LeS.wrX (b::r) _ (h.wr g.1) g.2
theorem ZgX{a b:DV}(h:a.same b=true):a.enc=b.enc/\b≠.any:=by
 cases a<;>cases b<;>first|(cases h;done)|skip
 case undef.undef=>exact⟨rfl,by simp⟩
 case nil.nil q q'=>have:=OY h;subst this;exact⟨rfl,by simp⟩
 case box.box=>simp only[DV.same,Aj,Bb]at h;obtain⟨rfl,rfl⟩:=h;exact⟨rfl,by simp⟩
 case ptr.ptr=>simp only[DV.same,Aj,Bb]at h;obtain⟨rfl,rfl⟩:=h;exact⟨rfl,by simp⟩
theorem eJ:∀ {k b y:List DC} {p:List PV},UU k y=true->LeC k b->Chg (Go.Ag.clean b) y->EL y p->EL k p
 |[],_,[],p,_,_,_,h=>h
 |[],_,_::_,_,h,_,_,_=>by cases h
 |_::_,_,[],_,h,_,_,_=>by cases h
 |_::_,[],_::_,_,_,h,_,_=>h.elim
 |_::_,_::_,_::_,[],_,_,_,h=>h.elim
 | k :: a,b::r,y::l,q::p,h,hl,hc,he=>by
   simp only[UU,Aj,Ce]at h;refine⟨?_,eJ h.2 hl.2 hc.2 he.2⟩;rcases h.1 with(h1|h1)|h1
   ·exact .inl (oJ h1)
   ·rcases hl.1 with j|j
    ·exact .inl j
    rcases hc.1 with i|i
    ·simp[i]at h1
    have:y.v=k.v:=(by rw[i,j]);rcases he.1 with g|g
    ·exact .inl (by rw[<- this];exact g)
    exact .inr (by rw[<- this];exact g)
   obtain⟨j,i⟩:=ZgX h1;rcases he.1 with g|g
   ·exact absurd g i
   exact .inr (by rw[j];exact g)
theorem eZ:∀ {k b y:List (List DC)} {p:List (List PV)},US k y=true->LeB k b->i_ (Rg b) y->EB y p->EB k p
 |[],_,[],p,_,_,_,h=>h
 |[],_,_::_,_,h,_,_,_=>by cases h
 |_::_,_,[],_,h,_,_,_=>by cases h
 |_::_,[],_::_,_,_,h,_,_=>h.elim
 |_::_,_::_,_::_,[],_,_,_,h=>h.elim
 | k :: a,b::r,y::l,q::p,h,hl,hc,he=>by
   simp only[US,Aj,Ce,Bb]at h;refine⟨?_,eZ h.2 hl.2 hc.2 he.2⟩;rcases h.1 with h1|h1
   ·exact .inl (Dq h1)
   rcases hl.1 with i|i
   ·exact .inl i
   rcases he.1 with g|g
   ·subst g;cases k with
    |nil=>exact .inl rfl
    |cons=>cases h1
   exact .inr (eJ h1 i hc.1 g)
theorem Zj0{k b y:DS}{s:PS}(h:gj k y=true)(g:LeS k b)(j:d_ b.clean y)(i:ES y s):ES k s:=by
 simp only[gj,Aj]at h;exact⟨eJ h.1.1 g.sl j.sl i.sl,eZ h.1.2 g.bx j.bx i.bx,eZ h.2 g.hp j.hp i.hp⟩
theorem fj(g:Nat->Pl):∀(n:Nat) (x y:List DC),Chg x (Mm g n x y).2/\∀p,EL x p->EL (Mm g n x y).2 p
 |_,[],_=>⟨trivial,λ_ h=>h⟩
 |_,_::_,[]=>⟨Chg.refl _,λ_ h=>h⟩
 | n,x::a,y::b=>by
   obtain⟨h1,i⟩:=fj g (n+1) a b;simp only[Mm];cases j:Mm g (n+1) a b with
   | mk H l=>
     rw[j]at h1 i;cases sM x.v y with
     |left=>exact⟨⟨.inr rfl,h1⟩,λp h=>by cases p with|nil=>exact h|cons q p=>exact⟨h.1,i p h.2⟩⟩
     |hole t=>exact⟨⟨.inl rfl,h1⟩,λp h=>by cases p with|nil=>exact h|cons q p=>exact⟨.inl rfl,i p h.2⟩⟩
     |kill=>exact⟨⟨.inl rfl,h1⟩,λp h=>by cases p with|nil=>exact h|cons q p=>exact⟨.inl rfl,i p h.2⟩⟩
theorem fB(g:Nat->Nat->Pl):∀(n:Nat) (x y:List (List DC)),i_ x (Pv g n x y).2/\∀p,EB x p->EB (Pv g n x y).2 p
 |_,[],_=>⟨trivial,λ_ h=>h⟩
 |_,_::_,[]=>⟨i_.refl _,λ_ h=>h⟩
 | n, x :: a,y::b=>by
   obtain⟨h1,j⟩:=fB g (n+1) a b;simp only[Pv];cases u:Pv g (n+1) a b with
   | mk H l=>
     rw[u]at h1 j;simp only;split
     ·obtain⟨t,s⟩:=fj (g n) 0 x y;cases i:Mm (g n) 0 x y with
      | mk H' x'=>
        rw[i]at t s;exact⟨⟨t,h1⟩,λp h=>by
         cases p with
         |nil=>exact h
         |cons q p=>exact⟨h.1.elim (λe=>by subst e;cases y<;>(simp only[Mm]at i;simp only[Aq]at i;exact .inl i.2.symm)) λh=>.inr (s q h),j p h.2⟩⟩
     exact⟨⟨by cases x<;>trivial,h1⟩,λp h=>by cases p with|nil=>exact h|cons q p=>exact⟨.inl rfl,j p h.2⟩⟩
theorem qn(x y:DS):d_ x (UM x y).2/\∀s,ES x s->ES (UM x y).2 s:=by
 obtain⟨h1,q⟩:=fj .s 0 x.sl y.sl;obtain⟨n,j⟩:=fB .b 0 x.bx y.bx;obtain⟨i,g⟩:=fB .h 0 x.hp y.hp;exact⟨⟨h1,n,i⟩,λs h=>⟨q _ h.sl,j _ h.bx,g _ h.hp⟩⟩
theorem dC{live:List Nat}{body:DS->DT}{A:DS}:∀ {n:Nat} {b:DS} {H:List Hole} {K:DS},Ul live body A n b=some (H,K)->∃Y,UM A Y=(H,K)
 | 0,b,H,K,h=>by
   simp only[Ul]at h;split at h
   ·rename_i m _;exact⟨_,Di h⟩
   cases h
 | n + 1,b,H,K,h=>by
   simp only[Ul]at h;split at h
   ·split at h
    ·exact dC h
    cases h
   cases h
theorem ca(live:List Nat)(d:DS):d_ d (EA live d):=⟨Chg.keep _ _ _,i_.refl _,i_.refl _⟩
theorem Zf2(live:List Nat)(d:DS):d_ d (Y7 live d):=⟨Chg.trim _ _ _,i_.refl _,i_.refl _⟩
theorem ZiK {live:List Nat} {n:Nat} {body:DS->DT} {R:GN->PS->Prop} (C:∀d,(body d).All (d_ d.clean))
 (hb:∀d s e J (k:GN),ES d s->(body d).ok.den->(body d).lf=some (e,J)->(∀z,ES J z->k e z)->R k s)
 {d J:DS} {s:PS} {e:AExit} {k:GN} (hs:ES d s) (t:(Rx live n body d).ok.den) (g:(Rx live n body d).lf=some (e,J)) (hk:∀z,ES J z->k e z):∃n,UG R live k n s:=by
 have hA:ES (EA live d) { s with sl:=Fl live 0 s.sl }:=hs.keep live;unfold Rx at t g;split at t
 ·rename_i A;rw[Ad A]at g;rw[DT.map_ok]at t;rw[DT.map_lf]at g;obtain⟨F,d0,h0⟩:=DT.ok_lf t;rw[h0]at g;simp only[Cw,Ap,Aq]at g;obtain⟨rfl,rfl⟩:=g;have A:(body (EA live d)).norm= .none:=(by cases h:(body (EA live d)).norm<;>rw[h]at A<;>first|rfl|cases A);have I:=DT.norm_none A h0;refine⟨1,hb _ _ _ _ _ hA t h0 λz u=>?_⟩;cases F<;>first|(cases I;done)|exact hk _ u.rem
 rename_i A;rw[Ae A]at g;split at t
 ·exact t.elim
 rename_i H K hd;rw[hd]at g;simp only at g;obtain⟨Y,hY⟩:=dC hd;split at t
 ·exact t.elim
 rename_i x0 N;rw[N]at g;simp only at g;split at t
 ·rename_i hh;rw[Ad hh]at g;simp only[DT.ok,PX.n_,PX.den]at t;obtain⟨hlo,_⟩:=t;simp only[DT.lf]at g;have hK:ES K { s with sl:=Fl live 0 s.sl }:=by
   have:=(qn (EA live d) Y).2 _ hA;rw[hY]at this;exact this
  have h0:ES (wrX K H x0) { s with sl:=Fl live 0 s.sl }:=fO hA H hK N;have Z:=hlo.to;have hle:∀x,LeS K (wrX K H x):=λx=>LeS.wrX H x ⟨LeC.refl _,LeB.refl _,LeB.refl _⟩ hh;have L:∀ {x y:IA H},LoopTo (Ry body K H) (Rw live body K H) (λx=>(se live body K H x).den) x y ->
   ((lT body K H y).drop.map (NL (wrX K H y))).lf=some (e,J) ->
   ∃n,∀s:PS,ES (wrX K H x) { s with sl:=Fl live 0 s.sl }->UG R live k n s:=by
   intro x y h;induction h with
   | stop G hc=>
     rename_i x;intro g;have G:=((PX.n_ _ _).mp G).1;obtain⟨F,d0,h0⟩:=DT.ok_lf G;have I:F.isN=false:=by
      unfold Ry at hc;cases i:(lT body K H x).cont with
      |none=>rw[DT.cont_none i]at h0;cases h0
      |some b=>rw[i]at hc;rw[<- DT.cont_s i h0];exact hc
     rw[DT.map_lf,DT.drop_lf h0 I]at g;simp only[Cw,Ap,Aq]at g;obtain⟨rfl,rfl⟩:=g;refine⟨1,λs hs=>hb _ _ _ _ _ hs G h0 λz u=>?_⟩;cases F<;>first|(cases I;done)|exact hk _ u.rem
   | go G hc h3 U=>
     rename_i x y';intro g;obtain⟨n,U⟩:=U g;have D:=(PX.n_ _ _).mp G;obtain⟨F,d0,h0⟩:=DT.ok_lf D.1;have I:F= .normal:=by
      unfold Ry at hc;cases i:(lT body K H x).cont with
      |none=>rw[DT.cont_none i]at h0;cases h0
      | some b=>
        rw[i]at hc;have:=DT.cont_s i h0;rw[show b.b=true from hc]at this;cases F<;>first|rfl|cases this
     subst I;refine⟨n+1,λs hs=>hb _ _ _ _ _ hs D.1 h0 λz u=>?_⟩;refine U z ?_;have q:=D.2;cases j:(lT body K H x).norm with
     |none=>have:=DT.norm_none j h0;cases this
     |fail=>rw[j]at q;exact q.elim
     | some m=>
       rw[j]at q;simp only at q;split at q
       ·rename_i hf;simp only[Aj]at hf;obtain⟨hf1,hf2⟩:=hf;have hm:ES m z:=DT.norm_s (C _) j h0 u;have O:=hm.keep live;have hch:d_ (wrX K H x).clean (EA live m):=(DT.norm_chg (C _) j).trans (ca live m);have hK':=Zj0 hf1 (hle x) hch O;obtain⟨y2,M⟩:=Option.isSome_iff_exists.mp hf2;have hnx:Rw live body K H x=y2:=(by unfold Rw;rw[j];simp only[M]);rw[hnx];exact fO O H hK' M
       exact q.elim
  obtain⟨n,A⟩:=L Z g;exact⟨n,A s h0⟩
 exact t.elim
theorem Zgu{live:List Nat}{n:Nat}{body:DS->DT}(b:∀d,(body d).All (d_ d.clean))(d:DS):(Rx live n body d).All (d_ d):=by
 unfold Rx;split
 ·exact DT.map_all (λst h=>(ca live d).trans h.rem) (b _)
 split
 ·trivial
 rename_i H K hd;obtain⟨Y,g⟩:=dC hd;split
 ·trivial
 split
 ·have i:d_ d K:=by
   have:=(qn (EA live d) Y).1;rw[g]at this;exact(ca live d).trans this
  exact DT.map_all (λst h=>(i.trans (ql H K _)).trans h.rem) (DT.drop_all (b _))
 trivial
theorem nR(d:DS)(c:T_)(t:Bool):d_ d (setc d c t):=by
 cases c with
 |t g=>exact cO d g t
 |c v=>exact d_.refl d
theorem pr{d:DS}{s:PS}{c:T_}{b:Bool}(hs:ES d s)(h:c.t7 s.sl= .fl (.bool b)):ES (setc d c b) s:=by
 cases c with
 |t g=>exact pf hs h
 |c v=>exact hs
mutual
theorem qf(n:Nat):∀(v:DV),v.enc.pge n=v.pge n
 |.nil q=>by cases q<;>rfl
 |.sl q r l=>by cases q<;>rfl
 |.ep q r l j o=>by cases q<;>rfl
 |.agg cs=>cW n cs
 |.f8 vs=>cW n vs
 |.any|.undef|.bool _|.int _ _|.str _|.ifc _|.box _ _|.ptr _ _=>rfl
theorem cW(n:Nat):∀(l:List DV),PV.pgeL n (DV.d8 l)=DV.pgeL n l
 |[]=>rfl
 |v::r=>by simp only[DV.d8,PV.pgeL,DV.pgeL,qf n v,cW n r]
end
theorem EL.clrP(n:Nat):∀ {a:List DC} {b:List PV},EL a b->EL (Y3 n a) (Go.Ag.clrP n b)
 |[],[],_=>trivial
 | c :: a,p::b,h=>by
   refine⟨?_,EL.clrP n h.2⟩;by_cases g:(c.v.isH||c.v.pge n)=true
   ·rw[Ad g];exact .inl rfl
   rw[Ae g];rcases h.1 with h1|h1
   ·exact .inl h1
   rw[h1,eA,qf,Ae g];exact .inr rfl
theorem EB.take:∀(n:Nat) {a:List (List DC)} {b:List (List PV)},EB a b->EB (a.take n) (b.take n)
 |0,_,_,_=>trivial
 |n+1,[],[],_=>trivial
 |n+1,_::_,_::_,h=>⟨h.1,EB.take n h.2⟩
theorem ES.trunc{d:DS}{s:PS}(n:Nat)(h:ES d s):ES (d.trunc n) (s.trunc n):=⟨h.sl.clrP n,h.bx,h.hp.take n⟩
theorem Chg.clrP(n:Nat):∀(l:List DC),Chg l (Y3 n l)
 |[]=>trivial
 | c::r=>by
   refine⟨?_,Chg.clrP n r⟩;by_cases b:(c.v.isH||c.v.pge n)=true
   ·rw[Ad b];exact .inl rfl
   rw[Ae b];exact .inr rfl
theorem i_.take:∀(n:Nat) {a b:List (List DC)},i_ a b->i_ a (b.take n)
 |0,a,b,_=>by cases a<;>trivial
 |n+1,a,[],_=>by cases a<;>trivial
 |n+1,[],_::_,h=>⟨h.1,i_.take n h.2⟩
 |n+1,_::_,_::_,h=>⟨h.1,i_.take n h.2⟩
theorem d_.trunc{d b:DS}(n:Nat)(h:d_ d b):d_ d (b.trunc n):=⟨h.sl.trans (Chg.clrP n _),h.bx,h.hp.take n⟩
theorem H7:∀(c:d5) (d:DS),(dev c d).All (d_ d)
 |.skip,d=>d_.refl d
 |.region ops,d=>df ops d (d_.refl d)
 | .regionU ops,d=>by
   simp only[dev];split
   ·exact df ops d (d_.refl d)
   trivial
 | .seq l a b,d=>by
   refine DT.then_all (H7 a d.clean) (λst h=>?_) (λst h=>h.rem);have h1:d_ d (NL d (Y7 l st)):=(h.trans (Zf2 l st)).rem;exact DT.All.imp (λ_ g=>h1.trans g) (H7 b _)
 | .cond c a b,d=>by
   simp only[dev];cases j:c.dev d.sl with
   | bool t=>
     cases t with
     |lit t=>cases t<;>first|exact H7 a d|exact H7 b d
     |dyn t=>exact⟨DT.All.imp (λ_ h=>(nR d c true).trans h) (H7 a _),DT.All.imp (λ_ h=>(nR d c false).trans h) (H7 b _)⟩
   |_=>trivial
 |.block i a,d=>DT.unexit_all i (H7 a d)
 |.scope a,d=>DT.map_all (λst h=>h.trunc d.hp.length) (H7 a d)
 |.loop live n a,d=>Zgu (λd=>H7 a d.clean) d
 |.exit i,d=>d_.refl d
 |.ret,d=>d_.refl d
theorem HB:∀(c:d5),AllD c.t_->∀ {d y:DS} {s:PS} {e:AExit} {k:GN},ES d s->(dev c d).ok.den->(dev c d).lf=some (e,y)->(∀z,ES y z->k e z)->GR c.er k s
 | .skip,_,d,y,s,e,k,hs,q,g,u=>by
   simp only[dev,DT.lf,Ap,Aq]at g;obtain⟨rfl,rfl⟩:=g;exact u s hs
 | .region ops,ho,d,y,s,e,k,hs,q,g,u=>by
   have D:=rj ops g;subst D;exact fo ops ho rfl u d s hs q g
 | .regionU ops,ho,d,y,s,e,k,hs,q,g,u=>by
   simp only[dev]at q g;split at q
   ·rename_i hp;rw[Ad hp]at g;have D:=rj ops g;subst D;exact⟨hp,fo ops ho rfl u d s hs q g⟩
   exact q.elim
 | .seq l a b,ho,d,y,s,e,k,hs,q,g,u=>by
   obtain⟨h1,G⟩:=ho.app;obtain⟨C,F⟩:=DT.then_s (H7 a d.clean) q g;simp only[d5.er,GR];rcases F with⟨I,m,A,hm,R,J,L⟩|⟨D,I,A,rfl⟩
   ·refine HB a h1 hs.clean C A λz x=>?_;exact HB b G (((hm z x).trim l).rem) J L u
   refine HB a h1 hs.clean C A λz x=>?_;cases e<;>first|(cases D;done)|exact u z x.rem
 | .cond c a b,ho,d,y,s,e,k,hs,q,g,u=>by
   obtain⟨h1,G⟩:=ho.app;have O:=c.dev_ev hs;simp only[dev]at q g;simp only[d5.er,GR];cases F:c.dev d.sl with
   | bool t=>
     rw[F]at q g O;have hp:=O.of (by simp);simp only[DV.enc]at hp;rw[hp];simp only;cases t with
     | lit t=>
       cases t with
       |true=>exact HB a h1 hs q g u
       |false=>exact HB b G hs q g u
     | dyn t=>
       have q:=(PX.if_den _ _ _).mp q;cases t with
       |true=>exact HB a h1 (pr hs hp) (q.1 rfl) g u
       |false=>exact HB b G (pr hs hp) (q.2 rfl) g u
   |_=>rw[F]at q;exact q.elim
 | .block i a,ho,d,y,s,e,k,hs,q,g,u=>by
   simp only[dev,DT.unexit_ok,DT.unexit_lf]at q g;obtain⟨N,U,h0⟩:=DT.ok_lf q;rw[h0]at g;simp only[Cw,Ap,Aq]at g;obtain⟨rfl,rfl⟩:=g;refine HB a ho hs q h0 λz x=>?_;have:=u z x;cases N with
   |normal=>exact this
   |ret=>exact this
   | exit j=>
     simp only[dK];simp only[AExit.un]at this;split
     ·rename_i M;rw[Ad M]at this;exact this
     rename_i M;rw[Ae M]at this;exact this
 | .scope a,ho,d,y,s,e,k,hs,q,g,u=>by
   simp only[dev,DT.map_ok,DT.map_lf]at q g;obtain⟨N,U,h0⟩:=DT.ok_lf q;rw[h0]at g;simp only[Cw,Ap,Aq]at g;obtain⟨rfl,rfl⟩:=g;refine HB a ho hs q h0 λz x=>?_;show k N (z.trunc s.hp.length);rw[<- hs.hp.len];exact u _ (x.trunc _)
 | .loop live n a,ho,d,y,s,e,k,hs,q,g,u=>by
   simp only[dev]at q g;exact ZiK (λd=>H7 a d.clean) (λd s e y k hs q g u=>HB a ho hs.clean q g u) hs q g u
 | .exit i,_,d,y,s,e,k,hs,q,g,u=>by
   simp only[dev,DT.lf,Ap,Aq]at g;obtain⟨rfl,rfl⟩:=g;exact u s hs
 | .ret,_,d,y,s,e,k,hs,q,g,u=>by
   simp only[dev,DT.lf,Ap,Aq]at g;obtain⟨rfl,rfl⟩:=g;exact u s hs
mutual
def DV.flt:DV->Bool
 |.bool _|.int _ _|.str _|.ifc _=>true|.agg cs=>DV.fltL cs|.f8 vs=>DV.fltL vs|_=>false
def DV.fltL:List DV->Bool
 |[]=>true|v::r=>v.flt&&DV.fltL r
end
mutual
theorem dJ:∀(v:DV),v.flt=true->v.enc.flt=true
 |.bool _,_|.int _ _,_|.str _,_|.ifc _,_=>rfl
 |.agg cs,h=>cw cs h
 |.f8 cs,h=>cw cs h
theorem cw:∀(l:List DV),DV.fltL l=true->PV.fltL (DV.d8 l)=true
 |[],_=>rfl
 | v::r,h=>by
   simp only[DV.fltL,Aj]at h;simp only[DV.d8,PV.fltL,dJ v h.1,cw r h.2,DJ]
end
theorem di:∀(l:List DV),Kl l=true->DV.okL l=true
 |[],_=>rfl
 | v::r,h=>by
   simp only[Kl,Aj]at h;have:v.ok=true:=(by cases v<;>first|rfl|(have:=h.1;cases this));simp only[DV.okL,this,di r h.2,DJ]
theorem EBx.segm2{a:List DC}{b:List PV}{o n:Nat}(h:EBx a b)(g:o+n<=a.length)(i:DV.okL (Cp (Ct a) o n)=true):Go.Ag.s_ b o n=DV.d8 (Cp (Ct a) o n)/\o+n<=b.length:=by
 rcases h with rfl|h
 ·simp only[A7,Nat.le_zero_eq,Nat.add_eq_zero_iff]at g;obtain⟨rfl,rfl⟩:=g;refine⟨?_,Ec _⟩;cases b<;>rfl
 exact⟨h.s_ o n i,by rw[<- h.len];exact g⟩
theorem cy{st f4:DS}{s:PS}{r:ARes}{v:DV}(hs:ES st s)(h:L6 st r=some (v,f4))(q:v.ok=true):∃j,Kb s r=some (v.enc,j)/\ES f4 j:=by
 cases r with
 | tmp t=>
   simp only[L6]at h;split at h
   ·rename_i b;simp only[Aj]at b;simp only[Ap]at h;have I:(Bx (.t t) st).1.ok=true:=by
     have:(Bx (.t t) st).1=v:=(by simp only[Bx,h]);rw[this];exact q
    obtain⟨F,D⟩:=Fz (.t t) hs I;have J:Bu st.sl t≠.any:=(by intro e;rw[e]at b;cases b.2);have hp:=(hs.sl.get t).of J;simp only[Bx,h,f']at F D;refine⟨(Gm (Aa s.sl t) t s).2,?_,D⟩;simp only[Kb];rw[Ad (by rw[hp];exact mF _ b.1),<- F]
   cases h
 | cell t n=>
   simp only[L6]at h;have hp:=hs.sl.get t;cases q:Bu st.sl t with
   | box i o=>
     rw[q]at h hp;have hp:=hp.of (by simp);simp only at h;split at h
     ·rename_i b;simp only[Aj]at b;simp only[Ch]at h;obtain⟨⟨g,r⟩,h1,u⟩:=h;simp only at u;subst u;obtain⟨C,A⟩:=(hs.bx.get i).segm2 (Dp b.1) (di _ b.2);have x:g= .tt:=by
       unfold Nl at h1;simp only[AX]at h1;split at h1
       ·simp only[Ch,Aq]at h1;obtain⟨_,_,rfl,_⟩:=h1;rfl
       cases h1
      subst x;obtain⟨j,z,y⟩:=aT (p:=.box i o) hs (.inr rfl) h1;refine⟨j,?_,y⟩;simp only[Kb,hp,DV.enc];rw[Ad ⟨A,by rw[C];exact XF _ b.2⟩];exact z
     cases h
   | ptr i o=>
     rw[q]at h hp;have hp:=hp.of (by simp);simp only at h;split at h
     ·rename_i b;simp only[Aj]at b;simp only[Ch]at h;obtain⟨⟨g,r⟩,h1,u⟩:=h;simp only at u;subst u;obtain⟨C,A⟩:=(hs.hp.get i).segm2 (Dp b.1) (di _ b.2);have x:g= .tt/\i<st.hp.length:=by
       unfold LY at h1;simp only[AX]at h1;split at h1
       ·rename_i G;simp only[Aj]at G;simp only[Ch,Aq]at h1;obtain⟨_,_,rfl,_⟩:=h1;exact⟨rfl,Dp G.1.1⟩
       cases h1
      obtain⟨rfl,hi⟩:=x;obtain⟨j,z,y⟩:=aS (p:=.ptr i o) hs (.inr rfl) h1 trivial;refine⟨j,?_,y⟩;simp only[Kb,hp,DV.enc];rw[Ad ⟨by rw[<- hs.hp.len];exact hi,A,by rw[C];exact XF _ b.2⟩];exact z
     cases h
   |_=>rw[q]at h;cases h
theorem cf:∀ {res:List ARes} {st f4:DS} {s:PS} {b:List DV},ES st s->Jo st res=some (b,f4)->DV.okL b=true->∃g,Jt s res=some (DV.d8 b,g)/\ES f4 g
 | [],st,f4,s,b,hs,h,_=>by
   simp only[Jo,Ap,Aq]at h;obtain⟨rfl,rfl⟩:=h;exact⟨s,rfl,hs⟩
 | r :: rs,st,f4,s,b,hs,h,hk=>by
   simp only[Jo]at h;split at h
   ·rename_i v st1 h1;split at h
    ·rename_i i j q;simp only[Ap,Aq]at h;obtain⟨rfl,rfl⟩:=h;simp only[DV.okL,Aj]at hk;obtain⟨z,y,x⟩:=cy hs h1 hk.1;obtain⟨n,u,t⟩:=cf x q hk.2;exact⟨n,by simp only[Jt,y,u,DV.d8],t⟩
    cases h
   cases h
theorem px:∀ {res:List ARes} {st:DS} {s:PS} {v:DV},ES st s->HC st res=some v->v.ok=true->∃b,Mg s res=some (v.enc,b):=by
 have i:∀ {res:List ARes} {st:DS} {s:PS} {v:DV},ES st s->v.ok=true->(Jo st res).map (λx=>DV.f8 x.1)=some v->∃b,(Jt s res).map (λ(q,st)=>(PV.f8 q,st))=some (v.enc,b):=λhs g h=>by
  simp only[Ch]at h;obtain⟨⟨q,f4⟩,h1,rfl⟩:=h;obtain⟨b,n,_⟩:=cf hs h1 g;exact⟨b,by rw[n];rfl⟩
 intro res st s v hs h g;cases res with
 |nil=>exact i (res:=[]) hs g h
 | cons r j=>
   cases j with
   | nil=>
     simp only[HC,Ch]at h;obtain⟨⟨v',f4⟩,h1,rfl⟩:=h;obtain⟨b,n,_⟩:=cy hs h1 g;exact⟨b,n⟩
   |cons r2 j=>exact i (res:=r::r2::j) hs g h
theorem Rq {res:List ARes}:∀ {t:DT} {g:PX} {v:DV},t.val res=(g,some v)->v≠.any->g.den ->
 t.ok.den/\∃e st n,t.lf=some (e,st)/\(∀i,e≠.exit i)/\HC st res=some n/\n.ok=true/\v.enc=n.enc
 | .leaf e st,g,v,h,hv,j=>by
   have L:(match HC st res with|some v=>if (v.ok&&!v.q_)=true then (PX.tt,some v)else (PX.ff,none)|none=>(PX.ff,none))=(g,some v)->HC st res=some v/\v.ok=true:=λh=>by
    split at h
    ·split at h
     ·rename_i h1 q;simp only[Aq,Ap]at h;obtain⟨_,rfl⟩:=h;simp only[Aj]at q;exact⟨h1,q.1⟩
     simp at h
    simp at h
   cases e with
   |exit i=>simp[DT.val]at h
   |normal=>obtain⟨h1,q⟩:=L h;exact⟨trivial,.normal,st,v,rfl,by simp,h1,q,rfl⟩
   |ret=>obtain⟨h1,q⟩:=L h;exact⟨trivial,.ret,st,v,rfl,by simp,h1,q,rfl⟩
 | .node c a b,g,v,h,hv,j=>by
   simp only[DT.val]at h;have J:∀ {t:DT} {g:PX},t.val res=(g,none)->¬g.den:=by
    intro t;induction t with
    | leaf e st=>
      intro g h;cases e<;>simp only[DT.val]at h<;>(repeat' split at h)<;>simp only[Aq,reduceCtorEq,and_false,Ib]at h<;>subst h<;>exact id
    | node c x y ih1 ih2=>
      intro g h j;simp only[DT.val]at h;cases h1:x.val res with
      | mk g1 s=>
        cases q:y.val res with
        | mk g2 u=>
          rw[h1,q]at h;cases s with
          | none=>
            simp only[Aq]at h;obtain⟨rfl,rfl⟩:=h;have:=(PX.if_den _ _ _).mp j;cases c with
            |true=>exact ih1 h1 (this.1 rfl)
            |false=>exact ih2 q (this.2 rfl)
          |some s=>cases u<;>simp at h
    | chk g0 t ih=>
      intro g h j;simp only[DT.val]at h;cases h1:t.val res with
      | mk g1 s=>
        rw[h1]at h;simp only[Aq]at h;obtain⟨rfl,rfl⟩:=h;exact ih h1 ((PX.n_ _ _).mp j).2
    | bad=>
      intro g h;simp only[DT.val,Aq,Ib]at h;subst h;exact id
   cases h1:a.val res with
   | mk g1 s=>
     cases q:b.val res with
     | mk g2 u=>
       rw[h1,q]at h;have O:∀(s u:DV),g=PX.if' c g1 g2->a.val res=(g1,some s)->b.val res=(g2,some u)->v=DK c s u->(DT.node c a b).ok.den/\∃e st n,(DT.node c a b).lf=some (e,st)/\(∀i,e≠.exit i)/\HC st res=some n/\n.ok=true/\v.enc=n.enc:=by
        intro s u M h1 q C;subst M;have j:=(PX.if_den _ _ _).mp j;have N:=(YU c s u).resolve_left (by rw[<- C];exact hv);rw[<- C]at N;have U:s≠.any:=(by rintro rfl;apply hv;rw[C];cases u<;>rfl);have R:u≠.any:=(by rintro rfl;apply hv;rw[C];cases s<;>rfl);show (PX.if' c a.ok b.ok).den/\∃e st n,(DT.node c a b).lf=some (e,st)/\(∀i,e≠.exit i)/\HC st res=some n/\n.ok=true/\v.enc=n.enc;rw[PX.if_den];cases c with
        | true=>
          obtain⟨A,e,st,n,z,I,G,F,D⟩:=Rq h1 U (j.1 rfl);exact⟨⟨λ_=>A,λh=>by cases h⟩,e,st,n,z,I,G,F,by rw[N];exact D⟩
        | false=>
          obtain⟨A,e,st,n,z,I,G,F,D⟩:=Rq q R (j.2 rfl);exact⟨⟨λh=>(by cases h),λ_=>A⟩,e,st,n,z,I,G,F,by rw[N];exact D⟩
       cases s with
       | none=>
         simp only[Aq]at h;obtain⟨rfl,rfl⟩:=h;have j:=(PX.if_den _ _ _).mp j;show (PX.if' c a.ok b.ok).den/\_;rw[PX.if_den];cases c with
         |true=>exact absurd (j.1 rfl) (J h1)
         | false=>
           obtain⟨A,e,st,n,z,I,G,F,D⟩:=Rq q hv (j.2 rfl);exact⟨⟨λh=>(by cases h),λ_=>A⟩,e,st,n,z,I,G,F,D⟩
       | some s=>
         cases u with
         | none=>
           simp only[Aq,Ap]at h;obtain⟨rfl,rfl⟩:=h;have j:=(PX.if_den _ _ _).mp j;show (PX.if' c a.ok b.ok).den/\_;rw[PX.if_den];cases c with
           |false=>exact absurd (j.2 rfl) (J q)
           | true=>
             obtain⟨A,e,st,n,z,I,G,F,D⟩:=Rq h1 hv (j.1 rfl);exact⟨⟨λ_=>A,λh=>by cases h⟩,e,st,n,z,I,G,F,D⟩
         | some u=>
           simp only[Aq,Ap]at h;exact O s u h.1.symm h1 q h.2.symm
 | .chk g0 t,g,v,h,hv,j=>by
   simp only[DT.val]at h;cases h1:t.val res with
   | mk g1 s=>
     rw[h1]at h;simp only[Aq]at h;obtain⟨rfl,rfl⟩:=h;have j:=(PX.n_ _ _).mp j;obtain⟨A,z⟩:=Rq h1 hv j.2;exact⟨(PX.n_ _ _).mpr ⟨j.1,A⟩,z⟩
 |.bad,g,v,h,hv,j=>by simp[DT.val]at h
theorem EL.append:∀ {a:List DC} {b:List PV} {c:List DC} {d:List PV},EL a b->EL c d->EL (a++c) (b++d)
 |[],[],_,_,_,h=>h
 |_::_,_::_,_,_,h,h'=>⟨h.1,EL.append h.2 h'⟩
theorem X4:∀(n:Nat),EL (Kd n) (JH n)
 |0=>trivial
 |n+1=>⟨.inl rfl,X4 n⟩
theorem Ya:∀(n:Nat),EB (Kc n) (Mf n)
 |0=>trivial
 |n+1=>⟨.inl rfl,Ya n⟩
theorem Ze5 {f:DFun} (x:AllD f.body.t_) {args:List DV} {g:PX} {v:DV} (h:UW f args=(g,some v)) (z:g.den) (u:v≠.any) (y:args.length=f.nparams) (hp:f.pure=true->v.flt=true)
 {Q:PV->List (List PV)->Prop} (q:∀H,Q v.enc H):Jv f.er (DV.d8 args) [] Q:=by
 unfold UW at h;obtain⟨G,e,st,I,h1,F,D,C,A⟩:=Rq h u z;refine⟨by rw[F1];exact y,λ_=>rfl,?_⟩;refine HB f.body x (d:=⟨news args++Kd (f.nslots-f.nparams),Kc f.nbox,[]⟩) ⟨(EL.news args).append (X4 _),Ya _,trivial⟩ G h1 λt j=>?_;obtain⟨J,s⟩:=px j D C;rw[<- A]at s;have b:(match Mg t f.res with|some (v,st)=>if f.pure=true then v.flt=true/\Q v []else Q v st.hp|none=>False):=by
  rw[s];simp only;split
  ·rename_i n;exact⟨dJ v (hp n),q _⟩
  exact q _
 cases e with
 |normal=>exact b
 |ret=>exact b
 |exit i=>exact absurd rfl (F i)
def TuX:List HT->Type
 |[]=>Unit|[a]=>a.D|a::r=>a.D×TuX r
def Iy:(l:List HT)->List DV->Option (TuX l)
 |[],[]=>some ()|[a],[v]=>a.of v| a::b::r,v::vs=>(match a.of v,Iy (b::r) vs with
   |some x,some y=>some (x,y)
   |_,_=>none)
 |_,_=>none
def ED:(l:List HT)->TuX l->List DV
 |[],_=>[]|[a],x=>[a.dv x]|a::b::r,x=>a.dv x.1::ED (b::r) x.2
inductive QT where
 |one (h:HT)|f8 (l:List HT)
def QT.D:QT->Type
 |.one h=>h.D|.f8 l=>TuX l
def QT.of:(q:QT)->DV->Option q.D
 |.one h,v=>h.of v|.f8 l,.f8 vs=>Iy l vs|.f8 _,_=>none
def QT.dv:(q:QT)->q.D->DV
 |.one h,x=>h.dv x|.f8 l,x=>.f8 (ED l x)
def QT.ofO(q:QT):Option DV->Option q.D
 |some v=>q.of v|none=>none
def e9:(l:List (Ql×CT))->AgX l
 |[]=>()|[a]=>a.2.dflt|a::b::r=>(a.2.dflt,e9 (b::r))
def HT.dflt:(h:HT)->h.D
 |.one _ t=>t.dflt|.agg l=>e9 l
def qq:(l:List HT)->TuX l
 |[]=>()|[a]=>a.dflt|a::b::r=>(a.dflt,qq (b::r))
def QT.dflt:(q:QT)->q.D
 |.one h=>h.dflt|.f8 l=>qq l
def HT.flt:HT->Bool
 |.one _ t=>t.flat|.agg l=>l.all λa=>a.2.flat
def QT.flt:QT->Bool
 |.one h=>h.flt|.f8 l=>l.all HT.flt
theorem Y0:∀ {l:List HT} {g:List DV} {x:TuX l},Iy l g=some x->DV.d8 (ED l x)=DV.d8 g
 |[],[],_,_=>rfl
 | [a],[v],x,h=>by
   show [(a.dv x).enc]=[v.enc];rw[(Ut (t:=a) h).1]
 | a :: b::r,v::g,x,h=>by
   have h':(match a.of v,Iy (b::r) g with|some x,some y=>some (x,y)|_,_=>none)=some x:=h;clear h;cases h1:a.of v with
   |none=>rw[h1]at h';cases h'
   | some p=>
     cases i:Iy (b::r) g with
     |none=>rw[h1,i]at h';cases h'
     | some q=>
       rw[h1,i]at h';have h':=Di h';subst h';show (a.dv p).enc::DV.d8 (ED (b::r) q)=v.enc::DV.d8 g;rw[(Ut h1).1,Y0 i]
theorem fV{q:QT}{v:DV}{x:q.D}(h:q.of v=some x):(q.dv x).enc=v.enc/\v≠.any:=by
 cases q with
 |one t=>exact Ut (t:=t) h
 | f8 l=>
   cases v<;>try (cases h;done)
   rename_i cs;refine⟨?_,by simp⟩;show PV.f8 _=PV.f8 _;rw[Y0 (l:=l) h]
theorem Tv:∀(l:List HT) (x:TuX l),(ED l x).length=l.length
 |[],_=>rfl
 |[_],_=>rfl
 | a::b::r,x=>by
   show (ED (b::r) x.2).length+1=(b::r).length+1;rw[Tv (b::r) x.2]
theorem eH{q:Ql}{t:CT}{v:DV}{x:t.D}(b:t.flat=true)(h:t.ofQ q v=some x):v.flt=true:=by
 cases t<;>first|(cases b;done)|skip
 all_goals (cases v<;>first|rfl|(cases h;done))
theorem qV:∀ {l:List (Ql×CT)} {g:List DV} {x:AgX l},l.all (λa=>a.2.flat)=true->Ix l g=some x->DV.fltL g=true
 |[],[],_,_,_=>rfl
 | [a],[v],x,hf,h=>by
   simp only[F7,YC,Mb]at hf;simp only[DV.fltL,eH (q:=a.1) hf h,DJ]
 | a :: b::r,v::g,x,hf,h=>by
   have h':(match a.2.ofQ a.1 v,Ix (b::r) g with|some x,some y=>some (x,y)|_,_=>none)=some x:=h;clear h;rw[F7,Aj]at hf;cases h1:a.2.ofQ a.1 v with
   |none=>rw[h1]at h';cases h'
   | some p=>
     cases i:Ix (b::r) g with
     |none=>rw[h1,i]at h';cases h'
     |some q=>simp only[DV.fltL,eH hf.1 h1,qV hf.2 i,DJ]
theorem e7{t:HT}{v:DV}{x:t.D}(b:t.flt=true)(h:t.of v=some x):v.flt=true:=by
 cases t with
 |one q t=>exact eH (q:=q) (t:=t) b h
 | agg l=>
   cases v<;>try (cases h;done)
   exact qV (l:=l) b h
theorem ru:∀ {l:List HT} {g:List DV} {x:TuX l},l.all HT.flt=true->Iy l g=some x->DV.fltL g=true
 |[],[],_,_,_=>rfl
 | [a],[v],x,hf,h=>by
   simp only[F7,YC,Mb]at hf;simp only[DV.fltL,e7 (t:=a) hf h,DJ]
 | a :: b::r,v::g,x,hf,h=>by
   have h':(match a.of v,Iy (b::r) g with|some x,some y=>some (x,y)|_,_=>none)=some x:=h;clear h;rw[F7,Aj]at hf;cases h1:a.of v with
   |none=>rw[h1]at h';cases h'
   | some p=>
     cases i:Iy (b::r) g with
     |none=>rw[h1,i]at h';cases h'
     |some q=>simp only[DV.fltL,e7 hf.1 h1,ru hf.2 i,DJ]
theorem qU{q:QT}{v:DV}{x:q.D}(b:q.flt=true)(h:q.of v=some x):v.flt=true:=by
 cases q with
 |one t=>exact e7 (t:=t) b h
 | f8 l=>
   cases v<;>try (cases h;done)
   exact ru (l:=l) b h
def eY(hs:List HT)(q:QT)(b:TuX hs->Prop)(v:TuX hs->q.D):NG:=λargs=>match Iy hs args with
 |some x=>some (.p (b x),q.dv (v x))|none=>none
def DT.valQ(q:QT)(res:List ARes):DT->PX×Option q.D
 |.leaf (.exit _) _=>(.ff,none)| .leaf _ st=>(match HC st res with
   | some v=>if v.ok&&!v.q_ then (match q.of v with
     |some y=>(.tt,some y)
     |none=>(.ff,none))else (.ff,none)
   |none=>(.ff,none))
 | .node c a b=>(match a.valQ q res,b.valQ q res with
   |(g,none),(g',y)=>(PX.if' c g g',y)
   |(g,x),(g',none)=>(PX.if' c g g',x)
   |(g,some x),(g',some y)=>(PX.if' c g g',some (Z' c x y)))
 | .chk g t=>(match t.valQ q res with
   |(g',v)=>(g.land g',v))
 |.bad=>(.ff,none)
theorem To{q:QT}{res:List ARes}:∀ {t:DT} {g:PX},t.valQ q res=(g,none)->¬g.den
 | .leaf e st,g,h=>by
   cases e<;>simp only[DT.valQ]at h<;>(repeat' split at h)<;>simp only[Aq,reduceCtorEq,and_false,Ib]at h<;>subst h<;>exact id
 | .node c x y,g,h=>by
   intro i;simp only[DT.valQ]at h;cases h1:x.valQ q res with
   | mk g1 b=>
     cases j:y.valQ q res with
     | mk g2 v2=>
       rw[h1,j]at h;cases b with
       | none=>
         simp only[Aq]at h;obtain⟨rfl,rfl⟩:=h;have:=(PX.if_den _ _ _).mp i;cases c with
         |true=>exact To h1 (this.1 rfl)
         |false=>exact To j (this.2 rfl)
       |some b=>cases v2<;>simp at h
 | .chk g0 t,g,h=>by
   intro i;simp only[DT.valQ]at h;cases h1:t.valQ q res with
   | mk g1 b=>
     rw[h1]at h;simp only[Aq]at h;obtain⟨rfl,rfl⟩:=h;exact To h1 ((PX.n_ _ _).mp i).2
 | .bad,g,h=>by
   simp only[DT.valQ,Aq,Ib]at h;subst h;exact id
theorem Yy{q:QT}{res:List ARes}:∀ {t:DT} {g:PX} {y:q.D},t.valQ q res=(g,some y)->g.den ->
 t.ok.den/\∃e st n,t.lf=some (e,st)/\(∀i,e≠.exit i)/\HC st res=some n/\n.ok=true/\q.of n=some y
 | .leaf e st,g,y,h,j=>by
   have C:(match HC st res with|some v=>if (v.ok&&!v.q_)=true then (match q.of v with|some y=>(PX.tt,some y)|none=>(PX.ff,none))else (PX.ff,none)|none=>(PX.ff,none))=(g,some y)->∃v,HC st res=some v/\v.ok=true/\q.of v=some y:=λh=>by
    split at h
    ·rename_i v L;split at h
     ·rename_i I;simp only[Aj]at I;split at h
      ·rename_i M J;simp only[Aq,Ap]at h;obtain⟨_,rfl⟩:=h;exact⟨v,L,I.1,J⟩
      simp at h
     simp at h
    simp at h
   cases e with
   |exit i=>simp[DT.valQ]at h
   |normal=>obtain⟨v,h1,s,G⟩:=C h;exact⟨trivial,.normal,st,v,rfl,by simp,h1,s,G⟩
   |ret=>obtain⟨v,h1,s,G⟩:=C h;exact⟨trivial,.ret,st,v,rfl,by simp,h1,s,G⟩
 | .node c a b,g,y,h,j=>by
   simp only[DT.valQ]at h;show (PX.if' c a.ok b.ok).den/\∃e st n,(DT.node c a b).lf=some (e,st)/\(∀i,e≠.exit i)/\HC st res=some n/\n.ok=true/\q.of n=some y;rw[PX.if_den];cases h1:a.valQ q res with
   | mk g1 u=>
     cases s:b.valQ q res with
     | mk g2 x=>
       rw[h1,s]at h;have F:g=PX.if' c g1 g2:=by
        cases u<;>cases x<;>simp only[Aq]at h<;>exact h.1.symm
       subst F;have j:=(PX.if_den _ _ _).mp j;cases c with
       | true=>
         have:u=some y:=by
          cases u with
          |none=>exact absurd (j.1 rfl) (To h1)
          |some u=>cases x<;>simp only[Aq,CK]at h<;>exact h.2
         subst this;obtain⟨A,z⟩:=Yy h1 (j.1 rfl);exact⟨⟨λ_=>A,λh=>by cases h⟩,z⟩
       | false=>
         have:x=some y:=by
          cases x with
          |none=>exact absurd (j.2 rfl) (To s)
          |some x=>cases u<;>simp only[Aq,CD]at h<;>exact h.2
         subst this;obtain⟨A,z⟩:=Yy s (j.2 rfl);exact⟨⟨λh=>(by cases h),λ_=>A⟩,z⟩
 | .chk g0 t,g,y,h,j=>by
   simp only[DT.valQ]at h;cases h1:t.valQ q res with
   | mk g1 u=>
     rw[h1]at h;simp only[Aq]at h;obtain⟨rfl,rfl⟩:=h;have j:=(PX.n_ _ _).mp j;obtain⟨A,z⟩:=Yy h1 j.2;exact⟨(PX.n_ _ _).mpr ⟨j.1,A⟩,z⟩
 |.bad,g,y,h,j=>by simp[DT.valQ]at h
def QT.isB:QT->Bool
 |.one (.one _ .bool)=>true|_=>false
def U0(f:DFun)(hs:List HT)(q:QT)(x:TuX hs):PX×Option q.D:=
 if q.isB then ((UW f (ED hs x)).1,q.ofO (UW f (ED hs x)).2)
 else (dev f.body ⟨news (ED hs x)++Kd (f.nslots-f.nparams),Kc f.nbox,[]⟩).valQ q f.res
def Pz(f:DFun)(hs:List HT)(q:QT)(x:TuX hs):q.D:=(U0 f hs q x).2.getD q.dflt
def Ps(f:DFun)(hs:List HT)(q:QT)(x:TuX hs):Prop:=(U0 f hs q x).1.den
def RA(f:DFun)(hs:List HT)(q:QT)(x:TuX hs):Bool:=(U0 f hs q x).2.isSome
def RG(f:DFun)(hs:List HT)(q:QT):Bool:=hs.length == f.nparams&&(!f.pure||q.flt)
theorem oR {f:DFun} {hs:List HT} {q:QT} (D:AllD f.body.t_) (b:RG f hs q=true) (x:TuX hs) (n:RA f hs q x=true) (s:Ps f hs q x)
 {Q:PV->List (List PV)->Prop} (j:∀H,Q (q.dv (Pz f hs q x)).enc H):Jv f.er (DV.d8 (ED hs x)) [] Q:=by
 simp only[RG,Aj,Bb,Ce,Br]at b;unfold RA at n;unfold Pz at j;unfold Ps at s;unfold U0 at n j s;by_cases F:q.isB=true
 ·rw[Ad F]at n j s;cases hd:UW f (ED hs x)with
  | mk g o=>
    rw[hd]at n j s;cases o with
    |none=>cases n
    | some w=>
      obtain⟨y,t⟩:=Option.isSome_iff_exists.mp n;rw[t]at j;have t:q.of w=some y:=t;obtain⟨h1,G⟩:=fV t;refine Ze5 D hd s G (by rw[Tv];exact b.1) (λhp=>qU (by simpa [hp]using b.2) t) λH=>?_;have:=j H;rw[Jr,h1]at this;exact this
 rw[Ae F]at n j s;cases hd:(dev f.body ⟨news (ED hs x)++Kd (f.nslots-f.nparams),Kc f.nbox,[]⟩).valQ q f.res with
 | mk g o=>
   rw[hd]at n j s;cases o with
   |none=>cases n
   | some y=>
     simp only[Jr]at j;obtain⟨R,e,st,U,O,N,M,L,C⟩:=Yy hd s;obtain⟨h1,G⟩:=fV C;refine⟨by rw[F1,Tv];exact b.1,λ_=>rfl,?_⟩;refine HB f.body D (d:=⟨news (ED hs x)++Kd (f.nslots-f.nparams),Kc f.nbox,[]⟩) ⟨(EL.news _).append (X4 _),Ya _,trivial⟩ R O λJ z=>?_;obtain⟨Y,I⟩:=px z M L;rw[<- h1]at I;have u:(match Mg J f.res with|some (v,st)=>if f.pure=true then v.flt=true/\Q v []else Q v st.hp|none=>False):=by
      rw[I];simp only;split
      ·rename_i A;exact⟨by rw[h1];exact dJ _ (qU (by simpa [A]using b.2) C),j _⟩
      exact j _
     cases e with
     |normal=>exact u
     |ret=>exact u
     |exit i=>exact absurd rfl (N i)
theorem ZfB{f:DFun}{hs:List HT}{q:QT}(s:AllD f.body.t_)(i:RG f hs q=true)(u:∀x,RA f hs q x=true){j:TuX hs->Prop}{v:TuX hs->q.D}(z:∀x,j x->Ps f hs q x)(n:∀x,Pz f hs q x=v x):Ys (Jv f.er) (eY hs q j v):=by
 intro args g w Q h t y;unfold eY at h;cases b:Iy hs args with
 |none=>rw[b]at h;cases h
 | some x=>
   rw[b]at h;simp only[Ap,Aq]at h;obtain⟨rfl,rfl⟩:=h;rw[<- Y0 b];exact oR s i x (u x) (z x t) λH=>by rw[n];exact y H
attribute [irreducible] U0 Pz Ps RA RG
def HM:List (Ql×CT)->List (Ql×CT)
 |[]=>[]|(.Z_,_)::r=>HM r|a::r=>a::HM r
def JQ:List (Ql×CT)->List DV->List DV
 |[],_=>[]|(.Z_,_)::r,vs=>.any::JQ r vs|_::r,v::vs=>v::JQ r vs|_::r,[]=>.any::JQ r []
def Pg:List (Ql×CT)->List DC->Option (List DV)
 |[],[]=>some []|(.Z_,_)::r,c::l=>if c.d then none else Pg r l| _::r,c::l=>(match Pg r l with
   |some b=>some (c.v::b)
   |none=>none)
 |_,_=>none
def AN:List DV->List DC
 |[]=>[]|v::r=>⟨false,v⟩::AN r
def sj(st:DS):List ARes->Option (DV×DS)
 |[r]=>L6 st r| rs=>(match Jo st rs with
   |some x=>some (.f8 x.1,x.2)
   |none=>none)
def DT.valR{α:Type}(R:DS->Option α):DT->PX×Option α
 |.leaf (.exit _) _=>(.ff,none)| .leaf _ st=>(match R st with
   |some y=>(.tt,some y)
   |none=>(.ff,none))
 | .node c a b=>(match a.valR R,b.valR R with
   |(g,none),(g',y)=>(PX.if' c g g',y)
   |(g,x),(g',none)=>(PX.if' c g g',x)
   |(g,some x),(g',some y)=>(PX.if' c g g',some (Z' c x y)))
 | .chk g t=>(match t.valR R with
   |(g',v)=>(g.land g',v))
 |.bad=>(.ff,none)
theorem Ts{α:Type}{R:DS->Option α}:∀ {t:DT} {g:PX},t.valR R=(g,none)->¬g.den
 | .leaf e st,g,h=>by
   cases e<;>simp only[DT.valR]at h<;>(repeat' split at h)<;>simp only[Aq,reduceCtorEq,and_false,Ib]at h<;>subst h<;>exact id
 | .node c x y,g,h=>by
   intro i;simp only[DT.valR]at h;cases h1:x.valR R with
   | mk g1 b=>
     cases j:y.valR R with
     | mk g2 v2=>
       rw[h1,j]at h;cases b with
       | none=>
         simp only[Aq]at h;obtain⟨rfl,rfl⟩:=h;have:=(PX.if_den _ _ _).mp i;cases c with
         |true=>exact Ts h1 (this.1 rfl)
         |false=>exact Ts j (this.2 rfl)
       |some b=>cases v2<;>simp at h
 | .chk g0 t,g,h=>by
   intro i;simp only[DT.valR]at h;cases h1:t.valR R with
   | mk g1 b=>
     rw[h1]at h;simp only[Aq]at h;obtain⟨rfl,rfl⟩:=h;exact Ts h1 ((PX.n_ _ _).mp i).2
 | .bad,g,h=>by
   simp only[DT.valR,Aq,Ib]at h;subst h;exact id
theorem YE{α:Type}{R:DS->Option α}:∀ {t:DT} {g:PX} {y:α},t.valR R=(g,some y)->g.den ->
 t.ok.den/\∃e st,t.lf=some (e,st)/\(∀i,e≠.exit i)/\R st=some y
 | .leaf e st,g,y,h,j=>by
   have x:(match R st with|some y=>(PX.tt,some y)|none=>(PX.ff,none))=(g,some y)->R st=some y:=λh=>by
    split at h
    ·rename_i D C;simp only[Aq,Ap]at h;rw[C,h.2]
    simp at h
   cases e with
   |exit i=>simp[DT.valR]at h
   |normal=>exact⟨trivial,.normal,st,rfl,by simp,x h⟩
   |ret=>exact⟨trivial,.ret,st,rfl,by simp,x h⟩
 | .node c a b,g,y,h,j=>by
   simp only[DT.valR]at h;show (PX.if' c a.ok b.ok).den/\∃e st,(DT.node c a b).lf=some (e,st)/\(∀i,e≠.exit i)/\R st=some y;rw[PX.if_den];cases h1:a.valR R with
   | mk g1 n=>
     cases A:b.valR R with
     | mk g2 q=>
       rw[h1,A]at h;have z:g=PX.if' c g1 g2:=by
        cases n<;>cases q<;>simp only[Aq]at h<;>exact h.1.symm
       subst z;have j:=(PX.if_den _ _ _).mp j;cases c with
       | true=>
         have:n=some y:=by
          cases n with
          |none=>exact absurd (j.1 rfl) (Ts h1)
          |some n=>cases q<;>simp only[Aq,CK]at h<;>exact h.2
         subst this;obtain⟨u,s⟩:=YE h1 (j.1 rfl);exact⟨⟨λ_=>u,λh=>by cases h⟩,s⟩
       | false=>
         have:q=some y:=by
          cases q with
          |none=>exact absurd (j.2 rfl) (Ts A)
          |some q=>cases n<;>simp only[Aq,CD]at h<;>exact h.2
         subst this;obtain⟨u,s⟩:=YE A (j.2 rfl);exact⟨⟨λh=>(by cases h),λ_=>u⟩,s⟩
 | .chk g0 t,g,y,h,j=>by
   simp only[DT.valR]at h;cases h1:t.valR R with
   | mk g1 n=>
     rw[h1]at h;simp only[Aq]at h;obtain⟨rfl,rfl⟩:=h;have j:=(PX.n_ _ _).mp j;obtain⟨u,s⟩:=YE h1 j.2;exact⟨(PX.n_ _ _).mpr ⟨j.1,u⟩,s⟩
 |.bad,g,y,h,j=>by simp[DT.valR]at h
theorem YA{p:DS->Prop}:∀ {t:DT} {e:AExit} {st:DS},t.All p->t.lf=some (e,st)->p st
 | .leaf _ _,_,_,h,hl=>by
   simp only[DT.lf,Ap,Aq]at hl;obtain⟨_,rfl⟩:=hl;exact h
 | .node c a b,_,_,h,hl=>by
   simp only[DT.lf]at hl;cases c with
   |true=>exact YA h.1 hl
   |false=>exact YA h.2 hl
 |.chk _ t,_,_,h,hl=>YA (t:=t) h hl
 |.bad,_,_,_,hl=>by cases hl
theorem mj{st f4:DS}{r:ARes}{v:DV}(h:L6 st r=some (v,f4)):d_ st f4:=by
 cases r with
 | tmp t=>
   simp only[L6]at h;split at h
   ·simp only[Ap]at h;have:=d_.f' (.t t) st;simp only[Bx,h]at this;exact this
   cases h
 | cell t n=>
   simp only[L6]at h;split at h
   ·split at h
    ·simp only[Ch]at h;obtain⟨⟨g,r⟩,h1,b⟩:=h;simp only at b;subst b;exact bD h1
    cases h
   ·split at h
    ·simp only[Ch]at h;obtain⟨⟨g,r⟩,h1,b⟩:=h;simp only at b;subst b;exact bE h1
    cases h
   cases h
theorem lr:∀ {g:List ARes} {st f4:DS} {b:List DV},Jo st g=some (b,f4)->d_ st f4
 | [],st,f4,b,h=>by
   simp only[Jo,Ap,Aq]at h;rw[h.2];exact d_.refl _
 | r :: g,st,f4,b,h=>by
   simp only[Jo]at h;split at h
   ·rename_i v st1 h1;split at h
    ·rename_i i j n;simp only[Ap,Aq]at h;obtain⟨_,rfl⟩:=h;exact(mj h1).trans (lr n)
    cases h
   cases h
theorem Zjq{res:List ARes}{st f4:DS}{s:PS}{v:DV}(hs:ES st s)(h:sj st res=some (v,f4))(q:v.ok=true):(∃b,Mg s res=some (v.enc,b)/\ES f4 b)/\d_ st f4:=by
 have g:∀ {res:List ARes},(match Jo st res with|some x=>some (DV.f8 x.1,x.2)|none=>none)=some (v,f4)->(∃b,(Jt s res).map (λ(j,st)=>(PV.f8 j,st))=some (v.enc,b)/\ES f4 b)/\d_ st f4:=λ{res} h=>by
  split at h
  ·rename_i x n;obtain⟨j,st1⟩:=x;simp only[Ap,Aq]at h;obtain⟨rfl,rfl⟩:=h;obtain⟨b,u,t⟩:=cf hs n q;exact⟨⟨b,by rw[u];rfl,t⟩,lr n⟩
  cases h
 cases res with
 |nil=>exact g (res:=[]) h
 | cons r i=>
   cases i with
   |nil=>exact⟨cy hs h q,mj h⟩
   |cons r2 i=>exact g (res:=r::r2::i) h
theorem Xb:∀ {l:List (Ql×CT)} {i:List DV} {x:AgX l},Ix l i=some x->(∀v∈i,v≠.any)/\∀v∈De l x,v≠.any
 |[],[],_,_=>⟨by simp,by simp[De]⟩
 | [a],[v],x,h=>by
   obtain⟨h1,j⟩:=Ud (q:=a.1) (t:=a.2) h;refine⟨by simpa using j,λw g=>?_⟩;have g:w∈[a.2.dv a.1 x]:=g;rw[List.mem_singleton]at g;subst g;exact dv_known _ _ _
 | a :: b::r,v::i,x,h=>by
   have h':(match a.2.ofQ a.1 v,Ix (b::r) i with|some x,some y=>some (x,y)|_,_=>none)=some x:=h;clear h;cases h1:a.2.ofQ a.1 v with
   |none=>rw[h1]at h';cases h'
   | some p=>
     cases j:Ix (b::r) i with
     |none=>rw[h1,j]at h';cases h'
     | some q=>
       rw[h1,j]at h';have h':=Di h';subst h';obtain⟨s,n⟩:=Xb j;refine⟨λw g=>?_,λw g=>?_⟩
       ·rcases CE.mp g with rfl|g
        ·exact(Ud h1).2
        exact s w g
       have g:w∈a.2.dv a.1 p::De (b::r) q:=g;rcases CE.mp g with rfl|g
       ·exact dv_known _ _ _
       exact n w g
 where dv_known (q:Ql) (t:CT) (x:t.D):t.dv q x≠.any:=by cases t<;>simp[CT.dv]
theorem bq:∀(l:List (Ql×CT)) (x:AgX l),(∀v∈De l x,v≠.any)/\(De l x).length=l.length
 |[],_=>⟨by simp[De],rfl⟩
 |[a],x=>⟨λw g=>by
  have g:w∈[a.2.dv a.1 x]:=g;rw[List.mem_singleton]at g;subst g;exact Xb.dv_known _ _ _,rfl⟩
 | a :: b::r,x=>by
   obtain⟨h1,i⟩:=bq (b::r) x.2;refine⟨λw g=>?_,?_⟩
   ·have g:w∈a.2.dv a.1 x.1::De (b::r) x.2:=g;rcases CE.mp g with rfl|g
    ·exact Xb.dv_known _ _ _
    exact h1 w g
   show (De (b::r) x.2).length+1=(b::r).length+1;rw[i]
theorem cU:∀(cs:List (Ql×CT)) {Y_:List DV} {i:List DC} {p:List PV} {g w:List DV},EL i p->Chg (AN Y_) i->Pg cs i=some g->DV.d8 w=DV.d8 g->(∀v∈g,v≠.any)->(∀v∈w,v≠.any) ->
 Y_.length=cs.length->(∀v∈Y_,v≠.any)->p=DV.d8 (Gi Y_ (JQ cs w))
 | [],Y_,i,p,g,w,he,hc,hp,hw,n,hvw,hl,hb=>by
   have:Y_=[]:=Dq hl;subst this;cases i with
   | nil=>cases p with
     |nil=>rfl
     |cons=>exact he.elim
   |cons=>cases hp
 | (q, t)::r,Y_,i,p,g,w,he,hc,hp,hw,n,hvw,hl,hb=>by
   cases Y_ with
   |nil=>cases hl
   |cons z Y_=>
   cases i with
   |nil=>cases q<;>cases hp
   |cons c l=>
   cases p with
   |nil=>exact he.elim
   |cons x p=>
   have s:Y_.length=r.length:=(by simpa using hl);have y:∀v∈Y_,v≠.any:=λv n=>hb v (List.mem_cons_of_mem _ n);by_cases D:q= .Z_
   ·subst D;have hp:(if c.d then none else Pg r l)=some g:=hp;split at hp
    ·cases hp
    rename_i hd;have u:c=⟨false,z⟩:=hc.1.resolve_left hd;have A:x=z.enc:=by
     rcases he.1 with h|h
     ·rw[u]at h;exact absurd h (hb z (Hx ..))
     rw[h,u]
    show x::p=z.enc::DV.d8 (Gi Y_ (JQ r w));rw[A,cU r he.2 hc.2 hp hw n hvw s y]
   have b:(match Pg r l with|some g=>some (c.v::g)|none=>none)=some g:=by
    cases q<;>first|exact absurd rfl D|exact hp
   cases j:Pg r l with
   |none=>rw[j]at b;cases b
   | some vs1=>
     rw[j]at b;have b:=Di b;subst b;cases w with
     |nil=>cases hw
     |cons w0 w=>
     simp only[DV.d8,GJ]at hw;have A:x=w0.enc:=by
      rcases he.1 with h|h
      ·exact absurd h (n c.v (Hx ..))
      rw[h,hw.1]
     have C:w0.isAny=false:=by
      have:=hvw w0 (Hx ..);cases w0<;>first|rfl|exact absurd rfl this
     have e:JQ ((q,t)::r) (w0::w)=w0::JQ r w:=(by cases q<;>first|exact absurd rfl D|rfl);rw[e];simp only[Gi,C,AZ,A5,DV.d8];rw[A,cU r he.2 hc.2 j hw.2 (λv h=>n v (List.mem_cons_of_mem _ h)) (λv h=>hvw v (List.mem_cons_of_mem _ h)) s y]
theorem eG:∀(l:List DV),EL (AN l) (DV.d8 l)
 |[]=>trivial
 |_::r=>⟨.inr rfl,eG r⟩
open Go.RowKit Go.WideShapes Go.ChangeShapes
inductive Ty where
 |int (k:IntKind)|bool|str|sl (t:Ty)|unit|pair (a b:Ty)
def Ty.w:Ty->Nat
 |.int _|.bool|.str|.sl _=>1|.unit=>0|.pair a b=>a.w+b.w
def UX(P:Program)(f:TypeId->Option Ty):List Field->Nat->Option Ty
 |[],_=>some .unit| g::r,off=>
   match f g.type with
   |some a=>if g.offset=off/\a.w=P.cellsOf g.type then (match UX P f r (off+a.w)with|some b=>some (.pair a b)|none=>none)else none
   |none=>none
def Kw(P:Program):Nat->TypeId->Option Ty
 |0,_=>none| d+1,t=>
   match P.underlying t with
   |some (.int k)=>some (.int k)
   |some .bool=>some .bool
   |some .string=>some .str
   |some (.slice e)=>(match Kw P d e with|some b=>if b.w=P.cellsOf e/\0<b.w then some (.sl b)else none|none=>none)
   |some (.struct fs)=>(match UX P (Kw P d) fs.toList 0 with|some ty=>if ty.w=P.cellsOf t then some ty else none|none=>none)
   |_=>none
def Sh(σ:Ac):Ty->List V->Prop
 |.int k,cs=>∃n,cs=[.int k n]/\(Lit.int k n).wf=true|.bool,cs=>∃b,cs=[.bool b]|.str,cs=>∃s,cs=[.str s]/\s.length<=maxLen|.sl t,cs=>cs=[.X_]\/∃(l n:Nat) (g:List V),cs=[.slice l 0 n]/\σ[l]?=some ⟨.ro,t.w,g⟩/\g.length=n*t.w/\n<=maxLen/\∀i,i<n->Sh σ t ((g.drop (i*t.w)).take t.w)|.unit,cs=>cs=[]|.pair a b,cs=>∃q j,cs=q++j/\Sh σ a q/\Sh σ b j
theorem Sh.len{σ:Ac}:∀ {ty:Ty} {cs:List V},Sh σ ty cs->cs.length=ty.w
 |.int _,_,⟨_,h,_⟩=>by rw[h];rfl
 |.bool,_,⟨_,h⟩=>by rw[h];rfl
 |.str,_,⟨_,h,_⟩=>by rw[h];rfl
 |.sl _,_,h=>by rcases h with h|⟨_,_,_,h,_⟩<;>rw[h]<;>rfl
 |.unit,_,h=>by rw[h];rfl
 |.pair a b,_,⟨xs,ys,h,h1,h2⟩=>by rw[h,CM,h1.len,h2.len];rfl
theorem Sh.mono{σ e:Ac}:∀ {ty:Ty} {cs:List V},Sh σ ty cs->Sh (σ++e) ty cs
 |.int _,_,h=>h
 |.bool,_,h=>h
 |.str,_,h=>h
 | .sl _,_,h=>by
   rcases h with h|⟨l,n,q,h,h1,b,j,g⟩
   ·exact .inl h
   exact .inr ⟨l,n,q,h,by rw[Bp (BB h1)];exact h1,b,j,λi hi=>(g i hi).mono⟩
 |.unit,_,h=>h
 |.pair _ _,_,⟨xs,ys,h,h1,b⟩=>⟨xs,ys,h,h1.mono,b.mono⟩
def EW(σ:Ac):Prop:=∀(l:Nat) (b:Blk),σ[l]?=some b->b.k= .ro
def Um(ι:AL)(σ:Ac)(W:World)(ty:Ty)(cs:List Value):Prop:=∃ι' e vs,HRel ι' (σ++e) W/\Keeps ι σ ι' (σ++e)/\EW (σ++e)/\Sh (σ++e) ty vs/\vs.length=cs.length/\∀(i:Nat) v x,vs[i]?=some v->cs[i]?=some x->v.cell=true/\∀β,Rel ι' (σ++e) β v x
theorem HRel.lay{ι:AL}{σ:Ac}{W:World}(h:HRel ι σ W)(s:EW σ){b off c:Nat}{wd:Nat}{q:List V}(C:b<W.heap.size)(A:∀(i:Nat) v,q[i]?=some v->v.cell=true/\∃x,W.cell? ⟨b,off+i,none⟩=some x/\∀β,Rel ι σ β v x):HRel (upd ι σ.length ⟨b,off,c⟩) (σ++[⟨.ro,wd,q⟩]) W/\EW (σ++[⟨.ro,wd,q⟩]):=by
 have K:=Tj ι σ ⟨b,off,c⟩ ⟨.ro,wd,q⟩;have j:EW (σ++[⟨.ro,wd,q⟩]):=by
  intro l Y_ g;rcases GB g with⟨_,g⟩|⟨_,rfl⟩
  ·exact s l Y_ g
  rfl
 refine⟨⟨λl Y_ g n i v u=>?_,λl Y_ g n=>?_,λl l' Y_ F G g y n z=>?_,λl Y_ g n=>?_⟩,j⟩
 ·rcases GB g with⟨D,g⟩|⟨rfl,rfl⟩
  ·rw[DX _ _ _ _ (by omega)];obtain⟨a,x,t,c⟩:=h.cells l Y_ g n i v u;exact⟨a,x,t,λβ=>(c β).cellMono K a⟩
  rw[CR];obtain⟨a,x,t,c⟩:=A i v u;exact⟨a,x,t,λβ=>(c β).cellMono K a⟩
 ·have:=j l Y_ g;rw[n]at this;cases this
 ·have:=j l Y_ g;rw[n]at this;cases this
 rcases GB g with⟨D,g⟩|⟨rfl,rfl⟩
 ·rw[DX _ _ _ _ (by omega)];exact h.there l Y_ g n
 rw[CR];exact C
theorem ZcA{w:World}{a:Addr}{v:Value}(h:w.cell? a=some v):a.block<w.heap.size:=by
 unfold World.cell? at h;rcases Bz a.block w.heap.size with h1|h1
 ·exact h1
 rw[Array.getElem?_eq_none h1]at h;cases h
theorem Yv{α:Type}{l:List α}{i:Nat}{v:α}(h:l[i]?=some v):i<l.length:=by
 rcases Bz i l.length with h1|h1
 ·exact h1
 rw[BR h1]at h;cases h
section
variable {H:Type} {enc:TypeId×Value->H} {P:Program} {W:World}
theorem kR(d:Nat)(F:∀(t:TypeId)(ty:Ty),Kw P d t=some ty->∀(j:Nat)(cs:List Value) x,DataW.trod enc P W 0 (λ_=>true) true j t cs=some x->∀(ι:AL)(σ:Ac),HRel ι σ W->EW σ->Um ι σ W ty cs):∀(I:List Field) (off:Nat) (ty:Ty),UX P (Kw P d) I off=some ty->∀(j:Nat) (cs:List Value),(∀g∈I,∃x,DataW.trod enc P W 0 (λ_=>true) true j g.type ((cs.drop g.offset).take (P.cellsOf g.type))=some x) ->
   off+ty.w=cs.length->∀(ι:AL) (σ:Ac),HRel ι σ W->EW σ->Um ι σ W ty (cs.drop off)
 | [],off,ty,h,j,cs,_,hl,ι,σ,H,hro=>by
   simp only[UX,Ap]at h;subst h;simp only[Ty.w,Fg]at hl;have:cs.drop off=[]:=(by rw[hl];simp);rw[this];exact⟨ι,[],[],by simpa using H,by simpa using Keeps.refl ι σ,by simpa using hro,rfl,rfl,by simp⟩
 | g :: r, off,ty,h,j,cs,hg,hl,ι,σ,H,hro=>by
   simp only[UX]at h;split at h
   ·rename_i a U;split at h
    ·rename_i O;obtain⟨h1,h2⟩:=O;split at h
     ·rename_i b R;cases h;simp only[Ty.w]at hl;obtain⟨x,G⟩:=hg g (by simp);rw[h1]at G;obtain⟨ι1,J,n,H1,K1,R1,L,L1,C1⟩:=F g.type a U j _ x G ι σ H hro;obtain⟨ι2,Z,s,H2,M,R2,S2,L2,C2⟩:=kR d F r (off+a.w) b R j cs (λY D=>hg Y (by simp[D])) (by omega) ι1 (σ++J) H1 R1;refine⟨ι2,J++Z,n++s,by rw[<- Cj];exact H2,by rw[<- Cj];exact K1.trans M,by rw[<- Cj];exact R2,⟨n,s,rfl,by rw[<- Cj];exact L.mono,by rw[<- Cj];exact S2⟩,?_,λi v y z C=>?_⟩
      ·rw[CM,L1,L2];simp;omega
      have N:n.length=a.w:=L.len;by_cases hi:i<n.length
      ·rw[Bp hi]at z;have q:((cs.drop off).take (P.cellsOf g.type))[i]?=some y:=by
        rw[JC,Ad (by omega)];exact C
       obtain⟨u,A⟩:=C1 i v y z q;exact⟨u,λβ=>by rw[<- Cj];exact(A β).cellMono M u⟩
      rw[Dj (by omega)]at z;have q:(cs.drop (off+a.w))[i-n.length]?=some y:=by
       rw[L4]at C ⊢;have:off+a.w+(i-n.length)=off+i:=(by omega);rw[this];exact C
      obtain⟨u,A⟩:=C2 _ v y z q;exact⟨u,λβ=>by rw[<- Cj];exact A β⟩
     cases h
    cases h
   cases h
theorem pU{b o:Nat}(n:Nat):Addr.add ⟨b,o,none⟩ n=⟨b,o+n,none⟩:=by
 unfold Addr.add;split
 ·rename_i h;subst h;rfl
 rfl
theorem lA {d:Nat} (L:∀(t:TypeId) (ty:Ty),Kw P d t=some ty->∀(q:Nat) (cs:List Value) x,DataW.trod enc P W 0 (λ_=>true) true q t cs=some x->∀(ι:AL) (σ:Ac),HRel ι σ W->EW σ->Um ι σ W ty cs)
 {e:TypeId} {g:Ty} (z:Kw P d e=some g) (hw:g.w=P.cellsOf e) {q b o:Nat}:
 ∀(n:Nat),(∀i,i<n->∃cs x,W.cells? 0 ⟨b,o+i*g.w,none⟩ g.w=some cs/\DataW.trod enc P W 0 (λ_=>true) true q e cs=some x)->∀(ι:AL) (σ:Ac),HRel ι σ W->EW σ ->
   ∃(ι':AL) (ext:Ac) (s:List V),HRel ι' (σ++ext) W/\Keeps ι σ ι' (σ++ext)/\EW (σ++ext)/\s.length=n*g.w/\(∀i,i<n->Sh (σ++ext) g ((s.drop (i*g.w)).take g.w)) /\
     ∀(j:Nat) v,s[j]?=some v->v.cell=true/\∃x,W.cell? ⟨b,o+j,none⟩=some x/\∀β,Rel ι' (σ++ext) β v x
 |0,_,ι,σ,H0,hro=>⟨ι,[],[],by simpa using H0,by simpa using Keeps.refl ι σ,by simpa using hro,by simp,λi hi=>absurd hi (Pa i),by simp⟩
 | n + 1,hn,ι,σ,H0,hro=>by
   obtain⟨ι1,N,s,H1,K1,R1,R,S1,C1⟩:=lA L z hw n (λi hi=>hn i (Nat.lt_succ_of_lt hi)) ι σ H0 hro;obtain⟨cs,x,hc,Z⟩:=hn n (Ua n);obtain⟨ι2,e2,D,H2,U,R2,S2,O,C2⟩:=L e g z q cs x Z ι1 (σ++N) H1 R1;obtain⟨_,C,J⟩:=World.cells?_some hc;refine⟨ι2,N++e2,s++D,by rw[<- Cj];exact H2,by rw[<- Cj];exact K1.trans U,by rw[<- Cj];exact R2,?_,λi hi=>?_,λj v u=>?_⟩
   ·rw[CM,R,O,C,OS]
   ·rw[<- Cj];by_cases h:i<n
    ·have h1:(i+1)*g.w<=n*g.w:=Hz _ h;rw[OS]at h1;have:((s++D).drop (i*g.w)).take g.w=(s.drop (i*g.w)).take g.w:=by
      rw[List.drop_append_of_le_length (by omega),List.take_append_of_le_length (by rw[Nk];omega)]
     rw[this];exact(S1 i h).mono
    have:i=n:=(by omega);subst this;have:((s++D).drop (i*g.w)).take g.w=D:=by
     rw[<- R,List.drop_left,Ui (by omega)]
    rw[this];exact S2
   by_cases h:j<s.length
   ·rw[Bp h]at u;obtain⟨F,y,G,Y⟩:=C1 j v u;exact⟨F,y,G,λβ=>by rw[<- Cj];exact(Y β).cellMono U F⟩
   rw[Dj (by omega)]at u;have h_:=Yv u;have A:j-s.length<g.w:=(by rw[<- C,<- O];exact h_);have I:=J (j-s.length) A;rw[pU]at I;have e0:o+n*g.w+(j-s.length)=o+j:=(by omega);rw[e0]at I;obtain⟨y,M⟩:∃y,cs[j-s.length]?=some y:=⟨_,Bc (by omega)⟩;obtain⟨F,G⟩:=C2 _ v y u M;exact⟨F,y,I.trans M,λβ=>by rw[<- Cj];exact G β⟩
theorem aO:∀(d:Nat) (t:TypeId) (ty:Ty),Kw P d t=some ty->∀(L:Nat) (cs:List Value) x,DataW.trod enc P W 0 (λ_=>true) true L t cs=some x->∀(ι:AL) (σ:Ac),HRel ι σ W->EW σ->Um ι σ W ty cs
 |0,_,_,h=>by simp[Kw]at h
 | d + 1, t, ty,h=>by
   intro L cs x Y ι σ H0 hro;have D:∀(v:V) (y:Value),cs=[y]->v.cell=true->(∀β,Rel ι σ β v y)->Sh σ ty [v]->Um ι σ W ty cs:=by
    intro v y A hv hr hs;refine⟨ι,[],[v],by simpa using H0,by simpa using Keeps.refl ι σ,by simpa using hro,by simpa using hs,by rw[A];rfl,λi u z q G=>?_⟩;rw[A]at G;cases i with
    |zero=>simp at q G;subst q;subst G;exact⟨hv,by simpa using hr⟩
    |succ i=>simp at q
   unfold Kw at h;split at h
   ·rename_i k q;cases h;obtain⟨n,A,_,N⟩:=DataW.trod_int q Y;exact D (.int k n) _ A rfl (λβ=>.int k n) ⟨n,rfl,N⟩
   ·rename_i q;cases h;obtain⟨b,A,_⟩:=DataW.trod_bool q Y;exact D (.bool b) _ A rfl (λβ=>.bool b) ⟨b,rfl⟩
   ·rename_i q;cases h;obtain⟨s,A,_,N⟩:=DataW.trod_string q Y;exact D (.str s.data.toList) _ A rfl (λβ=>by have:=Rel.str (ι:=ι) (σ:=σ) (β:=β) s.data.toList;simpa using this) ⟨s.data.toList,rfl,by simpa using N⟩
   ·rename_i e q;split at h
    ·rename_i C hte;split at h
     ·rename_i Z;obtain⟨Z,hpos⟩:=Z;cases h;rcases DataW.trod_slice q Y with⟨A,_⟩|⟨a,j,cap,O,U,n,_,A,_,_,hle,hcap,hel,hE,hR,_⟩
      ·exact D .X_ _ A rfl (λβ=>.X_ none) (.inl rfl)
      obtain⟨hrl,hR⟩:=hR rfl;have F:∀i,i<cap->∃cs' y,W.cells? 0 (a.add (i*P.cellsOf e)) (P.cellsOf e)=some cs'/\DataW.trod enc P W 0 (λ_=>true) true n e cs'=some y:=by
       intro i hi;by_cases h:i<j
       ·have h1:=hE i h;obtain⟨y,hy⟩:∃y,O[i]?=some y:=⟨_,Bc (by omega)⟩;rw[hy,Ci]at h1;obtain⟨cs',h1,h2⟩:=h1;exact⟨cs',y,h1,h2⟩
       have h1:=hR (i-j) (by omega);obtain⟨y,hy⟩:∃y,U[i-j]?=some y:=⟨_,Bc (by omega)⟩;rw[hy,Ci]at h1;obtain⟨cs',h1,h2⟩:=h1;rw[show j+(i-j)=i by omega]at h1;exact⟨cs',y,h1,h2⟩
      by_cases hc0:cap=0
      ·subst hc0;have:j=0:=(by omega);subst this;exact D .X_ _ A rfl (λβ=>.X_ (some a)) (.inl rfl)
      have I:a.spot=none/\a.block<W.heap.size:=by
       obtain⟨cs',y,h1,_⟩:=F 0 (by omega);obtain⟨_,h2,h3⟩:=World.cells?_some h1;have h4:=h3 0 (by omega);obtain⟨z,G⟩:∃z,cs'[0]?=some z:=⟨_,Bc (by omega)⟩;rw[G]at h4;have h5:W.cell? a=some z:=(by simpa [Addr.add]using h4);exact⟨World.cell?_spot h5,ZcA h5⟩
      obtain⟨ab,ao,asp⟩:=a;obtain⟨I,h_⟩:=I;simp only at I h_;subst I;have J:∀i,i<j->∃cs' y,W.cells? 0 ⟨ab,ao+i*C.w,none⟩ C.w=some cs'/\DataW.trod enc P W 0 (λ_=>true) true n e cs'=some y:=by
       intro i hi;have:=F i (by omega);rw[pU,<- Z]at this;exact this
      obtain⟨ι1,M,R,H1,K1,R1,L1,S1,C1⟩:=lA (aO d) hte Z j J ι σ H0 hro;obtain⟨H2,R2⟩:=H1.lay R1 (c:=cap*C.w) (wd:=C.w) h_ C1;have K2:=Tj ι1 (σ++M) ⟨ab,ao,cap*C.w⟩ ⟨.ro,C.w,R⟩;have hg:((σ++M)++[(⟨.ro,C.w,R⟩:Blk)])[(σ++M).length]?=some ⟨.ro,C.w,R⟩:=(by simp);refine⟨_,M++[⟨.ro,C.w,R⟩],[.slice (σ++M).length 0 j],by rw[<- Cj];exact H2,by rw[<- Cj];exact K1.trans K2,by rw[<- Cj];exact R2,.inr ⟨_,j,R,rfl,by rw[<- Cj];exact hg,L1,by omega,λi hi=>by rw[<- Cj];exact(S1 i hi).mono⟩,by rw[A];rfl,λi u z q G=>?_⟩;rw[A]at G;cases i with
      | zero=>
        simp at q G;subst q;subst G;refine⟨rfl,λβ=>?_⟩;have:=Rel.slice (ι:=upd ι1 (σ++M).length ⟨ab,ao,cap*C.w⟩) (σ:=(σ++M)++[⟨.ro,C.w,R⟩]) (β:=β) (σ++M).length 0 j cap ⟨.ro,C.w,R⟩ hg hle (by rw[CR];simp) (by first|assumption|(simp only;omega));rw[CR]at this;simpa using this
      |succ i=>simp at q
     cases h
    cases h
   ·rename_i fs q;split at h
    ·rename_i ty' hty;split at h
     ·rename_i Z;cases h;obtain⟨xs,n,_,_,hl,hxl,hf⟩:=DataW.trod_struct q Y;have:=kR (enc:=enc) d (aO d) fs.toList 0 _ hty n cs (λg hg=>by
       obtain⟨i,hi⟩:=Kg hg;have h1:=hf i g (by simpa using hi);have:i<xs.length:=(by rw[hxl];have:=Yv hi;simpa using this);exact⟨_,h1.trans (Bc this)⟩) (by omega) ι σ H0 hro
      simpa using this
     cases h
    cases h
   cases h
end
open Go.RowKit Go.WideShapes Go.ChangeShapes
def fN(P:Program)(d:Nat)(t:TypeId):Option (Ty×Bool):=
 match Kw P d t with
 | some ty=>(match P.underlying t with
   |some (.struct _)=>some (ty,true)
   |some (.int _)|some .bool|some .string|some (.slice _)=>some (ty,false)
   |_=>none)
 |none=>none
def Rk(P:Program)(d:Nat):List TypeId->Option (List (Ty×Bool))
 |[]=>some []| t::r=>match fN P d t,Rk P d r with
   |some a,some b=>some (a::b)
   |_,_=>none
def ArgOk(σ:Ac):Ty×Bool->V->Prop
 |(ty,true),v=>∃cs,v= .agg cs/\Sh σ ty cs/\cs.all V.cell=true|(ty,false),v=>Sh σ ty [v]/\v.cell=true
def Rl(σ:Ac):List (Ty×Bool)->List V->Prop
 |[],[]=>True|a::r,v::s=>ArgOk σ a v/\Rl σ r s|_,_=>False
theorem ArgOk.mono{σ e:Ac}{a:Ty×Bool}{v:V}(h:ArgOk σ a v):ArgOk (σ++e) a v:=by
 obtain⟨ty,b⟩:=a;cases b with
 |true=>obtain⟨cs,h1,i,g⟩:=h;exact⟨cs,h1,i.mono,g⟩
 |false=>exact⟨h.1.mono,h.2⟩
theorem ArgOk.noBox{σ:Ac}{a:Ty×Bool}{v:V}(h:ArgOk σ a v):∀i o,v≠.box i o:=by
 obtain⟨ty,b⟩:=a;intro i o e;subst e;cases b with
 |true=>obtain⟨cs,h1,_⟩:=h;cases h1
 |false=>have:=h.2;cases this
section
variable {H:Type} {enc:TypeId×Value->H} {P:Program} {W:World} {r:Reach} {base:Nat}
theorem ZfD {d:Nat} {t:TypeId} {a:Ty×Bool} (b:fN P d t=some a) {v:Value} {Z:DataW H} {O:List MemPlace} (h:DataW.Trod enc P W 0 (λ_=>true) true t v Z O) (F:Value.okWide P W r base t v)
 (ι:AL) (σ:Ac) (H0:HRel ι σ W) (J:EW σ):
 ∃ι' e u,HRel ι' (σ++e) W/\Keeps ι σ ι' (σ++e)/\EW (σ++e)/\ArgOk (σ++e) a u/\∀β,Rel ι' (σ++e) β u v:=by
 unfold fN at b;split at b
 ·rename_i ty I;obtain⟨D,R⟩:=h;obtain⟨ι',e,C,h1,N,M,G,A,s⟩:=aO d t ty I D _ _ R ι σ H0 J;have g:∀(L:v.cells=#[v]),a=(ty,false)->∃ι' e u,HRel ι' (σ++e) W/\Keeps ι σ ι' (σ++e)/\EW (σ++e)/\ArgOk (σ++e) a u/\∀β,Rel ι' (σ++e) β u v:=by
   intro L Y;rw[L]at A s
   match C,A,G,s with
   | [u],_,G,s=>
     obtain⟨c1,c2⟩:=s 0 u v rfl rfl;exact⟨ι',e,u,h1,N,M,by rw[Y];exact⟨G,c1⟩,c2⟩
  split at b
  ·rename_i fs j;cases b;obtain⟨cs,rfl,_⟩:=okWide_struct j F;replace A:C.length=cs.toList.length:=A;refine⟨ι',e,.agg C,h1,N,M,⟨C,rfl,G,?_⟩,λβ=>?_⟩
   ·rw[DE];intro u q;obtain⟨i,hi⟩:=Kg q;have:i<cs.toList.length:=(by rw[<- A];exact Yv hi);exact(s i u _ hi (Bc this)).1
   have:=Rel.agg (ι:=ι') (σ:=σ++e) (β:=β) C cs.toList A (λu q=>by
    obtain⟨i,hi⟩:=Kg q;have:i<cs.toList.length:=(by rw[<- A];exact Yv hi);exact(s i u _ hi (Bc this)).1) (λi u w hi U=>(s i u w hi U).2 β)
   simpa using this
  ·rename_i k j;cases b;obtain⟨n,rfl⟩:=okWide_int j F;exact g rfl rfl
  ·rename_i j;cases b;obtain⟨n,rfl⟩:=okWide_bool j F;exact g rfl rfl
  ·rename_i j;cases b;obtain⟨n,rfl⟩:=okWide_string j F;exact g rfl rfl
  ·rename_i el j;cases b;obtain⟨x,y,z,rfl⟩:=okWide_slice j F;exact g rfl rfl
  cases b
 cases b
theorem lQ{d:Nat}:∀ {s:List TypeId} {tys:List (Ty×Bool)},Rk P d s=some tys->∀ {g:List Value} {A:List (DataW H)} {y:List MemPlace},DataW.TrodAll enc P W 0 (λ_=>true) true s g A y ->
 (∀(j:Nat) t v,s[j]?=some t->g[j]?=some v->Value.okWide P W r base t v)->∀(ι:AL) (σ:Ac),HRel ι σ W->EW σ ->
 ∃ι' e us,HRel ι' (σ++e) W/\Keeps ι σ ι' (σ++e)/\EW (σ++e)/\Rl (σ++e) tys us/\us.length=g.length/\∀(i:Nat) u v,us[i]?=some u->g[i]?=some v->(∀j o,u≠.box j o)/\∀β,Rel ι' (σ++e) β u v
 | [],tys,h,g,A,y,hd,_,ι,σ,H0,hro=>by
   obtain⟨rfl,_,_⟩:=trodAll_nil hd;cases h;exact⟨ι,[],[],by simpa using H0,by simpa using Keeps.refl ι σ,by simpa using hro,trivial,rfl,by simp⟩
 | t :: s,tys,h,g,A,y,hd,d9,ι,σ,H0,hro=>by
   obtain⟨v,G,x,R,p,q,rfl,rfl,rfl,h1,N⟩:=trodAll_cons hd;unfold Rk at h;split at h
   ·rename_i a b M L;cases h;obtain⟨ι1,D,u,H1,K1,Y,C,C1⟩:=ZfD M h1 (d9 0 t v rfl rfl) ι σ H0 hro;obtain⟨ι2,O,us,H2,F,U,A2,Z,C2⟩:=lQ L N (λj I v' J n=>d9 (j+1) I v' J n) ι1 (σ++D) H1 Y;refine⟨ι2,D++O,u::us,by rw[<- Cj];exact H2,by rw[<- Cj];exact K1.trans F,by rw[<- Cj];exact U,by rw[<- Cj];exact⟨C.mono,A2⟩,by simp[Z],λi u' v' z n=>?_⟩;rw[<- Cj];cases i with
    | zero=>
      simp at z n;subst z;subst n;exact⟨C.noBox,λβ=>(C1 β).mono F (λj o e=>absurd e (C.noBox j o))⟩
    |succ i=>exact C2 i u' v' (by simpa using z) (by simpa using n)
   cases h
end
def eN(P:Program)(b:List TypeId):Bool:=b.all λt=>P.readableRec t&&decide (t<P.types.size)
theorem ku{H:Type}{enc:TypeId×Value->H}{P:Program}(u:laidOutB P=true){W z:World}{i:Nat->Bool}:∀ {n:List TypeId} {j:List Value} {s:List (DataW H)} {g:List MemPlace},eN P n=true ->
 DataW.TrodAll enc P W 0 (λ_=>true) true n j s g->(∀p∈g,W.sameAt z p)->(∀p∈g,i p.block=true)->DataW.TrodAll enc P z 0 i true n j s g
 | [],j,s,g,_,h,_,_=>by
   obtain⟨rfl,rfl,rfl⟩:=trodAll_nil h;rfl
 | t::n,j,s,g,hr,h,h1,h2=>by
   obtain⟨v,A,x,F,p,q,rfl,rfl,rfl,D,C⟩:=trodAll_cons h;unfold eN at hr;rw[F7,Aj,Aj,Ay]at hr;exact⟨p,q,WideElems.Trod_stays u hr.1.1 hr.1.2 D (λy b=>h1 y (by simp[b])) (λy b=>h2 y (by simp[b])),ku u hr.2 C (λy b=>h1 y (by simp[b])) (λy b=>h2 y (by simp[b])),rfl⟩
theorem ZcP {H:Type} {enc:TypeId×Value->H} {P:Program} {f:Func} {s:ChangeSpec} {u fresh q C:Bool} {W D:World} {args:Array Value} {v:Value} {I G:List (DataW H)} {g pa pv:List MemPlace}
 (J:DataW.Whole enc P f.params.toList s.vars u W args.toList I G g)
 (y:∀(b:Nat) (A:Nat->Bool) (hd:Bool),DataW.TrodAll enc P D b A hd f.resultTypes.toList (v.resultList f.resultTypes.size) (s.fn H (I++G)).results [])
 (n:∀A:Nat->Bool,(∀p∈g,A p.block=true)->DataW.TrodAll enc P D 0 A true f.params.toList args.toList (s.fn H (I++G)).args pa)
 (i:∀A:Nat->Bool,(∀p∈g,A p.block=true)->DataW.TrodVars enc P D A s.vars (s.fn H (I++G)).vars pv)
 (x:g=pa++pv) (L:Below W.heap.size W D)
 (U:∀(j:Nat) (t:TypeId) (r:Value),f.resultTypes[j]?=some t->(v.resultList f.resultTypes.size)[j]?=some r->Value.okWide P D .any 0 t r):
 s.post enc P f u fresh q C W args v D:=by
 have M:∀p∈g,p.block<W.heap.size:=λp hp=>J.lt p hp;have z:∀p∈g,(λb=>decide (b<W.heap.size)) p.block=true:=λp hp=>by simpa using M p hp
 refine⟨I,G,g,[],pa,pv,J,y _ _ _,n _ z,i _ z,World.keptBut_mono (λp hp=>⟨hp,?_⟩) (L.frame (·∈g)),λ_=>?_⟩
 ·rw[x,CI]at hp;exact Or.inr hp
 obtain⟨_,_,_,_,_,N,O⟩:=J;refine⟨U,_,_,([]++pa)++pv,⟨[]++pa,pv,trodAll_append (n _ (λ_ _=>rfl)) (y _ _ _),i _ (λ_ _=>rfl),rfl,?_,?_⟩,?_⟩
 ·intro b off hp;have F:MemPlace.cell b off∈g:=(by rw[x];simpa using hp);rw[L.frozen (M _ F)];exact N b off F
 ·intro R;have:=O R;rw[x]at this;simpa using this
 intro p hp _;rw[x];simpa using hp
theorem Zdm {H:Type} {enc:TypeId×Value->H} {P:Program} {f:FuncId} {R:Func} {s:ChangeSpec} {D fresh C N:Bool} {U:Bg} {tys:List (Ty×Bool)} {d:Nat} {tb:TypeId}
 (hs:AA P f U) (has:Rk P d R.params.toList=some tys) (J:eN P R.params.toList=true) (O:laidOutB P=true)
 (G:R.resultTypes=#[tb]) (htb:P.underlying tb=some .bool) (A:s.vars=[])
 (I:∀y:List (DataW H),y.length=tys.length->s.fn H y={ results:=[.lit (.bool true)],args:=y })
 (law:∀(σ:Ac) (us:List V),EW σ->Rl σ tys us->U us σ λr _=>r= .bool true)
 {W:World} {base:Nat} {args:Array Value} {y gs:List (DataW H)} {F:List MemPlace}
 (Z:∀(j:Nat) t v,R.params[j]?=some t->args[j]?=some v->Value.okWide P W .any base t v)
 (hW:DataW.Whole enc P R.params.toList s.vars D W args.toList y gs F) (hgl:GlW P W):
 Calls P f args W λe W'=>∃v,e= .returned v/\s.post enc P R D fresh C N W args v W':=by
 have M:=hW;obtain⟨p,q,hA,hV,rfl,hfz,hnd⟩:=hW;rw[A]at hV;obtain⟨rfl,rfl⟩:=trodVars_none hV;rw[Rm]at M;obtain⟨ι,e,us,H1,_,R1,A1,L1,C1⟩:=lQ (d:=d) has hA (λj t v hj hv=>Z j t v (by simpa using hj) (by simpa using hv)) (λ_=>⟨0,0,0⟩) [] ⟨by simp,by simp,by simp,by simp⟩ (λl b h=>by simp at h);simp only[CL]at H1 R1 A1 C1;have hc:=hs Phm.no ι e W us args.toList _ (.no e) (by rw[TZ];exact H1) (by rw[TZ];exact⟨L1,λi u v hu hv=>(C1 i u v hu hv).2⟩) (law e us R1 A1) ⟨hgl,λnm hn g hg l Y_ O hk=>by rw[TZ]at O;have:=R1 l Y_ O;rw[hk]at this;cases this⟩;have hlen:y.length=tys.length:=by
  have h1:∀ {z:List TypeId} {tys:List (Ty×Bool)},Rk P d z=some tys->tys.length=z.length:=by
   intro z;induction z with
   |nil=>intro tys h;cases h;rfl
   | cons t z ih=>
     intro tys h;unfold Rk at h;split at h
     ·rename_i a b _ hb;cases h;simp[ih hb]
     cases h
  have h2:∀ {z:List TypeId} {vs:List Value} {y:List (DataW H)} {ps:List MemPlace},DataW.TrodAll enc P W 0 (λ_=>true) true z vs y ps->y.length=z.length:=by
   intro z;induction z with
   |nil=>intro vs y ps h;obtain⟨_,rfl,_⟩:=trodAll_nil h;rfl
   | cons t z ih=>
     intro vs y ps h;obtain⟨v,vs',x,ds',p,q,rfl,rfl,rfl,_,g2⟩:=trodAll_cons h;simp[ih g2]
  rw[h1 has,h2 hA]
 refine(Calls.mono (by simpa using hc) λen W' hd=>?_:Calls P f args W _);obtain⟨x,r,σ',ι',rfl,rfl,_,Y,_,n⟩:=hd;rw[TZ,TZ]at n;have hx':=Y (λ_=>0);cases hx';have hb:Below W.heap.size W W':=⟨n.os,n.tape,n.output,n.size,λk hk=>n.frame k hk λl Y_ O hk'=>by have:=R1 l Y_ O;rw[hk']at this;cases this⟩;have L:=I (y++[]) (by simpa using hlen);have h_:∀x∈p,x.block<W.heap.size:=λx Y=>M.lt x Y;refine⟨_,rfl,ZcP (pa:=p) (pv:=[]) M (λ_ _ _=>?_) (λsp hsp=>?_) (λsp _=>?_) (by simp) hb (ok_one G rfl (okWide_bool_mk htb true))⟩
 ·rw[L,G];exact trodAll_cons_mk (shut_bool htb true) trodAll_mk0
 ·rw[L];simp only[Rm];exact ku O J hA (λx Y=>hb.same (h_ x Y)) hsp
 rw[L,A];rfl
open Go.ChangeShapes
mutual
def CT.wf:(t:CT)->t.D->Prop
 |.int k,n=>(Lit.int k n).wf=true|.bool,_=>True|.str,s=>s.length<=maxLen|.ifc,_=>True|.sl r,l=>@List.length r.D l<=maxLen/\∀x:r.D,@Membership.mem r.D (List r.D) inferInstance l x->RT.wf r x|.slf _,_=>False
def RT.wf:(r:RT)->r.D->Prop
 |.one t,x=>CT.wf t x|.cons t r,x=>CT.wf t x.1/\RT.wf r x.2
end
def AgX.wf:(l:List (Ql×CT))->AgX l->Prop
 |[],_=>True|[a],x=>a.2.wf x|a::b::r,x=>a.2.wf x.1/\AgX.wf (b::r) x.2
def HT.wf:(h:HT)->h.D->Prop
 |.one _ t,x=>t.wf x|.agg l,x=>AgX.wf l x
def TuX.wf:(l:List HT)->TuX l->Prop
 |[],_=>True|[a],x=>a.wf x|a::b::r,x=>a.wf x.1/\TuX.wf (b::r) x.2
def HJ:List CT->RT
 |[]=>.one .bool|[a]=>.one a|a::b::r=>.cons a (HJ (b::r))
def Ty.cts:Ty->List CT
 |.int k=>[.int k]|.bool=>[.bool]|.str=>[.str]|.sl t=>[.sl (HJ t.cts)]|.unit=>[]|.pair a b=>a.cts++b.cts
def Ty.good:Ty->Bool
 |.sl t=>Nat.blt 0 t.w&&t.good|.pair a b=>a.good&&b.good|_=>true
def NH:Ty×Bool->HT
 |(ty,true)=>.agg (ty.cts.map λt=>(.Z_,t))
 |(ty,false)=>match ty.cts with|[c]=>.one .Z_ c|_=>.agg []
def Yl:Ty×Bool->Bool
 |(ty,true)=>ty.good|(ty,false)=>ty.good&&ty.cts.length == 1
def DL:List CT->Type
 |[]=>Unit|a::r=>a.D×DL r
def DL.wf:(l:List CT)->DL l->Prop
 |[],_=>True|a::r,x=>a.wf x.1/\DL.wf r x.2
def DL.enc:(l:List CT)->DL l->List PV
 |[],_=>[]|a::r,x=>CT.enc a x.1::DL.enc r x.2
def DL.encF:(l:List CT)->DL l->List PV
 |[],_=>[]|a::r,x=>(CT.dv .Z_ a x.1).enc::DL.encF r x.2
def DL.app:(l m:List CT)->DL l->DL m->DL (l++m)
 |[],_,_,y=>y|_::l,m,x,y=>(x.1,DL.app l m x.2 y)
theorem DL.app_enc:∀(l m:List CT) (x:DL l) (y:DL m),DL.enc (l++m) (DL.app l m x y)=DL.enc l x++DL.enc m y
 |[],_,_,_=>rfl
 | a::l,m,x,y=>by
   show CT.enc a x.1::DL.enc (l++m) (DL.app l m x.2 y)=CT.enc a x.1::(DL.enc l x.2++DL.enc m y);rw[DL.app_enc l m x.2 y]
theorem DL.app_encF:∀(l m:List CT) (x:DL l) (y:DL m),DL.encF (l++m) (DL.app l m x y)=DL.encF l x++DL.encF m y
 |[],_,_,_=>rfl
 | a::l,m,x,y=>by
   show (CT.dv .Z_ a x.1).enc::DL.encF (l++m) (DL.app l m x.2 y)=(CT.dv .Z_ a x.1).enc::(DL.encF l x.2++DL.encF m y);rw[DL.app_encF l m x.2 y]
theorem DL.app_wf:∀(l m:List CT) (x:DL l) (y:DL m),DL.wf l x->DL.wf m y->DL.wf (l++m) (DL.app l m x y)
 |[],_,_,_,_,h=>h
 |_::l,m,x,y,h,h'=>⟨h.1,DL.app_wf l m x.2 y h.2 h'⟩
theorem DL.len:∀(l:List CT) (x:DL l),(DL.enc l x).length=l.length
 |[],_=>rfl
 |_::l,x=>by show _+1=_+1;rw[DL.len l x.2]
theorem DL.lenF:∀(l:List CT) (x:DL l),(DL.encF l x).length=l.length
 |[],_=>rfl
 |_::l,x=>by show _+1=_+1;rw[DL.lenF l x.2]
def DL.rt:(l:List CT)->DL l->(HJ l).D
 |[],_=>false|[_],x=>x.1|_::b::r,x=>(x.1,DL.rt (b::r) x.2)
theorem DL.rt_enc:∀(l:List CT) (x:DL l),l≠[]->RT.enc (HJ l) (DL.rt l x)=DL.enc l x
 |[],_,h=>absurd rfl h
 |[_],_,_=>rfl
 | a::b::r,x,_=>by
   show CT.enc a x.1::RT.enc (HJ (b::r)) (DL.rt (b::r) x.2)=CT.enc a x.1::DL.enc (b::r) x.2;rw[DL.rt_enc (b::r) x.2 (by simp)]
theorem DL.rt_wf:∀(l:List CT) (x:DL l),l≠[]->DL.wf l x->RT.wf (HJ l) (DL.rt l x)
 |[],_,h,_=>absurd rfl h
 |[_],_,_,h=>h.1
 |a::b::r,x,_,h=>⟨h.1,DL.rt_wf (b::r) x.2 (by simp) h.2⟩
def DL.ag:(l:List CT)->DL l->AgX (l.map λt=>(Ql.Z_,t))
 |[],_=>()|[_],x=>x.1|_::b::r,x=>(x.1,DL.ag (b::r) x.2)
theorem DL.ag_enc:∀(l:List CT) (x:DL l),DV.d8 (De (l.map λt=>(Ql.Z_,t)) (DL.ag l x))=DL.encF l x
 |[],_=>rfl
 |[_],_=>rfl
 | a::b::r,x=>by
   show (CT.dv .Z_ a x.1).enc::DV.d8 (De ((b::r).map λt=>(Ql.Z_,t)) (DL.ag (b::r) x.2))=(CT.dv .Z_ a x.1).enc::DL.encF (b::r) x.2;rw[DL.ag_enc (b::r) x.2]
theorem DL.ag_wf:∀(l:List CT) (x:DL l),DL.wf l x->AgX.wf (l.map λt=>(Ql.Z_,t)) (DL.ag l x)
 |[],_,_=>trivial
 |[_],_,h=>h.1
 |a::b::r,x,h=>⟨h.1,DL.ag_wf (b::r) x.2 h.2⟩
theorem LV:∀(t:Ty),t.cts.length=t.w
 |.int _|.bool|.str|.sl _|.unit=>rfl
 |.pair a b=>by simp only[Ty.cts,Ty.w,CM,LV a,LV b]
def ωro(σ:Ac):Nat->W:=λl=>if l<σ.length then .Z_ else .none
theorem ωro_frz{σ:Ac}{l:Nat}{b:Blk}(h:σ[l]?=some b):ωro σ l= .Z_:=by
 unfold ωro;rw[Ad (BB h)]
theorem WT:∀(a b:List PV) (i:Nat),i<a.length->Aa (a++b) i=Aa a i
 |[],_,_,h=>by cases h
 |_::_,_,0,_=>rfl
 |_::a,b,i+1,h=>WT a b i (by simpa using h)
theorem Wu:∀(a b:List PV) (i:Nat),Aa (a++b) (a.length+i)=Aa b i
 |[],_,_=>by simp
 | _::a,b,i=>by
   have:=Wu a b i;simp only[Dz,A0,eW];exact this
theorem aX:∀(a b:List V) (i:Nat),i<a.length->get (a++b) i=get a i
 |[],_,_,h=>by cases h
 |_::_,_,0,_=>rfl
 |_::a,b,i+1,h=>aX a b i (by simpa using h)
theorem aN:∀(a b:List V) (i:Nat),get (a++b) (a.length+i)=get b i
 |[],_,_=>by simp
 | _::a,b,i=>by
   have:=aN a b i;simp only[Dz,A0,eW];exact this
theorem aK:∀(l:List V) (o n i:Nat),i<n->get ((l.drop o).take n) i=get l (o+i)
 |[],o,n,i,_=>by simp[get]
 |c::r,0,0,i,h=>by cases h
 |c::r,0,n+1,0,_=>rfl
 | c::r,0,n+1,i+1,h=>by
   have:=aK r 0 n i (by omega);simp only[BJ]at this;simp only[Hy,fy,get,BJ];simpa using this
 | c::r,o+1,n,i,h=>by
   have:=aK r o n i h;rw[List.drop_succ_cons,this,eW];rfl
theorem mM{w:Nat}:∀(es:List (List PV)) (i j:Nat),(∀e∈es,e.length=w)->j<w->i<es.length->Aa es.flatten (i*w+j)=Aa (Bs es i) j
 |[],i,_,_,_,h=>by cases h
 | e::r,0,j,hw,hj,_=>by
   have b:=hw e (Hx ..);rw[LW,BJ,Ig,WT _ _ _ (by omega)];rfl
 | e::r,i+1,j,hw,hj,h=>by
   have b:=hw e (Hx ..);rw[Ig,show (i+1)*w+j=e.length+(i*w+j) by rw[b,OS];omega,Wu];exact mM r i j (λe h=>hw e (List.mem_cons_of_mem _ h)) hj (by simpa using h)
theorem nX {α:Type}(f:α->List PV):∀(l:List α) (i:Nat) (h:i<l.length),Bs (l.map f) i=f l[i]
 |[],_,h=>by cases h
 |_::_,0,_=>rfl
 |_::l,i+1,h=>nX f l i (by simpa using h)
theorem TQ{σ:Ac}:∀(ty:Ty) {cs:List V},ty.good=true->Sh σ ty cs->∃x:DL ty.cts,DL.wf ty.cts x /\
 (∀i,RC σ (ωro σ) .fz (Aa (DL.enc ty.cts x) i) (get cs i))/\∀i hd p,RC σ (ωro σ) (.at hd p) (Aa (DL.encF ty.cts x) i) (get cs i)
 | .int k,cs,_,⟨n,h,hw⟩=>by
   subst h;exact⟨(n,()),⟨hw,trivial⟩,λi=>by cases i<;>first|exact .v _ _ rfl|exact .undef _ _,λi hd p=>by cases i<;>first|exact .v _ _ rfl|exact .undef _ _⟩
 | .bool,cs,_,⟨b,h⟩=>by
   subst h;exact⟨(b,()),⟨trivial,trivial⟩,λi=>by cases i<;>first|exact .v _ _ rfl|exact .undef _ _,λi hd p=>by cases i<;>first|exact .v _ _ rfl|exact .undef _ _⟩
 | .str,cs,_,⟨s,h,I⟩=>by
   subst h;exact⟨(s,()),⟨I,trivial⟩,λi=>by cases i<;>first|exact .v _ _ rfl|exact .undef _ _,λi hd p=>by cases i<;>first|exact .v _ _ rfl|exact .undef _ _⟩
 | .unit,cs,_,h=>by
   have h:cs=[]:=h;subst h;exact⟨(),trivial,λi=>.undef _ _,λi hd p=>.undef _ _⟩
 | .pair a b,cs,hg,⟨xs,ys,h,h1,h2⟩=>by
   simp only[Ty.good,Aj]at hg;obtain⟨x,x1,x2,x3⟩:=TQ a hg.1 h1;obtain⟨y,y1,y2,y3⟩:=TQ b hg.2 h2;have I:=h1.len;subst h;refine⟨DL.app _ _ x y,DL.app_wf _ _ x y x1 y1,λi=>?_,λi hd p=>?_⟩
   ·simp only[Ty.cts];rw[DL.app_enc];by_cases hi:i<a.w
    ·rw[WT _ _ _ (by rw[DL.len,LV];exact hi),aX _ _ _ (by rw[I];exact hi)];exact x2 i
    obtain⟨j,rfl⟩:=Nat.exists_eq_add_of_le (Nat.le_of_not_lt hi);have F:=Wu (DL.enc a.cts x) (DL.enc b.cts y) j;have C:=aN xs ys j;rw[DL.len,LV]at F;rw[I]at C;rw[F,C];exact y2 j
   simp only[Ty.cts];rw[DL.app_encF];by_cases hi:i<a.w
   ·rw[WT _ _ _ (by rw[DL.lenF,LV];exact hi),aX _ _ _ (by rw[I];exact hi)];exact x3 i hd p
   obtain⟨j,rfl⟩:=Nat.exists_eq_add_of_le (Nat.le_of_not_lt hi);have F:=Wu (DL.encF a.cts x) (DL.encF b.cts y) j;have C:=aN xs ys j;rw[DL.lenF,LV]at F;rw[I]at C;rw[F,C];exact y3 j hd p
 | .sl t,cs,hg,h=>by
   simp only[Ty.good,Aj]at hg;have J:0<t.w:=Dp hg.1;have f9:t.cts≠[]:=(by intro e;have:=LV t;rw[e]at this;simp only[A7]at this;omega);rcases h with h|⟨l,n,O,h,R,hbl,hn,Z⟩
   ·subst h;refine⟨(([]:List (HJ t.cts).D),()),⟨⟨Ec _,λx U=>by cases U⟩,trivial⟩,λi=>?_,λi hd p=>?_⟩
    ·cases i<;>first|exact .nil _ _|exact .undef _ _
    cases i<;>first|exact .nil _ _|exact .undef _ _
   subst h;have ex:∀i,∃x:DL t.cts,i<n->DL.wf t.cts x/\(∀k,RC σ (ωro σ) .fz (Aa (DL.enc t.cts x) k) (get ((O.drop (i*t.w)).take t.w) k)):=by
    intro i;by_cases hi:i<n
    ·obtain⟨x,h1,h2,_⟩:=TQ t hg.2 (Z i hi);exact⟨x,λ_=>⟨h1,h2⟩⟩
    have h0:∀l:List CT,Nonempty (DL l):=by
     intro l;induction l with
     |nil=>exact⟨()⟩
     |cons a r ih=>obtain⟨y⟩:=ih;exact⟨(a.dflt,y)⟩
    obtain⟨y⟩:=h0 t.cts;exact⟨y,λh=>absurd h hi⟩
   let f:Nat->DL t.cts:=λi=>Classical.choose (ex i);have hf:∀i,i<n->DL.wf t.cts (f i)/\∀k,RC σ (ωro σ) .fz (Aa (DL.enc t.cts (f i)) k) (get ((O.drop (i*t.w)).take t.w) k):=λi hi=>Classical.choose_spec (ex i) hi;let L:List (HJ t.cts).D:=(List.range n).map λi=>DL.rt t.cts (f i);have A:L.length=n:=(by simp[L]);have G:∀e∈L.map (RT.enc (HJ t.cts)),e.length=t.w:=by
    intro e Z;obtain⟨y,hy,rfl⟩:=List.mem_map.mp Z;obtain⟨i,_,rfl⟩:=List.mem_map.mp hy;rw[DL.rt_enc _ _ f9,DL.len,LV]
   have q:∀k,k<L.length*t.w->RC σ (ωro σ) .fz (Aa (L.map (RT.enc (HJ t.cts))).flatten k) (get O (0+k)):=by
    intro k z;have N:k / t.w*t.w+k % t.w=k:=(by rw[LX];exact O9 k t.w);have u:=Ii k J;have g:k / t.w<n:=(by rw[A]at z;exact(T9 J).2 z);have F:=mM (L.map (RT.enc (HJ t.cts))) (k / t.w) (k % t.w) G u (by rw[Bh,A];exact g);rw[N]at F;rw[F,nX _ _ _ (by rw[A];exact g),BJ];have C:=aK O (k / t.w*t.w) t.w (k % t.w) u;rw[N]at C;have e3:L[k / t.w]'(by rw[A];exact g)=DL.rt t.cts (f (k / t.w)):=(by simp[L]);rw[e3,DL.rt_enc _ _ f9,<- C];exact(hf _ g).2 _
   have Y:∀x∈L,RT.wf (HJ t.cts) x:=by
    intro x U;obtain⟨i,hi,rfl⟩:=List.mem_map.mp U;exact DL.rt_wf _ _ f9 (hf i (List.mem_range.mp hi)).1
   have M:0+(L.map (RT.enc (HJ t.cts))).length*t.w<=O.length:=(by rw[Bh,A,hbl];omega);refine⟨(L,()),⟨⟨by rw[A];exact hn,Y⟩,trivial⟩,λi=>?_,λi hd p=>?_⟩
   ·cases i with
    |succ i=>exact .undef _ _
    |zero=>exact .sl _ _ _ _ _ _ _ R (by simp) (ωro_frz R) (λe=>by cases e) (by rw[Bh,A]) G M λk z=>q k (by rw[Bh]at z;exact z)
   cases i with
   |succ i=>exact .undef _ _
   |zero=>exact .sl _ _ _ _ _ _ _ R (by simp) (ωro_frz R) (λ_ e=>by rcases e with e|⟨_,_,e⟩<;>cases e) (by rw[Bh,A]) G M λk z=>q k (by rw[Bh]at z;exact z)
structure ArgD (σ:Ac) (v:PV) (u:V):Prop where
 rc:∀hd p c,RC σ (ωro σ) (.at hd p) (v.S_ c) (u.S_ c)
 sh:A9 v u
 nx:∀c i pb tp,(v.S_ c).q≠some (.i6 (.x i) pb tp)
theorem Zjg{v:V}(h:v.cell=true):(∀us,v≠.agg us)/\∀us,v≠.f8 us:=by
 constructor<;>rintro us rfl<;>cases h
theorem fU:∀(l:List CT) (x:DL l) (i:Nat) (a:Hd) (g:List Nat) (b:Bool),(Aa (DL.encF l x) i).q≠some (.i6 a g b)
 |[],_,_,_,_,_=>by simp[DL.encF,Aa,PV.q]
 |c::r,x,0,a,g,b=>by cases c<;>simp[DL.encF,Aa,CT.dv,DV.enc,PV.q]
 |_::r,x,i+1,a,g,b=>fU r x.2 i a g b
theorem oz{σ:Ac}{a:Ty×Bool}{u:V}(A:Yl a=true)(h:ArgOk σ a u):∃x:(NH a).D,(NH a).wf x/\ArgD σ ((NH a).dv x).enc u:=by
 obtain⟨ty,b⟩:=a;cases b with
 | true=>
   obtain⟨cs,rfl,hs,I⟩:=h;obtain⟨x,h1,_,n⟩:=TQ ty A hs;have G:=hs.len;refine⟨DL.ag ty.cts x,DL.ag_wf _ _ h1,?_⟩;have N:((NH (ty,true)).dv (DL.ag ty.cts x)).enc= .agg (DL.encF ty.cts x):=by
    show PV.agg _=PV.agg _;rw[DL.ag_enc]
   rw[N];refine⟨λhd p c=>?_,⟨cs,rfl,by rw[G,DL.lenF,LV]⟩,λc i L J=>?_⟩
   ·match c with
    |[]=>exact .undef _ _
    |[c]=>exact n c hd p
    |_::_::_=>exact .undef _ _
   match c with
   |[]=>simp[PV.S_,PV.q]
   |[c]=>exact fU _ _ _ _ _ _
   |_::_::_=>simp[PV.S_,PV.q]
 | false =>
   obtain⟨hs,I⟩:=h;simp only[Yl,Aj,Bb]at A;obtain⟨x,h1,_,n⟩:=TQ ty A.1 hs;have C:∀(l:List CT) (x:DL l),l.length=1->DL.wf l x->(∀i hd p,RC σ (ωro σ) (.at hd p) (Aa (DL.encF l x) i) (get [u] i)) ->
    ∃y:(match l with|[c]=>HT.one .Z_ c|_=>HT.agg []).D,(match l with|[c]=>HT.one .Z_ c|_=>HT.agg []).wf y/\ArgD σ ((match l with|[c]=>HT.one .Z_ c|_=>HT.agg []).dv y).enc u:=by
    intro l x M g n
    match l,x,M,g,n with
    | [c],x,_,g,n=>
      have j:=Zjg I;have t:∀p,p≠[0]->((CT.dv .Z_ c x.1).enc).S_ p= .fl .undef:=by
       intro p hp;cases c<;>(match p with|[]=>rfl|[0]=>exact absurd rfl hp|(_+1)::_=>rfl|0::_::_=>rfl)
      have z:((CT.dv .Z_ c x.1).enc).S_ [0]=(CT.dv .Z_ c x.1).enc:=(by cases c<;>rfl);have F:u.S_ [0]=u:=(by cases u<;>first|rfl|exact absurd rfl (j.1 _)|exact absurd rfl (j.2 _));refine⟨x.1,g.1,⟨λhd p q=>?_,?_,λq i L J=>?_⟩⟩
      ·by_cases s:q=[0]
       ·subst s;show RC σ (ωro σ) (.at hd p) (((CT.dv .Z_ c x.1).enc).S_ [0]) (u.S_ [0]);rw[z,F];exact n 0 hd p
       show RC σ (ωro σ) (.at hd p) (((CT.dv .Z_ c x.1).enc).S_ q) (u.S_ q);rw[t q s];exact .undef _ _
      ·show A9 ((CT.dv .Z_ c x.1).enc) u;cases c<;>exact j
      show (((CT.dv .Z_ c x.1).enc).S_ q).q≠_;by_cases s:q=[0]
      ·subst s;rw[z];exact fU [c] x 0 _ _ _
      rw[t q s];simp[PV.q]
   exact C ty.cts x A.2 h1 n
theorem ck{σ:Ac}:∀ {tys:List (Ty×Bool)} {us:List V},tys.all Yl=true->Rl σ tys us->∃x:TuX (tys.map NH),TuX.wf _ x/\us.length=tys.length /\
 ∀t,ArgD σ (Aa (DV.d8 (ED (tys.map NH) x)) t) (get us t)
 |[],[],_,_=>⟨(),trivial,rfl,λt=>⟨λhd p c=>by
  have:(PV.fl V.undef).S_ c= .fl .undef:=(by match c with|[]=>rfl|[0]=>rfl|(_+1)::_=>rfl|0::_::_=>rfl);show RC σ (ωro σ) (.at hd p) ((PV.fl V.undef).S_ c) _;rw[this];exact .undef _ _,trivial,λc i A z=>by
  have:(PV.fl V.undef).S_ c= .fl .undef:=(by match c with|[]=>rfl|[0]=>rfl|(_+1)::_=>rfl|0::_::_=>rfl);show ((PV.fl V.undef).S_ c).q≠_;rw[this];simp[PV.q]⟩⟩
 | [a],[u],hg,h=>by
   simp only[F7,YC,Mb]at hg;obtain⟨x,h1,j⟩:=oz hg h.1;obtain⟨_,_,_,g⟩:=ck (σ:=σ) (tys:=[]) (us:=[]) rfl trivial;refine⟨x,h1,rfl,λt=>?_⟩;cases t with
   |zero=>exact j
   |succ t=>exact g t
 | a::b::r,u::us,hg,h=>by
   rw[F7,Aj]at hg;obtain⟨x,h1,j⟩:=oz hg.1 h.1;obtain⟨y,s,g,n⟩:=ck (tys:=b::r) (us:=us) hg.2 h.2;refine⟨(x,y),⟨h1,s⟩,by simp[g],λt=>?_⟩;cases t with
   |zero=>exact j
   |succ t=>exact n t
 |[_],_::_::_,_,h=>h.2.elim
 |[_],[],_,h=>h.elim
 |_::_::_,[],_,h=>h.elim
 |[],_::_,_,h=>h.elim
theorem Zkp{σ:Ac}{as:List PV}{us:List V}(A:as.length=us.length)(h:∀t,ArgD σ (Aa as t) (get us t)):RS σ (ωro σ) (ωro σ) (λ_=>0) ⟨as,[],[]⟩ ⟨us,[],σ⟩ X0:=by
 have no:∀l hd p,ωro σ l≠.own hd p:=by intro l hd p e;unfold ωro at e;split at e<;>cases e
 have u:∀l i,ωro σ l≠.ptr i:=by intro l i e;unfold ωro at e;split at e<;>cases e
 have n:∀c,(PV.fl V.undef).S_ c= .fl .undef:=by
  intro c;match c with|[]=>rfl|[0]=>rfl|(_+1)::_=>rfl|0::_::_=>rfl
 have g:∀(c:List Nat) (l:List V),(Be [] l c).1= .fl .undef:=by
  intro c l;match c with|[]=>rfl|[_]=>rfl|_::_::_=>rfl
 refine⟨⟨λhd p=>?_,λl l' hd p e=>absurd e (no l hd p),λl l' i e=>absurd e (u l i),λl e=>?_,λl e=>?_⟩,λt=>(h t).sh,λi=>trivial,A,rfl,λi=>rfl,λi c=>rfl,λi c=>rfl,λi hi=>(by cases hi),λl i e=>absurd e (u l i),λl i p e=>absurd e (no l _ p),⟨BN _,λl _ _=>⟨rfl,rfl⟩,λl C e=>(by rw[e];simp),λl i e=>e⟩,λhd p i z y=>?_⟩
 ·cases hd with
  |s t=>exact(h t).rc _ _ _
  |b i=>show RC σ (ωro σ) _ (Be [] (A3 [] i) p).1 _;rw[g];exact .undef _ _
  |h i=>show RC σ (ωro σ) _ (Be [] _ p).1 _;rw[g];exact .undef _ _
  |x i=>show RC σ (ωro σ) _ ((PV.fl V.undef).S_ p) _;rw[n];exact .undef _ _
 ·rcases e with⟨hd,p,e⟩|⟨i,e⟩
  ·exact absurd e (no l hd p)
  exact absurd e (u l i)
 ·unfold ωro at e;split at e
  ·assumption
  cases e
 cases hd with
 |s t=>exact(h t).nx p i z y
 |b j=>show (Be [] (A3 [] j) p).1.q≠_;rw[g];simp[PV.q]
 |h j=>show (Be [] _ p).1.q≠_;rw[g];simp[PV.q]
 |x j=>show ((PV.fl V.undef).S_ p).q≠_;rw[n];simp[PV.q]
theorem Zj1 {f:DFun} {tys:List (Ty×Bool)} {hs:List HT} {s:Bg} (j:Kf s (Jv f.er)) (n:tys.map NH=hs) (D:tys.all Yl=true) (C:AllD f.body.t_)
 (i:RG f hs (.one (.one .own .bool))=true) (F:∀x,RA f hs (.one (.one .own .bool)) x=true)
 (g:∀x:TuX hs,TuX.wf hs x->Ps f hs (.one (.one .own .bool)) x/\Pz f hs (.one (.one .own .bool)) x=true) (σ:Ac) (us:List V) (A:EW σ) (G:Rl σ tys us):s us σ λr _=>r= .bool true:=by
 subst n;obtain⟨x,h1,L,J⟩:=ck D G;obtain⟨y,t⟩:=g x h1;have b:(DV.d8 (ED (tys.map NH) x)).length=us.length:=by rw[F1,Tv,Bh,L]
 refine j σ (ωro σ) (λ_=>0) _ us [] (λr _=>r= .fl (.bool true)) _ (Zkp b J) (λl hd p e=>?_) ?_ λu h' r M ω' ρ' I q _=>?_
 ·exfalso;unfold ωro at e;split at e<;>cases e
 ·refine oR C i x (F x) y λH=>?_;rw[t];rfl
 subst I;have r:=q.core.rc (.x 0) [0];have hs:=q.shx 0;have r:RC h' ω' (.at (.x 0) [0]) (.fl (.bool true)) (u.S_ [0]):=r;have z:u.S_ [0]=u:=by
  have hs:A9 (.fl (.bool true)) u:=hs;cases u<;>first|rfl|exact absurd rfl (hs.1 _)|exact absurd rfl (hs.2 _)
 rw[z]at r;cases r;rfl
theorem ZkN(x:V)(r:List V):get (x::r) 0=x:=id rfl
theorem Zk7(x:V)(r:List V)(n:Nat):get (x::r) (n+1)=get r n:=id rfl
theorem Zlg(s:List V)(n:Nat):(T_.t n).ev s=get s n:=id rfl
theorem Zlj(s:List V)(v:V):(T_.c v).ev s=v:=id rfl
def rk(b:Bool)(res:List ARes)(h0:Ac)(Q:V->Ac->Prop):CA:=Zg ⟨0,0,0,b,res,.skip⟩ h0 Q
theorem J6{b i j:Nat}{g:Bool}{res:List ARes}{body:ACode}{args:List V}{h:Ac}{Q:V->Ac->Prop}(n:args.length=b)(q:B3 body (rk g res h Q) ⟨args++EE (i-b),HK j,h⟩):ER ⟨b,i,j,g,res,body⟩ args h Q:=⟨n,q⟩
theorem ZhK(k:CA)(st:St):B3 .skip k st=k .normal st:=rfl
theorem Zem(o:List c_)(k:CA)(st:St):B3 (.region o) k st=BS o (k .normal) st:=rfl
theorem Ziu(a b:ACode)(k:CA)(st:St):B3 (.seq a b) k st=B3 a (Gh (B3 b k) k) st:=rfl
theorem Zgr(i:Nat)(a:ACode)(k:CA)(st:St):B3 (.block i a) k st=B3 a (Jx i k) st:=rfl
theorem Zg1(i:Nat)(k:CA)(st:St):B3 (.exit i) k st=k (.exit i) st:=rfl
theorem Ziq(k:CA)(st:St):B3 .ret k st=k .ret st:=rfl
theorem ZhI{c:T_}{a b:ACode}{k:CA}{st:St}(h:c.ev st.sl= .bool true):B3 (.cond c a b) k st=B3 a k st:=by simp only[B3,h,AX]
theorem Zfr{c:T_}{a b:ACode}{k:CA}{st:St}(h:c.ev st.sl= .bool false):B3 (.cond c a b) k st=B3 b k st:=by simp only[B3,h];rfl
theorem ZdO(n:St->Prop)(k:CA)(st:St):Gh n k .normal st=n st:=rfl
theorem Zid(n:St->Prop)(k:CA)(st:St):Gh n k .ret st=k .ret st:=rfl
theorem Zfg(n:St->Prop)(k:CA)(i:Nat)(st:St):Gh n k (.exit i) st=k (.exit i) st:=rfl
theorem Zb1(i:Nat)(k:CA)(st:St):Jx i k .normal st=k .normal st:=rfl
theorem Zec(i:Nat)(k:CA)(st:St):Jx i k .ret st=k .ret st:=rfl
theorem Zdw(i j:Nat)(k:CA)(st:St):Jx i k (.exit j) st=if j=i then k .normal st else k (.exit j) st:=rfl
theorem Zhy(n:St->Prop)(k:CA):Gh n k .normal=n:=rfl
theorem Zet(i:Nat)(k:CA):Jx i k .normal=k .normal:=rfl
theorem ZhC(k:St->Prop)(st:St):BS [] k st=k st:=rfl
theorem ZhM{i:Nat}{d:Option Nat}{o:p_}{a:List Nat}{r:List c_}{k:St->Prop}{st:St}:BS (⟨i,d,o,none,a⟩::r) k st=AP o d (BS r k) st:=rfl
theorem Zir{i:Nat}{d:Option Nat}{o:p_}{g:Nat}{w:Bool}{a:List Nat}{r:List c_}{k:St->Prop}{st:St}(h:get st.sl g= .bool w):BS (⟨i,d,o,some (g,w),a⟩::r) k st=AP o d (BS r k) st:=by
 simp only[BS,Cx,h,AX]
theorem o7{i:Nat}{d:Option Nat}{o:p_}{g:Nat}{w b:Bool}{a:List Nat}{r:List c_}{k:St->Prop}{st:St}(h:get st.sl g= .bool b)(j:b≠w):BS (⟨i,d,o,some (g,w),a⟩::r) k st=BS r k (st.put d (.f8 [])):=by
 simp only[BS,Cx,h,Ae j]
theorem ZgP{i:Nat}{d:Option Nat}{o:p_}{g:Nat}{a:List Nat}{r:List c_}{k:St->Prop}{st:St}(h:get st.sl g= .bool false):BS (⟨i,d,o,some (g,true),a⟩::r) k st=BS r k (st.put d (.f8 [])):=o7 h (by decide)
theorem Zfj{i:Nat}{d:Option Nat}{o:p_}{g:Nat}{a:List Nat}{r:List c_}{k:St->Prop}{st:St}(h:get st.sl g= .bool true):BS (⟨i,d,o,some (g,false),a⟩::r) k st=BS r k (st.put d (.f8 [])):=o7 h (by decide)
theorem ZgY{i:Nat}{d:Option Nat}{o:p_}{g:Nat}{w:Bool}{a:List Nat}{r:List c_}{k:St->Prop}{st:St}(h:get st.sl g= .f8 []):BS (⟨i,d,o,some (g,w),a⟩::r) k st=BS r k (st.put d (.f8 [])):=by
 simp only[BS,Cx,h]
theorem Zfx{i:Nat}{d:Option Nat}{o:p_}{g:Nat}{w:Bool}{a:List Nat}{r:List c_}{k:St->Prop}{st:St}{b:Bool}(_h:get st.sl g= .bool b)(h1:b=true->BS (⟨i,d,o,some (g,w),a⟩::r) k st)(j:b=false->BS (⟨i,d,o,some (g,w),a⟩::r) k st):BS (⟨i,d,o,some (g,w),a⟩::r) k st:=by
 cases b
 ·exact j rfl
 exact h1 rfl
theorem Zii{c:T_}{x y:ACode}{k:CA}{st:St}{b:Bool}(_h:c.ev st.sl= .bool b)(h1:b=true->B3 (.cond c x y) k st)(g:b=false->B3 (.cond c x y) k st):B3 (.cond c x y) k st:=by
 cases b
 ·exact g rfl
 exact h1 rfl
theorem Zki(b:Bool)(res:List ARes)(h0:Ac)(Q:V->Ac->Prop)(st:St):rk b res h0 Q .ret st=(match Fp st res with
 |some v=>if b then v.flat2=true/\st.hp.take h0.length=h0/\Q v h0 else Q v st.hp
 |none=>False):=rfl
theorem ZfC(b:Bool)(res:List ARes)(h0:Ac)(Q:V->Ac->Prop)(st:St):rk b res h0 Q .normal st=(match Fp st res with
 |some v=>if b then v.flat2=true/\st.hp.take h0.length=h0/\Q v h0 else Q v st.hp
 |none=>False):=rfl
def NB{α:Type}(_:α):Type:=Unit
def D7{α:Type}(a:α):NB a:=()
def oV(o:Option V)(f:V->Prop)(_:NB f):Prop:=match o with
 |some v=>f v|none=>False
theorem Ziw(v:V)(f:V->Prop)(t:NB f):oV (some v) f t=f v:=rfl
theorem Zjy(f:V->Prop)(t:NB f):oV none f t=False:=rfl
def oS(o:Option (V×List (List V)×Ac))(s:List V)(d:Option Nat)(k:St->Prop)(_:NB k):Prop:=match o with
 |some (v,bx,hp)=>k (St.put ⟨s,bx,hp⟩ d v)|none=>False
theorem Zim(v:V)(bx:List (List V))(hp:Ac)(s:List V)(d:Option Nat)(k:St->Prop)(t:NB k):oS (some (v,bx,hp)) s d k t=k (St.put ⟨s,bx,hp⟩ d v):=rfl
@[congr] theorem ZlE {c:ACode} {k:CA} {st f4:St} (h:st=f4):B3 c k st=B3 c k f4:=by rw[h]
@[congr] theorem ZlB {o:List c_} {k:St->Prop} {st f4:St} (h:st=f4):BS o k st=BS o k f4:=by rw[h]
@[congr] theorem ZlF {o:p_} {d:Option Nat} {k:St->Prop} {st f4:St} (h:st=f4):AP o d k st=AP o d k f4:=by rw[h]
@[congr] theorem ZlD {n:St->Prop} {k:CA} {e b:AExit} {st f4:St} (g:e=b) (h:st=f4):Gh n k e st=Gh n k b f4:=by rw[g,h]
@[congr] theorem Zly {i:Nat} {k:CA} {e b:AExit} {st f4:St} (g:e=b) (h:st=f4):Jx i k e st=Jx i k b f4:=by rw[g,h]
@[congr] theorem ZlG {b:Bool} {res:List ARes} {h0:Ac} {Q:V->Ac->Prop} {e g:AExit} {st f4:St} (i:e=g) (h:st=f4):rk b res h0 Q e st=rk b res h0 Q g f4:=by rw[i,h]
def rA(k:IntKind):V->Option V
 |.int _ n=>some (.int k (k.wrap n))|_=>none
def cA(off:Nat):V->Option V
 |.box i o=>some (.box i (o+off))|.ptr l o=>some (.ptr l (o+off))|_=>none
def qm(off:Nat)(n:Option Nat):V->Option V
 |.agg cs=>if off+n.getD 1<=cs.length then CS n ((cs.drop off).take (n.getD 1))else none|_=>none
def oe(w:Nat):V->V->Option V
 |.slice l o n,.int _ j=>if 0<=j/\j<n then some (.ptr l (o+j.toNat*w))else none|_,_=>none
def Pb:V->Option V
 |.X_=>some (.int .i64 0)|.slice _ _ n=>some (.int .i64 n)|_=>none
def Tt(i:Nat):V->Option V
 |.f8 vs=>vs[i]?|_=>none
def pQ(bx:List (List V))(i:Nat)(n:Option Nat):V->Option V
 |.box j o=>if i=j/\o+n.getD 1<=(A3 bx i).length then CS n (((A3 bx i).drop o).take (n.getD 1))else none|_=>none
def LS(hp:Ac)(n:Option Nat):V->Option V
 |.ptr l o=>(rd hp l o (n.getD 1)).bind λcs=>CS n cs
 |_=>none
def eF(b:List V)(cs:Option (List V)):Option V:=if b.all V.cell then cs.bind λcs=>some (.agg cs)else none
def cZ(bx:List (List V))(hp:Ac)(i n:Nat)(a x:V):Option (V×List (List V)×Ac):=match a with
 |.box j o=>if i=j/\i<bx.length/\x.cells.length=n/\o+n<=(A3 bx i).length/\x.cells.all V.cell then some (.undef,C6 bx i (e_ (A3 bx i) o x.cells),hp)else none|_=>none
def Ew(bx:List (List V))(hp:Ac)(n:Nat)(a x:V):Option (V×List (List V)×Ac):=match a with
 |.ptr l o=>if x.cells.length=n/\x.cells.all V.cell then (wr hp l o x.cells).bind λh=>some (.undef,bx,h)else none
 |_=>none
def Xh(bx:List (List V))(hp:Ac)(w n:Nat)(b:List V)(cs:Option (List V)):Option (V×List (List V)×Ac):=
 if n=0 then some (.X_,bx,hp)
 else if b.all V.cell/\b.length=n*w/\0<w then cs.bind λcs=>some (.slice hp.length 0 n,bx,hp++[⟨.own,w,cs⟩])
 else none
def eL(bx:List (List V))(hp:Ac)(i n:Nat)(x:V):Option (V×List (List V)×Ac):=if i<bx.length/\x.cells.length=n/\x.cells.all V.cell then some (.box i 0,C6 bx i x.cells,hp)else none
def cC(bx:List (List V))(hp:Ac)(i:Nat)(b:List V):Option (V×List (List V)×Ac):=if i<bx.length/\b.all V.cell then some (.box i 0,C6 bx i b,hp)else none
def UD(bx:List (List V))(hp:Ac)(w:Nat)(x y:V):Option (V×List (List V)×Ac):=if 0<w then (app hp w x y).bind λ(v,h)=>some (v,bx,h)else none
def rS(f:Bg)(args:List V)(d:Option Nat)(k:St->Prop)(st:St)(_:NB k):Prop:=f args st.hp λr h=>k (St.put { st with hp:=h } d r)
theorem dk{o:Option V}{k:St->Prop}{st:St}{d:Option Nat}:(match o.bind (λv=>(some (v,st.bx,st.hp):Option (V×List (List V)×Ac)))with
 |some (v,bx,hp)=>k (St.put { sl:=st.sl,bx,hp } d v)
 |none=>False)=oV o (λv=>k (st.put d v)) (D7 _):=by
 cases o<;>rfl
theorem TC{o:Option (V×List (List V)×Ac)}{s:List V}{k:St->Prop}{d:Option Nat}:(match o with
 |some (v,bx,hp)=>k (St.put { sl:=s,bx,hp } d v)
 |none=>False)=oS o s d k (D7 k):=by
 cases o<;>rfl
theorem Zj8{c:Prop}{_:Decidable c}{v:V}{k:St->Prop}{st:St}{d:Option Nat}:(match (if c then some (v,st.bx,st.hp)else (none:Option (V×List (List V)×Ac)))with
 |some (v,bx,hp)=>k (St.put { sl:=st.sl,bx,hp } d v)
 |none=>False)=oV (if c then some v else none) (λv=>k (st.put d v)) (D7 _):=by
 by_cases h:c<;>simp only[h,AX,A5]<;>rfl
theorem pZ {c:Prop}{_:Decidable c}{o:Option V}{k:St->Prop}{st:St}{d:Option Nat}:(match (if c then o.bind (λv=>(some (v,st.bx,st.hp):Option (V×List (List V)×Ac)))else none)with
 |some (v,bx,hp)=>k (St.put { sl:=st.sl,bx,hp } d v)
 |none=>False)=oV (if c then o else none) (λv=>k (st.put d v)) (D7 _):=by
 by_cases h:c<;>simp only[h,AX,A5]
 ·cases o<;>rfl
 rfl
theorem bind_some{α:Type}(o:Option α):(o.bind λx=>some x)=o:=by cases o<;>rfl
section
variable {d:Option Nat} {k:St->Prop} {st:St}
theorem ZjL(x:T_):AP (.mv x) d k st=k (st.put d (x.ev st.sl)):=rfl
theorem Zb7{c a b:T_}(h:c.ev st.sl= .bool true):AP (.pick c a b) d k st=k (st.put d (a.ev st.sl)):=by simp only[AP,Af,h];rfl
theorem ZaY{c a b:T_}(h:c.ev st.sl= .bool false):AP (.pick c a b) d k st=k (st.put d (b.ev st.sl)):=by simp only[AP,Af,h];rfl
theorem ZcN{c a b:T_}{t:Bool}(_h:c.ev st.sl= .bool t)(h1:t=true->AP (.pick c a b) d k st)(g:t=false->AP (.pick c a b) d k st):AP (.pick c a b) d k st:=by
 cases t
 ·exact g rfl
 exact h1 rfl
theorem Zjb(op:BinOp)(x y:T_):AP (.bin op x y) d k st=oV (CO op (x.ev st.sl) (y.ev st.sl)) (λv=>k (st.put d v)) (D7 _):=dk
theorem Zkn(op:UnOp)(x:T_):AP (.un op x) d k st=oV (JK op (x.ev st.sl)) (λv=>k (st.put d v)) (D7 _):=dk
theorem ZhW(q:IntKind)(x:T_):AP (.conv q x) d k st=oV (rA q (x.ev st.sl)) (λv=>k (st.put d v)) (D7 _):=by simp only[AP,Af];cases x.ev st.sl<;>rfl
theorem Ze6(off:Nat)(x:T_):AP (.f5 off x) d k st=oV (cA off (x.ev st.sl)) (λv=>k (st.put d v)) (D7 _):=by simp only[AP,Af];cases x.ev st.sl<;>rfl
theorem Zfo(off:Nat)(n:Option Nat)(x:T_):AP (.field off n x) d k st=oV (qm off n (x.ev st.sl)) (λv=>k (st.put d v)) (D7 _):=by
 simp only[AP,Af];cases x.ev st.sl<;>try rfl
 exact pZ
theorem ZeJ(w:Nat)(x i:T_):AP (.m_ w x i) d k st=oV (oe w (x.ev st.sl) (i.ev st.sl)) (λv=>k (st.put d v)) (D7 _):=by
 simp only[AP,Af];cases x.ev st.sl<;>try rfl
 cases i.ev st.sl<;>try rfl
 exact Zj8
theorem Zjn(x:T_):AP (.len x) d k st=oV (Pb (x.ev st.sl)) (λv=>k (st.put d v)) (D7 _):=by simp only[AP,Af];cases x.ev st.sl<;>rfl
theorem Zdz(x:T_)(i:Nat):AP (.extract x i) d k st=oV (Tt i (x.ev st.sl)) (λv=>k (st.put d v)) (D7 _):=by
 simp only[AP,Af];cases x.ev st.sl<;>try rfl
 rename_i b;simp only[Tt];cases b[i]?<;>rfl
theorem Zgn(i:Nat)(n:Option Nat)(a:T_):AP (.d6 i n a) d k st=oV (pQ st.bx i n (a.ev st.sl)) (λv=>k (st.put d v)) (D7 _):=by
 simp only[AP,Af];cases a.ev st.sl<;>try rfl
 exact pZ
theorem ZgN(n:Option Nat)(a:T_):AP (.g9 n a) d k st=oV (LS st.hp n (a.ev st.sl)) (λv=>k (st.put d v)) (D7 _):=by
 simp only[AP,Af];cases a.ev st.sl<;>try rfl
 simp only[LS];rename_i l o;cases rd st.hp l o (n.getD 1)<;>try rfl
 exact dk
theorem Zgy(b:List V)(g:List (Nat×Nat×T_)):AP (.build b g) d k st=oV (eF b (D4 st.sl b g)) (λv=>k (st.put d v)) (D7 _):=by
 simp only[AP,Af,eF];by_cases h:b.all V.cell=true
 ·simp only[h,AX];cases D4 st.sl b g<;>rfl
 simp only[h];rfl
theorem ZeT(i n:Nat)(a x:T_):AP (.U_ i n a x) d k st=oS (cZ st.bx st.hp i n (a.ev st.sl) (x.ev st.sl)) st.sl d k (D7 k):=by
 simp only[AP,Af,cZ];cases a.ev st.sl<;>first|rfl|exact TC
theorem Zeb(n:Nat)(a x:T_):AP (.f6 n a x) d k st=oS (Ew st.bx st.hp n (a.ev st.sl) (x.ev st.sl)) st.sl d k (D7 k):=by
 simp only[AP,Af,Ew];cases a.ev st.sl<;>first|rfl|exact TC
theorem Zdl(w n:Nat)(b:List V)(g:List (Nat×Nat×T_)):AP (.d4 w n b g) d k st=oS (Xh st.bx st.hp w n b (D4 st.sl b g)) st.sl d k (D7 k):=by
 simp only[AP,Af,Xh];by_cases h:n=0<;>simp only[h,AX,A5]
 ·rfl
 by_cases i:b.all V.cell=true/\b.length=n*w/\0<w<;>simp only[i,AX,A5,and_self]
 ·cases D4 st.sl b g<;>rfl
 rfl
theorem Zib(i n:Nat)(x:T_):AP (.boxB i n x) d k st=oS (eL st.bx st.hp i n (x.ev st.sl)) (r_ i st.sl) d k (D7 k):=by
 simp only[AP,Af,eL];exact TC
theorem Zek(i:Nat)(b:List V):AP (.d7 i b) d k st=oS (cC st.bx st.hp i b) (r_ i st.sl) d k (D7 k):=by
 simp only[AP,Af,cC];exact TC
theorem ZiG(w:Nat)(x y:T_):AP (.app w x y) d k st=oS (UD st.bx st.hp w (x.ev st.sl) (y.ev st.sl)) st.sl d k (D7 k):=by
 simp only[AP,Af,UD];exact TC
theorem ZhV(f:Bg)(args:List T_):AP (.call f args) d k st=((args.map (·.ev st.sl)).all V.ok1=true/\rS f (args.map (·.ev st.sl)) d k st (D7 k)):=rfl
end
section
variable {k:IntKind}
theorem Zf0(q:IntKind)(n:Int):rA q (.int k n)=some (.int q (q.wrap n)):=rfl
theorem Zc9(off i o:Nat):cA off (.box i o)=some (.box i (o+off)):=rfl
theorem Zda(off l o:Nat):cA off (.ptr l o)=some (.ptr l (o+off)):=rfl
theorem Zes(off:Nat)(n:Option Nat)(cs:List V):qm off n (.agg cs)=if off+n.getD 1<=cs.length then CS n ((cs.drop off).take (n.getD 1))else none:=rfl
theorem Zey:Pb .X_=some (.int .i64 0):=rfl
theorem Zhi(l o n:Nat):Pb (.slice l o n)=some (.int .i64 n):=rfl
theorem Zd8(v:V)(b:List V):Tt 0 (.f8 (v::b))=some v:=rfl
theorem ZdT(i:Nat)(v:V)(b:List V):Tt (i+1) (.f8 (v::b))=Tt i (.f8 b):=rfl
theorem ZeE(bx:List (List V))(i:Nat)(n:Option Nat)(j o:Nat):pQ bx i n (.box j o)=if i=j/\o+n.getD 1<=(A3 bx i).length then CS n (((A3 bx i).drop o).take (n.getD 1))else none:=rfl
theorem ZdE(bx:List (List V))(hp:Ac)(i n j o:Nat)(x:V):cZ bx hp i n (.box j o) x=if i=j/\i<bx.length/\x.cells.length=n/\o+n<=(A3 bx i).length/\x.cells.all V.cell then some (.undef,C6 bx i (e_ (A3 bx i) o x.cells),hp)else none:=rfl
theorem ZfV(a b:Int):CO .add (.int k a) (.int k b)=some (.int k (k.wrap (a+b))):=by simp[CO,Em]
theorem Zf5(a b:Int):CO .sub (.int k a) (.int k b)=some (.int k (k.wrap (a-b))):=by simp[CO,Em]
theorem ZfN(a b:Int):CO .mul (.int k a) (.int k b)=some (.int k (k.wrap (a*b))):=by simp[CO,Em]
theorem Zfb(a b:Int):CO .rem (.int k a) (.int k b)=if b=0 then none else some (.int k (a.tmod b)):=by simp[CO,Em]
theorem ZfP(a b:Int):CO .eql (.int k a) (.int k b)=some (.bool (a == b)):=by simp[CO,Em]
theorem Zgg(a b:Int):CO .neq (.int k a) (.int k b)=some (.bool (a != b)):=by simp[CO,Em]
theorem Zf3(a b:Int):CO .lss (.int k a) (.int k b)=some (.bool (decide (a<b))):=by simp[CO,Em]
theorem Zf8(a b:Int):CO .leq (.int k a) (.int k b)=some (.bool (decide (a<=b))):=by simp[CO,Em]
theorem Zgl(a b:Int):CO .gtr (.int k a) (.int k b)=some (.bool (decide (a > b))):=by simp[CO,Em]
theorem ZgE(a b:Int):CO .geq (.int k a) (.int k b)=some (.bool (decide (a>=b))):=by simp[CO,Em]
theorem Zhe(b:Bool):JK .not (.bool b)=some (.bool (!b)):=rfl
theorem Zhd(n:Int):JK .neg (.int k n)=some (.int k (k.wrap (0-n))):=rfl
theorem Zdh(d:Nat):Ey d none=some d:=rfl
theorem Ze1(d:Nat)(i:Int):Ey d (some (.int k i))=if 0<=i then some i.toNat else none:=rfl
theorem Zez(n:Nat)(cs:List V):CS (some n) cs=some (.agg cs):=rfl
theorem Zee(v:V):CS none [v]=some v:=rfl
end
theorem V.cell_undef:V.cell V.undef=false:=rfl
theorem V.cells_undef:V.cells V.undef=[V.undef]:=rfl
theorem V.ok1_undef:V.ok1 V.undef=false:=rfl
theorem V.flat_undef:V.flat V.undef=false:=rfl
theorem V.flat1_undef:V.flat1 V.undef=false:=rfl
theorem V.flat2_undef:V.flat2 V.undef=false:=rfl
theorem V.isBox_undef(i:Nat):V.isBox i V.undef=false:=rfl
theorem V.cell_bool(b:Bool):V.cell (V.bool b)=true:=rfl
theorem V.cells_bool(b:Bool):V.cells (V.bool b)=[(V.bool b)]:=rfl
theorem V.ok1_bool(b:Bool):V.ok1 (V.bool b)=true:=rfl
theorem V.flat_bool(b:Bool):V.flat (V.bool b)=true:=rfl
theorem V.flat1_bool(b:Bool):V.flat1 (V.bool b)=true:=rfl
theorem V.flat2_bool(b:Bool):V.flat2 (V.bool b)=true:=rfl
theorem V.isBox_bool(i:Nat)(b:Bool):V.isBox i (V.bool b)=false:=rfl
theorem V.cell_int(k:IntKind)(n:Int):V.cell (V.int k n)=true:=rfl
theorem V.cells_int(k:IntKind)(n:Int):V.cells (V.int k n)=[(V.int k n)]:=rfl
theorem V.ok1_int(k:IntKind)(n:Int):V.ok1 (V.int k n)=true:=rfl
theorem V.flat_int(k:IntKind)(n:Int):V.flat (V.int k n)=true:=rfl
theorem V.flat1_int(k:IntKind)(n:Int):V.flat1 (V.int k n)=true:=rfl
theorem V.flat2_int(k:IntKind)(n:Int):V.flat2 (V.int k n)=true:=rfl
theorem V.isBox_int(i:Nat)(k:IntKind)(n:Int):V.isBox i (V.int k n)=false:=rfl
theorem V.cell_str(s:Kx):V.cell (V.str s)=true:=rfl
theorem V.cells_str(s:Kx):V.cells (V.str s)=[(V.str s)]:=rfl
theorem V.ok1_str(s:Kx):V.ok1 (V.str s)=true:=rfl
theorem V.flat_str(s:Kx):V.flat (V.str s)=true:=rfl
theorem V.flat1_str(s:Kx):V.flat1 (V.str s)=true:=rfl
theorem V.flat2_str(s:Kx):V.flat2 (V.str s)=true:=rfl
theorem V.isBox_str(i:Nat)(s:Kx):V.isBox i (V.str s)=false:=rfl
theorem V.cell_nils:V.cell V.X_=true:=rfl
theorem V.cells_nils:V.cells V.X_=[V.X_]:=rfl
theorem V.ok1_nils:V.ok1 V.X_=true:=rfl
theorem V.flat_nils:V.flat V.X_=true:=rfl
theorem V.flat1_nils:V.flat1 V.X_=true:=rfl
theorem V.flat2_nils:V.flat2 V.X_=true:=rfl
theorem V.isBox_nils(i:Nat):V.isBox i V.X_=false:=rfl
theorem V.cell_slice(l o n:Nat):V.cell (V.slice l o n)=true:=rfl
theorem V.cells_slice(l o n:Nat):V.cells (V.slice l o n)=[(V.slice l o n)]:=rfl
theorem V.ok1_slice(l o n:Nat):V.ok1 (V.slice l o n)=true:=rfl
theorem V.flat_slice(l o n:Nat):V.flat (V.slice l o n)=false:=rfl
theorem V.flat1_slice(l o n:Nat):V.flat1 (V.slice l o n)=false:=rfl
theorem V.flat2_slice(l o n:Nat):V.flat2 (V.slice l o n)=false:=rfl
theorem V.isBox_slice(i:Nat)(l o n:Nat):V.isBox i (V.slice l o n)=false:=rfl
theorem V.cell_box(j o:Nat):V.cell (V.box j o)=false:=rfl
theorem V.cells_box(j o:Nat):V.cells (V.box j o)=[(V.box j o)]:=rfl
theorem V.ok1_box(j o:Nat):V.ok1 (V.box j o)=false:=rfl
theorem V.flat_box(j o:Nat):V.flat (V.box j o)=false:=rfl
theorem V.flat1_box(j o:Nat):V.flat1 (V.box j o)=false:=rfl
theorem V.flat2_box(j o:Nat):V.flat2 (V.box j o)=false:=rfl
theorem V.isBox_box(i:Nat)(j o:Nat):V.isBox i (V.box j o)=(i == j):=rfl
theorem V.cell_ptr(l o:Nat):V.cell (V.ptr l o)=true:=rfl
theorem V.cells_ptr(l o:Nat):V.cells (V.ptr l o)=[(V.ptr l o)]:=rfl
theorem V.ok1_ptr(l o:Nat):V.ok1 (V.ptr l o)=true:=rfl
theorem V.flat_ptr(l o:Nat):V.flat (V.ptr l o)=false:=rfl
theorem V.flat1_ptr(l o:Nat):V.flat1 (V.ptr l o)=false:=rfl
theorem V.flat2_ptr(l o:Nat):V.flat2 (V.ptr l o)=false:=rfl
theorem V.isBox_ptr(i:Nat)(l o:Nat):V.isBox i (V.ptr l o)=false:=rfl
theorem V.cell_ifc(b:Bool):V.cell (V.ifc b)=true:=rfl
theorem V.cells_ifc(b:Bool):V.cells (V.ifc b)=[(V.ifc b)]:=rfl
theorem V.ok1_ifc(b:Bool):V.ok1 (V.ifc b)=true:=rfl
theorem V.flat_ifc(b:Bool):V.flat (V.ifc b)=true:=rfl
theorem V.flat1_ifc(b:Bool):V.flat1 (V.ifc b)=true:=rfl
theorem V.flat2_ifc(b:Bool):V.flat2 (V.ifc b)=true:=rfl
theorem V.isBox_ifc(i:Nat)(b:Bool):V.isBox i (V.ifc b)=false:=rfl
theorem V.cell_agg(cs:List V):V.cell (V.agg cs)=false:=rfl
theorem V.cells_agg(cs:List V):V.cells (V.agg cs)=cs:=rfl
theorem V.ok1_agg(cs:List V):V.ok1 (V.agg cs)=cs.all V.cell:=rfl
theorem V.flat_agg(cs:List V):V.flat (V.agg cs)=false:=rfl
theorem V.flat1_agg(cs:List V):V.flat1 (V.agg cs)=cs.all V.flat:=rfl
theorem V.flat2_agg(cs:List V):V.flat2 (V.agg cs)=cs.all V.flat:=rfl
theorem V.isBox_agg(i:Nat)(cs:List V):V.isBox i (V.agg cs)=false:=rfl
theorem V.cell_tup(cs:List V):V.cell (V.f8 cs)=false:=rfl
theorem V.cells_tup(cs:List V):V.cells (V.f8 cs)=[(V.f8 cs)]:=rfl
theorem V.ok1_tup(cs:List V):V.ok1 (V.f8 cs)=false:=rfl
theorem V.flat_tup(cs:List V):V.flat (V.f8 cs)=false:=rfl
theorem V.flat1_tup(cs:List V):V.flat1 (V.f8 cs)=false:=rfl
theorem V.flat2_tup(cs:List V):V.flat2 (V.f8 cs)=cs.all V.flat1:=rfl
theorem V.isBox_tup(i:Nat)(cs:List V):V.isBox i (V.f8 cs)=false:=rfl
theorem Me{f:Bg}{args:List V}{d:Option Nat}{k:St->Prop}{st:St}{t:NB k}(p:f args st.hp λr h=>k (St.put ⟨st.sl,st.bx,h⟩ d r)):rS f args d k st t:=p
theorem mJ {body:ACode} {live:List Nat} {k:CA} (I:Nat->St->Prop)
 (hs:∀(m:Nat) (st:St) (next:St->Prop),I m st->(∀(g:Nat) (f4:St),g<m->I g { f4 with sl:=keep live 0 f4.sl }->next f4)->B3 body (Gh next k) st):
 ∀(b m:Nat) (st:St),m<b->I m { st with sl:=keep live 0 st.sl }->Pq (B3 body) live k b st
 |0,m,st,h,_=>absurd h (Pa m)
 |b+1,m,st,h,hI=>hs m _ _ hI λg f4 hm i=>mJ I hs b g f4 (by omega) i
theorem Zi8 {body:ACode} {live:List Nat} {k:CA} {st:St} (I:Nat->St->Prop) (m:Nat) (h0:I m { st with sl:=keep live 0 st.sl })
 (hs:∀(m:Nat) (st:St) (next:St->Prop),I m st->(∀(b:Nat) (f4:St),b<m->I b { f4 with sl:=keep live 0 f4.sl }->next f4)->B3 body (Gh next k) st):
 B3 (.loop live body) k st:=⟨m+1,mJ I hs (m+1) m st (Ua m) h0⟩
theorem M9 {body:ACode} {live:List Nat} {k:CA} {st:St} (n:Nat) (I:Nat->St->Prop) (h0:I 0 { st with sl:=keep live 0 st.sl })
 (hs:∀(i:Nat) (st:St) (next:St->Prop),i<=n->I i st->(∀f4:St,i<n->I (i+1) { f4 with sl:=keep live 0 f4.sl }->next f4)->B3 body (Gh next k) st):
 B3 (.loop live body) k st:=by
 refine Zi8 (λm st=>∃i,i<=n/\m=n-i/\I i st) n ⟨0,Ec n,rfl,h0⟩ λm st next g j=>?_
 obtain⟨i,hi,hm,g⟩:=g;exact hs i st next hi g λf4 q b=>j (n-(i+1)) f4 (by omega) ⟨i+1,by omega,rfl,b⟩
attribute [go_sem] Cw ZhK Zem Ziu Zgr Zg1 Ziq ZdO Zid Zfg Zb1 Zec Zdw Zhy Zet ZhC ZhM Zir ZgP Zfj eq_self ZgY ZhI Zfr ZjL Zb7 ZaY Zjb Zkn ZhW Ze6 Zfo ZeJ Zjn ZiG Zdz Zek Zib Zgy Zdl Zgn ZgN ZeT Zeb ZhV Ziw Zjy Zim Zf0 Zc9 Zda Zes Zey Zhi Zd8 ZdT ZeE eF ZdE eL cC ZfV Zf5 ZfN Zfb ZfP Zgg Zf3 Zf8 Zgl ZgE Zhe Zhd Zdh Ze1 Zez Zee Zki ZfC Fp HE Fe Zlg Zlj ZkN Zk7 put A3 C6 e_ V.cell_undef V.cells_undef V.ok1_undef V.flat_undef V.flat1_undef V.flat2_undef V.isBox_undef V.cell_bool V.cells_bool V.ok1_bool V.flat_bool V.flat1_bool V.flat2_bool V.isBox_bool V.cell_int V.cells_int V.ok1_int V.flat_int V.flat1_int V.flat2_int V.isBox_int V.cell_str V.cells_str V.ok1_str V.flat_str V.flat1_str V.flat2_str V.isBox_str V.cell_nils V.cells_nils V.ok1_nils V.flat_nils V.flat1_nils V.flat2_nils V.isBox_nils V.cell_slice V.cells_slice V.ok1_slice V.flat_slice V.flat1_slice V.flat2_slice V.isBox_slice V.cell_box V.cells_box V.ok1_box V.flat_box V.flat1_box V.flat2_box V.isBox_box V.cell_ptr V.cells_ptr V.ok1_ptr V.flat_ptr V.flat1_ptr V.flat2_ptr V.isBox_ptr V.cell_ifc V.cells_ifc V.ok1_ifc V.flat_ifc V.flat1_ifc V.flat2_ifc V.isBox_ifc V.cell_agg V.cells_agg V.ok1_agg V.flat_agg V.flat1_agg V.flat2_agg V.isBox_agg V.cell_tup V.cells_tup V.ok1_tup V.flat_tup V.flat1_tup V.flat2_tup V.isBox_tup r_ keep St.put p_.clears EE HK Dz CL List.map F7 YC Mb GH Bool.not_false Hv Option.bind Option.getD_none Jr AX A5 Hu not_false_eq_true ON AZ Bool.true_eq_false A0 A7 List.take List.drop Ib GD D4 F6 decide_true decide_false Int.lt_irrefl Int.le_refl beq_self_eq_true BJ Fg BN
section
variable {α:Type}
def AV(f:α->Int->α×Int):List α->Int->List α×Int
 |[],m=>([],m)|a::r,m=>((f a m).1::(AV f r (f a m).2).1,(AV f r (f a m).2).2)
def A8(f:α->Int->α×Int)(l:List α)(m:Int)(i:Nat):List α×Int:=((AV f (l.take i) m).1++l.drop i,(AV f (l.take i) m).2)
theorem Ht(f:α->Int->α×Int):∀(l:List α) (m:Int),(AV f l m).1.length=l.length
 |[],_=>rfl
 |a::r,m=>by simp only[AV,A0,Ht f r]
theorem mr(f:α->Int->α×Int):∀(l k:List α) (m:Int),AV f (l++k) m=((AV f l m).1++(AV f k (AV f l m).2).1,(AV f k (AV f l m).2).2)
 |[],k,m=>rfl
 |a::r,k,m=>by simp only[Dz,AV,mr f r k]
theorem MR(f:α->Int->α×Int)(l:List α)(m:Int):A8 f l m 0=(l,m):=rfl
theorem Hj(f:α->Int->α×Int)(l:List α)(m:Int):A8 f l m l.length=AV f l m:=by simp[A8]
theorem FA(f:α->Int->α×Int)(l:List α)(m:Int)(i:Nat):(A8 f l m i).1.length=l.length:=by
 simp only[A8,CM,Ht,C9,Nk];omega
theorem Zf9(f:α->Int->α×Int)(l:List α)(m:Int)(i:Nat)(d:α):(A8 f l m i).1.getD i d=l.getD i d:=by
 simp only[A8,C0];rcases Bz i l.length with h|h
 ·rw[Dj (by rw[Ht,C9];omega),Ht,C9,L4];congr 2;omega
 rw[BR (by simp[Ht];omega),BR h]
theorem QA(f:α->Int->α×Int)(l:List α)(m:Int){i:Nat}(hi:i<l.length)(d:α):A8 f l m (i+1)=((A8 f l m i).1.set i (f (l.getD i d) (A8 f l m i).2).1,(f (l.getD i d) (A8 f l m i).2).2):=by
 have h1:l.take (i+1)=l.take i++[l.getD i d]:=by
  rw[Yr,C0,Bc hi];rfl
 simp only[A8,h1,mr,AV];refine Prod.ext ?_ rfl;have b:(AV f (l.take i) m).1.length=i:=by rw[Ht,C9];omega
 simp only;rw[List.set_append_right _ _ (by omega),b,Yw,Rh hi,List.set_cons_zero,Cj];rfl
end
def Zky:IntKind->Int->Int
 |.i64,m=>m|k,m=>k.wrap m
mutual
def CT.mkI:(t:CT)->t.D->Int->t.D×Int
 |.int k,_,m=>(Zky k m,IntKind.i64.wrap (m+1))|.bool,_,m=>((m.tmod 3 == 0:Bool),IntKind.i64.wrap (m+1))|.str,s,m=>(s,m)|.ifc,b,m=>(b,m)|.sl r,l,m=>AV (RT.mkI r) l m|.slf _,l,m=>(l,m)
def RT.mkI:(r:RT)->r.D->Int->r.D×Int
 |.one t,x,m=>CT.mkI t x m|.cons t r,x,m=>(((CT.mkI t x.1 m).1,(RT.mkI r x.2 (CT.mkI t x.1 m).2).1),(RT.mkI r x.2 (CT.mkI t x.1 m).2).2)
end
def CT.mkT:(t:CT)->t.D->Int->t.D×Int
 |.sl r,l,m=>AV (RT.mkI r) l m|_,x,m=>(x,m)
def RT.mkT:(r:RT)->r.D->Int->r.D×Int
 |.one t,x,m=>CT.mkT t x m|.cons t r,x,m=>(((CT.mkT t x.1 m).1,(RT.mkT r x.2 (CT.mkT t x.1 m).2).1),(RT.mkT r x.2 (CT.mkT t x.1 m).2).2)
mutual
def CT.wl:(t:CT)->t.D->Prop
 |.sl r,l=>l.length<=9223372036854775807/\∀a:r.D,List.Mem a l->RT.wl r a|_,_=>True
def RT.wl:(r:RT)->r.D->Prop
 |.one t,x=>CT.wl t x|.cons t r,x=>CT.wl t x.1/\RT.wl r x.2
end
section
variable {h h':Ac} {ω:Nat->W} {hd:Hd} {p:List Nat}
abbrev GM (ω:Nat->W) (hd:Hd) (p:List Nat):Nat->Prop:=λl=>∃q,ω l= .own hd (p++q)
abbrev MS (h:Ac) (ω:Nat->W) (hd:Hd) (p:List Nat) (r:RT) (l:List r.D) (u:V):Prop:=RM h ω hd p (.sl .own (l.map r.enc)) u
theorem MS.rc{r:RT}{l:List r.D}{u:V}(M:MS h ω hd p r l u){i:Nat}(hi:i<l.length):RC h ω (.inn hd p) (.sl .own (l.map r.enc)) u:=by
 rcases M with M|⟨e,_⟩
 ·exact M
 have:(l.map r.enc).length=0:=by rw[(PV.sl.inj e).2];rfl
 rw[Bh]at this;omega
theorem RM.back{g es:List (List PV)}{u:V}(h0:RC h ω (.inn hd p) (.sl .own g) u)(i:RM h' ω hd p (.sl .own es) u):RC h' ω (.inn hd p) (.sl .own es) u:=by
 rcases i with r|⟨_,l,o,rfl⟩
 ·exact r
 cases h0 with
 |sl _ _ _ _ _ _ b h1 q s n j=>exact absurd (Dq j.symm) (n rfl (.inl rfl))
theorem MS.len{r:RT}{l:List r.D}{u:V}(M:MS h ω hd p r l u):Pb u=some (.int .i64 (l.length:Int)):=by
 have e:=RM.ln M;rw[Bh]at e;rw[<- e];rcases M with M|⟨_,l',o,rfl⟩
 ·clear e;generalize l.map r.enc=es at M;cases M<;>rfl
 rfl
theorem MS.ok1{r:RT}{l:List r.D}{u:V}(M:MS h ω hd p r l u):u.ok1=true/\u.cell=true:=by
 rcases M with M|⟨_,l',o,rfl⟩
 ·generalize l.map r.enc=es at M;cases M<;>exact⟨rfl,rfl⟩
 exact⟨rfl,rfl⟩
theorem MS.slice{r:RT}{l:List r.D}{u:V}(M:MS h ω hd p r l u)(g:0<l.length):∃b,u= .slice b 0 l.length:=by
 have e:=RM.ln M;rw[Bh]at e;replace M:=M.rc g;generalize l.map r.enc=es at M;cases M with
 |nil=>rw[<- e]at g;cases g
 | sl _ _ _ b o n bk h1 hk hc f9 hn hw hle hr=>
   obtain⟨_,rfl,_⟩:=hc;exact⟨b,by rw[<- e];rfl⟩
theorem MS.upd {r:RT} {l:List r.D} {b n:Nat} (M:MS h ω hd p r l (.slice b 0 n)) {i off:Nat} (hi:i<l.length) (U:off<r.w) {y:r.D} {c:PV} (hy:r.enc y=AY (r.enc (l.getD i r.dflt)) off [c])
 {z:Blk} (h1:h[b]?=some z) {cs':List V} (O:h'[b]?=some { z with cs:=cs' }) (L:cs'.length=z.cs.length) {v:V} (J:∀k,get cs' k=if k=i*r.w+off then v else get z.cs k)
 (Z:∀x,x≠b->(∀q,ω x≠.own hd (p++(i*r.w+off)::q))->h'[x]?=h[x]?) (hc:RC h' ω (.inn hd (p++[i*r.w+off])) c v):MS h' ω hd p r (l.set i y) (.slice b 0 n):=by
 replace M:=M.rc hi;refine .inl ?_;rw[<- cV,hy,<- LU r l i hi];generalize Y:l.map r.enc=es at M;have G:l.length=es.length:=by rw[<- Y,Bh]
 have F:∀e∈es,e.length=r.w:=by rw[<- Y];intro e h;obtain⟨x,_,rfl⟩:=List.mem_map.1 h;exact L0 r x
 have g:i<es.length:=by rw[<- G];exact hi
 cases M with
 | sl _ _ _ _ o _ bk' h1b hk hch f9 C hw hle hr=>
   rw[h1]at h1b;cases h1b;have A:z.w=r.w:=(by rw[<- hw _ (Fc (l:=es) g)];exact F _ (Fc g));have I:=Yp hw g;obtain⟨u,_,N⟩:=hch;refine RC.sl _ .own _ b 0 n { z with cs:=cs' } O hk ⟨u,rfl,N⟩ (λ_ _ h=>by have:=congrArg List.length h;rw[M5]at this;simp only[A7]at this;omega) (by rw[M5];exact C) (eI hw (by rw[HW];exact I)) (by rw[M5];simp only[L];exact hle) λk t=>?_;simp only[M5]at t;rw[nq hw g (by rw[A];simp only[A0,A7];omega) k t,BJ,J];simp only[A0,A7,A];by_cases s:k=i*r.w+off
   ·subst s;rw[Ad ⟨by omega,by omega⟩,Ad rfl,Yw];exact hc
   rw[Ae (by omega),Ae s];have R:=hr k t;rw[BJ]at R;refine R.inn0 (f:=Ren.id) (T:=λx=>x=b\/∃q,ω x= .own hd (p++(i*r.w+off)::q)) ⟨λx e=>⟨e,Z x (by rintro rfl;rw[u]at e;cases e) (λq j=>by rw[e]at j;cases j)⟩,λx a q e C=>⟨by rw[e];rfl,Z x (λh=>C (.inl h)) (λq' j=>C (.inr ⟨q',j⟩))⟩⟩ (λx q e hT=>?_) (λq=>rfl);rcases hT with rfl|⟨q',j⟩
   ·rw[u]at e;simp only[W.own.injEq]at e;have:=congrArg List.length e.2;simp at this
   rw[e]at j;simp only[W.own.injEq,Cj,Dz,CL,List.append_cancel_left_eq,GJ]at j;exact s j.2.1
theorem MS.store {r:RT} {l:List r.D} {b n:Nat} (M:MS h ω hd p r l (.slice b 0 n)) {i off:Nat} (hi:i<l.length) (A:off<r.w) {v:V} (U:v.flat=true) (I:v.cells=[v]) {y:r.D} (hy:r.enc y=AY (r.enc (l.getD i r.dflt)) off [.fl v])
 (Y:∀l l' a q,ω l= .own a q->ω l'= .own a q->l=l') (bx:List (List V)):∃h',Ew bx h 1 (.ptr b (i*r.w+off)) v=some (.undef,bx,h')/\x_ (GM ω hd p) h h'/\MS h' ω hd p r (l.set i y) (.slice b 0 n):=by
 have M0:=M.rc hi;generalize Z:l.map r.enc=es at M0;have J:l.length=es.length:=by rw[<- Z,Bh]
 have G:∀e∈es,e.length=r.w:=by rw[<- Z];intro e h;obtain⟨x,_,rfl⟩:=List.mem_map.1 h;exact L0 r x
 have t:i<es.length:=by rw[<- J];exact hi
 cases M0 with
 | sl _ _ _ _ o _ bk h1 F hch f9 hn hw hle hr=>
   have L:bk.w=r.w:=(by rw[<- hw _ (Fc (l:=es) t)];exact G _ (Fc t));obtain⟨O,_,N⟩:=hch;have h_:i*r.w+off<bk.cs.length:=by
    have:(i+1)*r.w<=es.length*r.w:=Hz _ t;rw[D2,FF]at this;rw[L]at hle;omega
   have hb:b<h.length:=BB h1;have g:∀k,(h.set b { bk with cs:=e_ bk.cs (i*r.w+off) [v] })[k]?=if k=b then some { bk with cs:=e_ bk.cs (i*r.w+off) [v] }else h[k]?:=by
    intro k;rw[Hw];by_cases F:b=k
    ·subst F;simp[hb]
    rw[Ae F,Ae (λh'=>F h'.symm)]
   have j:[v].all V.cell=true:=by
    cases v<;>first|rfl|(simp[V.flat]at U)
   refine⟨h.set b { bk with cs:=e_ bk.cs (i*r.w+off) [v] },?_,⟨by simp,λx s=>?_,λx R s=>?_⟩,M.upd hi A hy h1 (cs':=e_ bk.cs (i*r.w+off) [v]) (v:=v) (by rw[g,Ad rfl]) (Hf _ _ _) (λk=>?_) (λx s _=>by rw[g,Ae s]) (.v _ _ U)⟩
   ·have z:wr h b (i*r.w+off) [v]=some (h.set b { bk with cs:=e_ bk.cs (i*r.w+off) [v] }):=by
     rw[wr,h1];simp only;rw[Ad ⟨N,by simp only[A0,A7];omega⟩]
    simp only[Ew,I,j,A0,A7,z];rfl
   ·rw[g,Ae];rintro rfl;exact s ⟨[],by rw[O];simp⟩
   ·by_cases u:x=b
    ·subst u;rw[h1]at s;cases s;exact⟨{ bk with cs:=e_ bk.cs (i*r.w+off) [v] },by rw[g,Ad rfl],rfl,rfl,Hf _ _ _⟩
    exact⟨R,by rw[g,Ae u];exact s,rfl,rfl,rfl⟩
   rw[W3 _ _ _ _ (by simp only[A0,A7];omega)];simp only[A0,A7];by_cases C:k=i*r.w+off
   ·subst C;rw[Ad ⟨by omega,by omega⟩,Ad rfl,Yw];rfl
   rw[Ae (by omega),Ae C]
theorem MS.load{r:RT}{l:List r.D}{b n:Nat}(M:MS h ω hd p r l (.slice b 0 n)){i off:Nat}(hi:i<l.length)(s:off<r.w){r':RT}{l':List r'.D}(y:Aa (r.enc (l.getD i r.dflt)) off= .sl .own (l'.map r'.enc)):∃u,LS h none (.ptr b (i*r.w+off))=some u/\RC h ω (.inn hd (p++[i*r.w+off])) (.sl .own (l'.map r'.enc)) u/\∃g,h[b]?=some g/\get g.cs (i*r.w+off)=u:=by
 have G:=M.rc hi;rw[<- LU r l i hi]at y;generalize C:l.map r.enc=es at G y;have A:l.length=es.length:=by rw[<- C,Bh]
 have z:∀e∈es,e.length=r.w:=by rw[<- C];intro e h;obtain⟨x,_,rfl⟩:=List.mem_map.1 h;exact L0 r x
 have j:i<es.length:=by rw[<- A];exact hi
 cases G with
 | sl _ _ _ _ o _ g h1 hk hch f9 hn hw hle hr=>
   have q:g.w=r.w:=(by rw[<- hw _ (Fc (l:=es) j)];exact z _ (Fc j));have hm:(i+1)*r.w<=es.length*r.w:=Hz _ j;rw[D2,FF]at hm;have F:i*r.w+off<g.cs.length:=(by rw[q]at hle;omega);have t:=hr (i*r.w+off) (by rw[q];omega);rw[BJ]at t;have I:Aa es.flatten (i*r.w+off)=Aa (Bs es i) off:=LQ (w:=r.w) (by rw[<- q];exact hw) i off s;rw[I,y]at t;refine⟨get g.cs (i*r.w+off),?_,t,g,h1,rfl⟩;have J:rd h b (i*r.w+off) 1=some ((g.cs.drop (i*r.w+off)).take 1):=by
    rw[rd,h1];simp only;rw[Ad ⟨hk,by omega⟩]
   show (rd h b (i*r.w+off) 1).bind (CS none)=_;rw[J];rw[Rh F];simp only[fy,List.take_zero,Jn,CS,CZ,Bc F];rfl
theorem MS.sub {r:RT} {l:List r.D} {b n:Nat} (M:MS h ω hd p r l (.slice b 0 n)) {i off:Nat} (hi:i<l.length) (g:off<r.w) {u:V} {j:Blk} (h1:h[b]?=some j) (N:get j.cs (i*r.w+off)=u)
 (A:x_ (GM ω hd (p++[i*r.w+off])) h h') {r':RT} {l':List r'.D} {C:List (List PV)} (s:RC h ω (.inn hd (p++[i*r.w+off])) (.sl .own C) u) (F:MS h' ω hd (p++[i*r.w+off]) r' l' u) {y:r.D} (J:r.enc y=AY (r.enc (l.getD i r.dflt)) off [.sl .own (l'.map r'.enc)]):
 x_ (GM ω hd p) h h'/\MS h' ω hd p r (l.set i y) (.slice b 0 n):=by
 have z:ω b= .own hd p:=by
  have I:=M.rc hi;generalize l.map r.enc=es at I;cases I with
  |sl _ _ _ _ o _ j h1 G t Y U R O F=>exact t.1
 refine⟨A.mono λx ⟨q,e⟩=>⟨(i*r.w+off)::q,by rw[e];simp⟩,M.upd hi g J h1 (cs':=j.cs) (v:=u) ?_ rfl (λk=>?_) (λx _ L=>A.off x (λ⟨q,e⟩=>L q (by rw[e];simp))) (RM.back s F)⟩
 ·rw[A.off b]
  ·exact h1
  rintro⟨q,e⟩;rw[z]at e;simp only[W.own.injEq]at e;have:=congrArg List.length e.2;simp at this
 split
 ·rename_i G;rw[G,N]
 rfl
theorem MS.frame{r:RT}{l:List r.D}{u:V}(M:MS h ω hd p r l u){i:Nat}(hi:i<l.length):MS h ω hd p r (l.set i (l.getD i r.dflt)) u:=by
 have:l.set i (l.getD i r.dflt)=l:=by
  rw[C0,Bc hi];simp
 rw[this];exact M
theorem bz{r:RT}{l:List r.D}{i:Nat}(hi:i<l.length)(x:r.D):(l.set i x).getD i r.dflt=x:=by
 rw[C0,ft (by simpa using hi)];rfl
theorem MS.st {r:RT} {l:List r.D} {b n i:Nat} {x:r.D} (M:MS h ω hd p r (l.set i x) (.slice b 0 n)) (hi:i<l.length) {off:Nat} (g:off<r.w) {v:V} (z:v.flat=true) (s:v.cells=[v]) {y:r.D} (u:r.enc y=AY (r.enc x) off [.fl v])
 (j:∀l l' a q,ω l= .own a q->ω l'= .own a q->l=l') (bx:List (List V)):∃h',Ew bx h 1 (.ptr b (i*r.w+off)) v=some (.undef,bx,h')/\x_ (GM ω hd p) h h'/\MS h' ω hd p r (l.set i y) (.slice b 0 n):=by
 obtain⟨h',C,A,t⟩:=M.store (i:=i) (off:=off) (by simpa using hi) g z s (y:=y) (by rw[bz hi];exact u) j bx;rw[List.set_set]at t;exact⟨h',C,A,t⟩
theorem MS.sb{r:RT}{l:List r.D}{b n i:Nat}{x:r.D}(M:MS h ω hd p r (l.set i x) (.slice b 0 n))(hi:i<l.length){off:Nat}(g:off<r.w){r':RT}{l':List r'.D}(A:Aa (r.enc x) off= .sl .own (l'.map r'.enc)):∃u,LS h none (.ptr b (i*r.w+off))=some u/\MS h ω hd (p++[i*r.w+off]) r' l' u /\
   ∀(h':Ac) (j:List r'.D) (y:r.D),x_ (GM ω hd (p++[i*r.w+off])) h h'->MS h' ω hd (p++[i*r.w+off]) r' j u->r.enc y=AY (r.enc x) off [.sl .own (j.map r'.enc)]->x_ (GM ω hd p) h h'/\MS h' ω hd p r (l.set i y) (.slice b 0 n):=by
 obtain⟨u,J,s,L,I,G⟩:=M.load (i:=i) (off:=off) (by simpa using hi) g (r':=r') (l':=l') (by rw[bz hi];exact A);refine⟨u,J,.inl s,λh' j y C F z=>?_⟩;obtain⟨t,q⟩:=M.sub (i:=i) (off:=off) (by simpa using hi) g I G C s F (y:=y) (by rw[bz hi];exact z);rw[List.set_set]at q;exact⟨t,q⟩
theorem O5{r:RT}{l:List r.D}(b:CT.wl (.sl r) l){i:Nat}(hi:i<l.length):RT.wl r (l.getD i r.dflt):=by
 rw[C0,Bc hi];exact b.2 _ (Fc hi)
theorem RC.beside{m:Nat}{P:List Nat}{v:PV}{u:V}{S:Nat->Prop}(r:RC h ω (.inn hd (P++[m])) v u)(i:x_ S h h')(g:∀l,S l->∃c q,c≠m/\ω l= .own hd (P++c::q)):RC h' ω (.inn hd (P++[m])) v u:=by
 refine r.inn0 (f:=Ren.id) (T:=S) ⟨λl e=>⟨e,i.off l λhs=>?_⟩,λl a q e j=>⟨by rw[e];rfl,i.off l j⟩⟩ (λl q e hs=>?_) (λq=>rfl)
 ·obtain⟨c,q,_,b⟩:=g l hs;rw[e]at b;cases b
 obtain⟨c,q',n,b⟩:=g l hs;rw[e]at b;simp only[W.own.injEq,Cj,Dz,CL,List.append_cancel_left_eq,GJ]at b;exact n b.2.1.symm
theorem RM.beside{m:Nat}{P:List Nat}{v:PV}{u:V}{S:Nat->Prop}(r:RM h ω hd (P++[m]) v u)(g:x_ S h h')(b:∀l,S l->∃c q,c≠m/\ω l= .own hd (P++c::q)):RM h' ω hd (P++[m]) v u:=r.imp (λr=>r.beside g b) id
theorem RM.cellV{v:PV}{u:V}(r:RM h ω hd p v u)(h:v.argc=true):u.cell=true:=by
 rcases r with r|⟨_,l,o,rfl⟩
 ·exact YT r h
 rfl
theorem RC.cellV{H:Ac}{m:Md}{v:PV}{u:V}(r:RC H ω m v u)(h:v.argc=true):u.cell=true:=YT r h
theorem RC.own1{H:Ac}{m:Md}{es:List (List PV)}{u:V}(r:RC H ω m (.sl .own es) u):u.ok1=true/\u.cell=true/\u.cells=[u]:=by cases r<;>exact⟨rfl,rfl,rfl⟩
theorem RM.own1{es:List (List PV)}{u:V}(r:RM h ω hd p (.sl .own es) u):u.ok1=true/\u.cell=true/\u.cells=[u]:=by
 rcases r with r|⟨_,l,o,rfl⟩
 ·exact r.own1
 exact⟨rfl,rfl,rfl⟩
theorem RC.flat1{H:Ac}{m:Md}{x u:V}(r:RC H ω m (.fl x) u)(b:x≠.undef):u=x:=by
 cases r with
 |undef=>exact absurd rfl b
 |v=>rfl
theorem Mc{x:Int}(h:-9223372036854775808<=x/\x<=9223372036854775807):IntKind.i64.wrap x=x:=by
 rw[IntKind.wrap_i64];omega
theorem Gc{r:RT}{x:r.D}{j:Nat}(h:j<r.w):j<(r.enc x).length:=by rw[L0];exact h
theorem Na{b n w:Nat}{i:Nat}(hi:i<n){k:IntKind}:oe w (.slice b 0 n) (.int k (i:Int))=some (.ptr b (i*w)):=by
 show (if 0<=(i:Int)/\(i:Int)<n then some (V.ptr b (0+(i:Int).toNat*w))else none)=_;rw[Ad (by omega),AG,BJ]
theorem Ou{r:RT}{l:List r.D}{m:Int}{i:Nat}(hi:i<l.length){L:List r.D}{k:Int}(e:A8 r.mkI l m i=(L,k)):L.length=l.length/\A8 r.mkI l m (i+1)=(L.set i (r.mkI (L.getD i r.dflt) k).1,(r.mkI (L.getD i r.dflt) k).2)/\L.getD i r.dflt=l.getD i r.dflt:=by
 have h1:=FA r.mkI l m i;have b:=Zf9 r.mkI l m i r.dflt;rw[e]at h1 b;exact⟨h1,by rw[QA r.mkI l m hi r.dflt,e,<- b],b⟩
end
theorem Zk4{us:List V}(h:us.length=2):∃g b,us=[g,b]:=by
 match us,h with
 |[g,b],_=>exact⟨g,b,rfl⟩
theorem Zk6{us:List V}(h:us.length=7):∃s q n j i g b,us=[s,q,n,j,i,g,b]:=by
 match us,h with
 |[s,q,n,j,i,g,b],_=>exact⟨s,q,n,j,i,g,b,rfl⟩
def SlC(s:Bg)(r:RT):Prop:=∀(h:Ac) (ω:Nat->W) (hd:Hd) (p:List Nat) (l:List r.D) (u:V) (m:Int) (Q:V->Ac->Prop),CT.wl (.sl r) l->(∀l l' a q,ω l= .own a q->ω l'= .own a q->l=l')->MS h ω hd p r l u ->
 (∀h',x_ (GM ω hd p) h h'->MS h' ω hd p r (AV r.mkI l m).1 u->Q (.int .i64 (AV r.mkI l m).2) h')->s [u,.int .i64 m] h Q
def gv(r:RT):DMk:=⟨.one (.sl r),false,λl=>CT.wl (.sl r) l,λl m=>AV r.mkI l m,false⟩
def gq(r:RT):DMk:=⟨r,true,λx=>RT.wl r x,λx m=>r.mkT x m,false⟩
theorem ZjB(r:RT)(m:Int):(gq r).P.rv m= .int .i64 m:=rfl
attribute [go_sem] ZjB
theorem SlC.sound{s:Bg}{r:RT}(hs:SlC s r):JD s (gv r).P:=by
 rintro h ω hd P b AN us u m K Q hinj g hl hr ⟨x,rfl,d9,hK⟩ hQ;have g:us=[u]:=g;subst g;have h0:=hr 0 (by show 0<1;omega);refine hs h ω hd (P++[b]) x u m Q d9 hinj h0 λh' j n=>?_;refine hQ _ _ h' hK rfl (j.mono λl ⟨q,e⟩=>⟨0,_,q,by show 0<1;omega,rfl,by rw[e];simp⟩) λc i=>?_;have:c=0:=by have:c<1:=i;omega
 subst this;exact n
abbrev Zlt (ω:Nat->W) (hd:Hd) (P:List Nat) (b:Nat) (cs:List PV):Nat->Prop:=λl=>∃c es r,c<cs.length/\Aa cs c= .sl .own es/\ω l= .own hd (P++(b+c)::r)
structure Fn where
 d:DFun
 h:List HT
 q:QT
@[irreducible] def Fn.S(F:Fn):Bg:=ER F.d.er.er
@[irreducible] def Fn.P(F:Fn):Dl:=Jv F.d.er
@[irreducible] def Fn.V(F:Fn)(x:TuX F.h):F.q.D:=(shut λx=>Pz F.d F.h F.q x).1 x
@[irreducible] def Fn.O(F:Fn)(x:TuX F.h):Prop:=(shut λx=>Ps F.d F.h F.q x).1 x
def Fn.D(F:Fn):NG:=eY F.h F.q F.O F.V
theorem Fn.v(F:Fn)(x:TuX F.h):F.V x=Pz F.d F.h F.q x:=by unfold Fn.V;exact congrFun (shut _).2 x
theorem Fn.o(F:Fn)(x:TuX F.h):F.O x=Ps F.d F.h F.q x:=by unfold Fn.O;exact congrFun (shut _).2 x
def Fn.A(F:Fn):Prop:=Kf F.S F.P
def Fn.B(F:Fn):Prop:=Ys F.P F.D
theorem AK{F:Fn}(o:AllP F.d.er.body.t_):F.A:=by unfold Fn.A Fn.S Fn.P;exact Xo o
theorem AM{F:Fn}(o:AllD F.d.body.t_)(st:RG F.d F.h F.q=true)(c:∀x,RA F.d F.h F.q x=true):F.B:=by
 unfold Fn.B Fn.P;exact ZfB o st c (λx h=>Eq.mp (F.o x) h) (λx=>(F.v x).symm)
@[reducible] def oF (i d:Nat) (F:Fn) (args:List T_):DOper:=⟨i,some d,.call false F.S F.P F.D args,none,[]⟩
@[reducible] def xF (i d:Nat) (F:Fn) (args:List T_) (a:List Nat):DOper:=⟨i,some d,.call false F.S F.P F.D args,none,a⟩
theorem lF{P:Program}(hm:P.follows .mixedOrders=true){F:Fn}{f:FuncId}{g:Func}{t_:List (FuncId×Bg)}(n:P.funcs[f]?=some g)(j:Fi P g F.d.er.er=true)(i:Fh P g F.d.er.er=t_)(b:AllSound P t_):AA P f F.S:=by
 unfold Fn.S;exact Gu hm n j i b
section
set_option maxRecDepth 8000
abbrev Rd:=Nat->Nat->DOper×Nat
instance (n):OfNat T_ n:=⟨.t n⟩
def RK:Nat->Nat->List Rd->List DOper
 |_,_,[]=>[]|i,d,f::r=>(f i d).1::RK (i+1) (f i d).2 r
def At(d:Nat)(l:List Rd):d5:=.region (RK 0 d l)
def A_(v:List Nat)(d:Nat)(l:List Rd)(c:d5):d5:=.seq v (At d l) c
def I_(o:DOp):Rd:=λi d=>(⟨i,some d,o,none,[]⟩,d+1)
def B_(o:p_):Rd:=I_ (.a false o none)
def C'(o:p_):Rd:=I_ (.a true o none)
def Q'(t:RT)(o:p_):Rd:=I_ (.a false o (some t))
def Q_(t:T_):Rd:=B_ (.mv t)
def C_(t:T_):Rd:=B_ (.mv t)
def D_(t:T_):Rd:=C' (.mv t)
def E'(n:Int):Rd:=B_ (.mv (.c (.int .i64 n)))
def E_(o:p_):Rd:=λi d=>(⟨i,none,.a false o none,none,[]⟩,d)
def I'(F:Fn)(a:List T_):Rd:=I_ (.call false F.S F.P F.D a)
def F'(g:Nat)(b:Rd):Rd:=λi d=>({(b i d).1 with guard:=some (g,false)},(b i d).2)
def F_(g:Nat)(b:Rd):Rd:=λi d=>({(b i d).1 with guard:=some (g,true)},(b i d).2)
def G'(a:List Nat)(b:Rd):Rd:=λi d=>({(b i d).1 with anc:=a},(b i d).2)
def G_(k:Nat)(b:Rd):Rd:=λi d=>((b i k).1,d)
def H_(k:Nat)(b:Rd):Rd:=λi _=>b i k
def J'(n:Nat)(a:T_):Rd:=B_ (.f5 n a)
def J_(n:Nat)(a:T_):Rd:=B_ (.d6 n none a)
def K_(n m:Nat)(a:T_):Rd:=B_ (.d6 n (some m) a)
def L'(a:T_):Rd:=B_ (.len a)
def L_(a b c:T_):Rd:=B_ (.pick a b c)
def M'(a b:T_):Rd:=B_ (.bin .lss a b)
def M_(a b:T_):Rd:=B_ (.bin .add a b)
def Nm(a b:T_):Rd:=B_ (.bin .eql a b)
def N'(a b:T_):Rd:=B_ (.bin .neq a b)
def N_(n:Nat)(a b:T_):Rd:=B_ (.m_ n a b)
def O'(n m:Nat)(a:T_):Rd:=B_ (.boxB n m a)
def O_(a:T_):Rd:=B_ (.g9 none a)
def P'(a:T_):Rd:=B_ (.un .not a)
def ZcU:d5:=(A_ [2,1,0] 6 [Q_ Ar] (A_ [6] 7 [C_ 0,C_ 1,B_ (.bin .geq 7 8),C_ 9,F_ 10 (Q_ 0),F_ 10 (Q_ 2),F_ 10 (B_ (.bin .leq 11 12)),L_ 10 13 Ar,G_ 6 (C_ 14)] .ret))
def B0:Fn:=⟨⟨3,15,0,true,[.tmp 6],ZcU⟩,[.one .Z_ (.int .i64),.one .Z_ (.int .i64),.one .Z_ (.int .i64)],.one (.one .own (.bool))⟩
theorem Gt:B0.A:=AK trivial
def BU:DD->Bool:=B0.V
def Ek:DD->Prop:=B0.O
theorem Gv:B0.B:=AM trivial (by kernel_rfl) (λx=>by kernel_rfl)
def yt:d5:=(A_ [1] 1 [O' 0 4 0,Q_ Ar] (A_ [3,1] 6 [J' 1 1,J_ 0 6,I' B0 [7,AD,(.c (.int .i64 56))],G_ 3 (C_ 8)] (A_ [4,3,1] 9 [J' 2 1,J_ 0 9,I' B0 [10,AD,(.c (.int .i64 15))],G_ 4 (C_ 11)] (A_ [5,4,3,1] 12 [J' 3 1,J_ 0 12,I' B0 [13,AD,(.c (.int .i64 3))],G_ 5 (C_ 14)] (.seq [] (A_ [16,5,4,3,1] 15 [J' 0 1,J_ 0 15] (.block 0 (.seq [17,16,5,4,3,1] (A_ [17,16,5,4,3,1] 18 [Nm 16 AQ,G_ 17 (C_ 18)] (.cond 17 .skip (A_ [17,16,5,4,3,1] 19 [Nm 16 AD,G_ 17 (C_ 19)] (.cond 17 .skip (At 20 [Nm 16 (.c (.int .i64 10)),G_ 17 (C_ 20)]))))) (.cond 17 (A_ [2] 21 [J' 1 1,J_ 0 21,Nm 22 AQ,C_ 23,F_ 24 (J' 2 1),F_ 24 (J_ 0 25),F_ 24 (Nm 26 AQ),L_ 24 27 Ar,C_ 28,F_ 29 (J' 3 1),F_ 29 (J_ 0 30),F_ 29 (Nm 31 AQ),L_ 29 32 Ar,G_ 2 (C_ 33)] .ret) (A_ [34,16,5,4,3,1] 35 [Nm 16 (.c (.int .i64 2)),G_ 34 (C_ 35)] (.cond 34 (A_ [2] 36 [J' 3 1,J_ 0 36,Nm 37 AQ,C_ 38,F_ 39 (Q_ 3),F_ 39 (Q_ 40),F' 41 (J' 1 1),F' 41 (J_ 0 42),F' 41 (Nm 43 AQ),F' 41 (Q_ 44),F_ 45 (Q_ 4),F' 41 (L_ 45 46 Ar),F_ 39 (L_ 41 AU 47),L_ 39 48 Ar,C_ 49,F_ 50 (Q_ 4),F_ 50 (Q_ 51),F' 52 (J' 2 1),F' 52 (J_ 0 53),F' 52 (Nm 54 AQ),F_ 50 (L_ 52 AU 55),L_ 50 56 Ar,G_ 2 (C_ 57)] .ret) (.seq [58,16,5,4,3,1] (A_ [58,16,5,4,3,1] 59 [Nm 16 (.c (.int .i64 3)),G_ 58 (C_ 59)] (.cond 58 .skip (At 60 [Nm 16 (.c (.int .i64 4)),G_ 58 (C_ 60)]))) (.cond 58 (A_ [2] 61 [C_ 5,C_ 61,F_ 62 (J' 1 1),F_ 62 (J_ 0 63),F_ 62 (Nm 64 AQ),L_ 62 65 Ar,C_ 66,F_ 67 (J' 2 1),F_ 67 (J_ 0 68),F_ 67 (Nm 69 AQ),L_ 67 70 Ar,G_ 2 (C_ 71)] .ret) (.seq [72,16,5,4,3,1] (A_ [72,16,5,4,3,1] 73 [Nm 16 (.c (.int .i64 5)),G_ 72 (C_ 73)] (.cond 72 .skip (At 74 [Nm 16 (.c (.int .i64 9)),G_ 72 (C_ 74)]))) (.cond 72 (A_ [2] 75 [J' 3 1,J_ 0 75,I' B0 [76,AQ,(.c (.int .i64 3))],C_ 77,F_ 78 (J' 1 1),F_ 78 (J_ 0 79),F_ 78 (Nm 80 AQ),L_ 78 81 Ar,C_ 82,F_ 83 (J' 2 1),F_ 83 (J_ 0 84),F_ 83 (Nm 85 AQ),L_ 83 86 Ar,G_ 2 (C_ 87)] .ret) (A_ [88,16,5,4,3,1] 89 [Nm 16 (.c (.int .i64 6)),G_ 88 (C_ 89)] (.cond 88 (A_ [2] 90 [C_ 3,C_ 90,F_ 91 (Q_ 4),L_ 91 92 Ar,C_ 93,F_ 94 (J' 3 1),F_ 94 (J_ 0 95),F_ 94 (Nm 96 AQ),L_ 94 97 Ar,G_ 2 (C_ 98)] .ret) (A_ [99,16,5,4,3,1] 100 [Nm 16 (.c (.int .i64 7)),G_ 99 (C_ 100)] (.cond 99 (A_ [2] 101 [C_ 3,C_ 101,F_ 102 (Q_ 5),L_ 102 103 Ar,C_ 104,F_ 105 (J' 2 1),F_ 105 (J_ 0 106),F_ 105 (Nm 107 AQ),L_ 105 108 Ar,G_ 2 (C_ 109)] .ret) (A_ [110,4,1] 111 [Nm 16 (.c (.int .i64 8)),G_ 110 (C_ 111)] (.cond 110 (A_ [2] 112 [C_ 4,C_ 112,F_ 113 (J' 1 1),F_ 113 (J_ 0 114),F_ 113 (Nm 115 AQ),L_ 113 116 Ar,C_ 117,F_ 118 (J' 3 1),F_ 118 (J_ 0 119),F_ 118 (Nm 120 AQ),L_ 118 121 Ar,G_ 2 (C_ 122)] .ret) .skip)))))))))))))))) (A_ [2] 2 [Q_ Ar] .ret))))))
def Er:Fn:=⟨⟨1,123,1,true,[.tmp 2],yt⟩,[.agg [Av,Av,Av,Av]],.one (.one .own (.bool))⟩
theorem VT:Er.A:=AK ⟨Gt,Gt,Gt,Gt,trivial⟩
def Ej:CF->Bool:=Er.V
def N5:CF->Prop:=Er.O
theorem VS:Er.B:=AM ⟨Gv,Gv,Gv,Gv,trivial⟩ (by kernel_rfl) (λx=>by kernel_rfl)
def ZaQ:d5:=(A_ [0] 2 [Q_ Ar] (A_ [2] 3 [C_ 0,B_ (.bin .geq 3 AD),C_ 4,F_ 5 (Q_ 0),F_ 5 (B_ (.bin .leq 6 (.c (.int .i64 56)))),L_ 5 7 Ar,G_ 2 (C_ 8)] .ret))
def FY:Fn:=⟨⟨1,9,0,true,[.tmp 2],ZaQ⟩,[.one .Z_ (.int .i64)],.one (.one .own (.bool))⟩
theorem aF:FY.A:=AK trivial
def Jb:Int->Bool:=FY.V
def Qp:Int->Prop:=FY.O
theorem aE:FY.B:=AM trivial (by kernel_rfl) (λx=>by kernel_rfl)
def ZaF:d5:=(A_ [0] 2 [Q_ Ar] (A_ [2] 3 [C_ 0,B_ (.bin .geq 3 AD),C_ 4,F_ 5 (Q_ 0),F_ 5 (B_ (.bin .leq 6 (.c (.int .i64 15)))),L_ 5 7 Ar,G_ 2 (C_ 8)] .ret))
def Es:Fn:=⟨⟨1,9,0,true,[.tmp 2],ZaF⟩,[.one .Z_ (.int .i64)],.one (.one .own (.bool))⟩
theorem aD:Es.A:=AK trivial
def Qw:Int->Bool:=Es.V
def Oa:Int->Prop:=Es.O
theorem aH:Es.B:=AM trivial (by kernel_rfl) (λx=>by kernel_rfl)
def Zay:d5:=(A_ [0] 2 [Q_ Ar] (A_ [2] 3 [C_ 0,B_ (.bin .geq 3 AD),C_ 4,F_ 5 (Q_ 0),F_ 5 (B_ (.bin .leq 6 (.c (.int .i64 3)))),L_ 5 7 Ar,G_ 2 (C_ 8)] .ret))
def FV:Fn:=⟨⟨1,9,0,true,[.tmp 2],Zay⟩,[.one .Z_ (.int .i64)],.one (.one .own (.bool))⟩
theorem jC:FV.A:=AK trivial
def Ww:Int->Bool:=FV.V
def Sz:Int->Prop:=FV.O
theorem js:FV.B:=AM trivial (by kernel_rfl) (λx=>by kernel_rfl)
def yu:d5:=(A_ [1] 1 [O' 0 4 0,Q_ Ar] (.seq [] (A_ [4,1] 3 [J' 0 1,J_ 0 3] (.block 0 (.seq [5,4,1] (A_ [5,4,1] 6 [Nm 4 AQ,G_ 5 (C_ 6)] (.cond 5 .skip (A_ [5,4,1] 7 [Nm 4 AD,G_ 5 (C_ 7)] (.cond 5 .skip (At 8 [Nm 4 (.c (.int .i64 10)),G_ 5 (C_ 8)]))))) (.cond 5 (A_ [2] 9 [J' 1 1,J_ 0 9,Nm 10 AQ,C_ 11,F_ 12 (J' 2 1),F_ 12 (J_ 0 13),F_ 12 (Nm 14 AQ),L_ 12 15 Ar,C_ 16,F_ 17 (J' 3 1),F_ 17 (J_ 0 18),F_ 17 (Nm 19 AQ),L_ 17 20 Ar,G_ 2 (C_ 21)] .ret) (A_ [22,4,1] 23 [Nm 4 (.c (.int .i64 2)),G_ 22 (C_ 23)] (.cond 22 (A_ [2] 24 [J' 3 1,J_ 0 24,Nm 25 AQ,C_ 26,F_ 27 (J' 1 1),F_ 27 (J_ 0 28),F_ 27 (Nm 29 AQ),F_ 27 (Q_ 30),F' 31 (J' 1 1),F' 31 (J_ 0 32),F' 31 (I' FY [33]),F_ 27 (L_ 31 AU 34),L_ 27 35 Ar,C_ 36,F_ 37 (J' 2 1),F_ 37 (J_ 0 38),F_ 37 (Nm 39 AQ),F_ 37 (Q_ 40),F' 41 (J' 2 1),F' 41 (J_ 0 42),F' 41 (I' Es [43]),F_ 37 (L_ 41 AU 44),L_ 37 45 Ar,C_ 46,F_ 47 (J' 1 1),F_ 47 (J_ 0 48),F_ 47 (N' 49 AQ),F_ 47 (Q_ 50),F' 51 (J' 2 1),F' 51 (J_ 0 52),F' 51 (N' 53 AQ),F_ 47 (L_ 51 AU 54),L_ 47 55 Ar,G_ 2 (C_ 56)] .ret) (.seq [57,4,1] (A_ [57,4,1] 58 [Nm 4 (.c (.int .i64 3)),G_ 57 (C_ 58)] (.cond 57 .skip (At 59 [Nm 4 (.c (.int .i64 4)),G_ 57 (C_ 59)]))) (.cond 57 (A_ [2] 60 [J' 1 1,J_ 0 60,Nm 61 AQ,C_ 62,F_ 63 (J' 2 1),F_ 63 (J_ 0 64),F_ 63 (Nm 65 AQ),L_ 63 66 Ar,C_ 67,F_ 68 (J' 3 1),F_ 68 (J_ 0 69),F_ 68 (I' FV [70]),L_ 68 71 Ar,G_ 2 (C_ 72)] .ret) (A_ [73,4,1] 74 [Nm 4 (.c (.int .i64 5)),G_ 73 (C_ 74)] (.cond 73 (A_ [2] 75 [J' 1 1,J_ 0 75,Nm 76 AQ,C_ 77,F_ 78 (J' 2 1),F_ 78 (J_ 0 79),F_ 78 (Nm 80 AQ),L_ 78 81 Ar,C_ 82,F_ 83 (J' 3 1),F_ 83 (J_ 0 84),F_ 83 (B_ (.bin .geq 85 AQ)),L_ 83 86 Ar,C_ 87,F_ 88 (J' 3 1),F_ 88 (J_ 0 89),F_ 88 (B_ (.bin .leq 90 (.c (.int .i64 3)))),L_ 88 91 Ar,G_ 2 (C_ 92)] .ret) (A_ [93,4,1] 94 [Nm 4 (.c (.int .i64 9)),G_ 93 (C_ 94)] (.cond 93 (A_ [2] 95 [J' 1 1,J_ 0 95,Nm 96 AQ,C_ 97,F_ 98 (J' 2 1),F_ 98 (J_ 0 99),F_ 98 (Nm 100 AQ),L_ 98 101 Ar,C_ 102,F_ 103 (J' 3 1),F_ 103 (J_ 0 104),F_ 103 (B_ (.bin .geq 105 AQ)),L_ 103 106 Ar,C_ 107,F_ 108 (J' 3 1),F_ 108 (J_ 0 109),F_ 108 (B_ (.bin .leq 110 (.c (.int .i64 3)))),L_ 108 111 Ar,G_ 2 (C_ 112)] .ret) (A_ [113,4,1] 114 [Nm 4 (.c (.int .i64 6)),G_ 113 (C_ 114)] (.cond 113 (A_ [2] 115 [J' 1 1,J_ 0 115,I' FY [116],C_ 117,F_ 118 (J' 2 1),F_ 118 (J_ 0 119),F_ 118 (I' Es [120]),L_ 118 121 Ar,C_ 122,F_ 123 (J' 3 1),F_ 123 (J_ 0 124),F_ 123 (Nm 125 AQ),L_ 123 126 Ar,G_ 2 (C_ 127)] .ret) (A_ [128,4,1] 129 [Nm 4 (.c (.int .i64 7)),G_ 128 (C_ 129)] (.cond 128 (A_ [2] 130 [J' 1 1,J_ 0 130,I' FY [131],C_ 132,F_ 133 (J' 2 1),F_ 133 (J_ 0 134),F_ 133 (Nm 135 AQ),L_ 133 136 Ar,C_ 137,F_ 138 (J' 3 1),F_ 138 (J_ 0 139),F_ 138 (I' FV [140]),L_ 138 141 Ar,G_ 2 (C_ 142)] .ret) (A_ [143,1] 144 [Nm 4 (.c (.int .i64 8)),G_ 143 (C_ 144)] (.cond 143 (A_ [2] 145 [J' 1 1,J_ 0 145,Nm 146 AQ,C_ 147,F_ 148 (J' 2 1),F_ 148 (J_ 0 149),F_ 148 (I' Es [150]),L_ 148 151 Ar,C_ 152,F_ 153 (J' 3 1),F_ 153 (J_ 0 154),F_ 153 (Nm 155 AQ),L_ 153 156 Ar,G_ 2 (C_ 157)] .ret) .skip)))))))))))))))))) (A_ [2] 2 [Q_ Ar] .ret)))
def E2:Fn:=⟨⟨1,158,1,true,[.tmp 2],yu⟩,[.agg [Av,Av,Av,Av]],.one (.one .own (.bool))⟩
theorem V0:E2.A:=AK ⟨aF,aD,jC,aF,aD,aF,jC,aD,trivial⟩
def Cc:CF->Bool:=E2.V
def N8:CF->Prop:=E2.O
theorem VR:E2.B:=AM ⟨aE,aH,js,aE,aH,aE,js,aH,trivial⟩ (by kernel_rfl) (λx=>by kernel_rfl)
def yE:d5:=(A_ [3,2] 2 [O' 0 4 0,O' 1 4 1,Q_ Ar] (.seq [3,2] (A_ [9,3,2] 5 [J' 0 2,J_ 0 5,J' 0 3,J_ 1 7,N' 6 8] (.cond 9 (A_ [4] 4 [Q_ Ar] .ret) .skip)) (.seq [3,2] (A_ [14,3,2] 10 [J' 1 2,J_ 0 10,J' 1 3,J_ 1 12,N' 11 13] (.cond 14 (A_ [4] 4 [Q_ Ar] .ret) .skip)) (.seq [3,2] (A_ [19,3,2] 15 [J' 2 2,J_ 0 15,J' 2 3,J_ 1 17,N' 16 18] (.cond 19 (A_ [4] 4 [Q_ Ar] .ret) .skip)) (.seq [] (A_ [24] 20 [J' 3 2,J_ 0 20,J' 3 3,J_ 1 22,N' 21 23] (.cond 24 (A_ [4] 4 [Q_ Ar] .ret) .skip)) (A_ [4] 4 [Q_ AU] .ret))))))
def IV:Fn:=⟨⟨2,25,2,true,[.tmp 4],yE⟩,[.agg [Av,Av,Av,Av],.agg [Av,Av,Av,Av]],.one (.one .own (.bool))⟩
theorem iU:IV.A:=AK trivial
def J0:fS->Bool:=IV.V
def P2:fS->Prop:=IV.O
theorem iW:IV.B:=AM trivial (by kernel_rfl) (λx=>by kernel_rfl)
end
section
set_option maxRecDepth 100000
theorem aV(x):BU x=W_ (iGe x.1 x.2.1) (iLe x.1 x.2.2):=(B0.v x).trans (by kernel_rfl)
theorem Qy(x):Ek x=True:=(B0.o x).trans (by kernel_rfl)
theorem ZlJ(x:CF)(a)(_:a=t8 (g_ x.1 0) (t8 (g_ x.1 1) (g_ x.1 10)))(b)(_:b=BU (x.2.2.1,1,15))(c)(_:c=g_ x.2.2.1 0)(d)(_:d=t8 (g_ x.1 3) (g_ x.1 4))(e)(_:e=t8 (g_ x.1 5) (g_ x.1 9))(f)(_:f=g_ x.2.1 0)(g)(_:g=x.2.2.2)(h)(_:h=BU (x.2.1,1,56))(i)(_:i=g_ g 0)(j)(_:j=g_ x.1 2):Ej x=Z' a (W_ f (W_ c i)) (Z' j (W_ i (Z' h (t8 b c) (W_ f (W_ b (t8 b c))))) (Z' d (W_ (BU (g,1,3)) (W_ f c)) (Z' e (W_ (BU (g,0,3)) (W_ f c)) (Z' (g_ x.1 6) (W_ h (W_ b i)) (Z' (g_ x.1 7) (W_ h (W_ (BU (g,1,3)) c)) (W_ (g_ x.1 8) (W_ b (W_ f i))))))))/\N5 x=(Ek (x.2.1,1,56)/\Ek (x.2.2.1,1,15)/\Ek (g,1,3)/\(a=true->True)/\(a=false->(j=true->True)/\(j=false->(d=true->True)/\(d=false->(e=true->Ek (g,0,3))/\(e=false->True))))):=by subst_vars;exact⟨(Er.v x).trans (by kernel_rfl),(Er.o x).trans (by kernel_rfl)⟩
abbrev yd:=λx=>(ZlJ x _ rfl _ rfl _ rfl _ rfl _ rfl _ rfl _ rfl _ rfl _ rfl _ rfl).1
abbrev xV:=λx=>(ZlJ x _ rfl _ rfl _ rfl _ rfl _ rfl _ rfl _ rfl _ rfl _ rfl _ rfl).2
theorem Wy(x):Jb x=W_ (iGe x 1) (iLe x 56):=(FY.v x).trans (by kernel_rfl)
theorem ZaL(x):Qp x=True:=(FY.o x).trans (by kernel_rfl)
theorem Wn(x):Qw x=W_ (iGe x 1) (iLe x 15):=(Es.v x).trans (by kernel_rfl)
theorem Zbm(x):Oa x=True:=(Es.o x).trans (by kernel_rfl)
theorem ay(x):Ww x=W_ (iGe x 1) (iLe x 3):=(FV.v x).trans (by kernel_rfl)
theorem zg(x):Sz x=True:=(FV.o x).trans (by kernel_rfl)
theorem ZlM(x:CF)(h)(_:h=x.2.2.1)(a)(_:a=g_ h 0)(b)(_:b=g_ x.2.1 0)(c)(_:c=t8 (j_ x.2.1 0) (j_ h 0))(d)(_:d=t8 (g_ x.1 0) (t8 (g_ x.1 1) (g_ x.1 10)))(e)(_:e=x.2.2.2)(f)(_:f=Jb x.2.1)(g)(_:g=t8 (g_ x.1 3) (g_ x.1 4))(i)(_:i=W_ b (W_ a (W_ (iGe e 0) (iLe e 3))))(j)(_:j=g_ e 0)(k)(_:k=((a=true->True)/\(a=false->Oa h)))(l)(_:l=((a=true->Sz e)/\(a=false->True)))(m)(_:m=(f=false->True))(n)(_:n=Z' a c (W_ (Qw h) c))(p)(_:p=g_ x.1 2)(q)(_:q=g_ x.1 5)(r)(_:r=g_ x.1 9)(s)(_:s=g_ x.1 6)(t)(_:t=g_ x.1 7)(u)(_:u=g_ x.1 8)(w)(_:w=Qp x.2.1)(y)(_:y=(b=false)):Cc x=Z' d (W_ b (W_ a j)) (Z' p (W_ j (Z' b n (W_ f n))) (Z' g (W_ b (W_ a (Ww e))) (Z' q i (Z' r i (Z' s (W_ f (W_ (Qw h) j)) (Z' t (W_ f (W_ a (Ww e))) (W_ u (W_ b (W_ (Qw h) j)))))))))/\N8 x=((d=true->True)/\(d=false->(p=true->(j=true->(b=true->k)/\(y->w/\(f=true->k)/\m))/\(j=false->True))/\(p=false->(g=true->(b=true->l)/\(y->True))/\(g=false->(q=true->True)/\(q=false->(r=true->True)/\(r=false->(s=true->w/\(f=true->Oa h)/\m)/\(s=false->(t=true->w/\(f=true->l)/\m)/\(t=false->(u=true->(b=true->Oa h)/\(y->True))/\(u=false->True))))))))):=by subst_vars;exact⟨(E2.v x).trans (by kernel_rfl),(E2.o x).trans (by kernel_rfl)⟩
abbrev Se:=λx=>(ZlM x _ rfl _ rfl _ rfl _ rfl _ rfl _ rfl _ rfl _ rfl _ rfl _ rfl _ rfl _ rfl _ rfl _ rfl _ rfl _ rfl _ rfl _ rfl _ rfl _ rfl _ rfl _ rfl).1
abbrev yI:=λx=>(ZlM x _ rfl _ rfl _ rfl _ rfl _ rfl _ rfl _ rfl _ rfl _ rfl _ rfl _ rfl _ rfl _ rfl _ rfl _ rfl _ rfl _ rfl _ rfl _ rfl _ rfl _ rfl _ rfl).2
theorem yZ(x):J0 x=W_ (U' (j_ x.1.1 x.2.1)) (W_ (U' (j_ x.1.2.1 x.2.2.1)) (W_ (U' (j_ x.1.2.2.1 x.2.2.2.1)) (U' (j_ x.1.2.2.2 x.2.2.2.2)))):=(IV.v x).trans (by kernel_rfl)
theorem xz(x):P2 x=True:=(IV.o x).trans (by kernel_rfl)
attribute [irreducible] BU Ek Ej N5 Jb Qp Qw Oa Ww Sz Cc N8 J0 P2
end
end
end Go.Ag
