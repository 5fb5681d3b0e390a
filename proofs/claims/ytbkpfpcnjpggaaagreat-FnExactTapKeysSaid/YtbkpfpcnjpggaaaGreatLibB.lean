/- Part 2 of what FnExactTapKeys needs. No conditions. -/
import Derived.Still
import Derived.Test.YtbkpfpcnjpggaaaGreatLibA
namespace Go.Ag
set_option linter.unusedSimpArgs false
set_option linter.unusedVariables false
noncomputable section
def U1(ops:Array Oper)(i x:Nat):Bool:=match ops[i]? with|some o=>o.after.any λe=>Region.binds .any e&&e.on == x|none=>false
def Nj(ops:Array Oper)(b:List Nat):List c_->Bool
 |[]=>true|ao::r=>(match ops[ao.id]? with|some o=>o.after.all λe=>!Region.binds .any e||b.contains e.on|none=>false)&&!b.contains ao.id&&Nj ops (ao.id::b) r
def Ny(ops:Array Oper)(b:List c_):List c_->Bool
 |[]=>true|g::r=>(g.anc.all λx=>U1 ops g.id x||b.any λi=>U1 ops g.id i.id&&i.anc.contains x)&&Ny ops (g::b) r
def Mo(b:Option (Nat×Nat))(p q:c_):Bool:=match b with|some (i,j)=>p.id == i&&q.id == j|none=>false
def Nd(b:Option (Nat×Nat)):List c_->Bool
 |[]=>true|p::r=>(r.all λq=>q.anc.contains p.id||FD p q||Mo b p q)&&Nd b r
def LR(b:Option (Nat×Nat))(l:List c_):Bool:=match b with
 |none=>true|some (i,j)=>l.all λq=>!q.op.isCall||q.anc.contains i||q.anc.contains j
def Yq(b:Option (Nat×Nat))(P:Program)(ops:Array Oper)(l:List c_):Bool:=l.all (Np P ops)&&l.length == ops.size&&Nj ops [] (Cu l 0)&&Ny ops [] (Cu l 0)&&Nd b (Cu l 0)&&LR b (Cu l 0)
def OQ:List c_->Option (Nat×Nat)
 |p::q::r=>if p.pairU q then some (p.id,q.id)else OQ (q::r)|_=>none
theorem lG:∀ {l:List c_} {i j:Nat},OQ l=some (i,j)->∃X a b Y,l=X++a::b::Y/\Pe l=some (X++b::a::Y)/\a.id=i/\b.id=j/\a.pairU b=true
 | p :: q::r,i,j,h=>by
   unfold OQ at h;unfold Pe;split at h
   ·rename_i hp;simp only[Ap,Aq]at h;exact⟨[],p,q,r,rfl,by rw[Ad hp];rfl,h.1,h.2,hp⟩
   rename_i hp;obtain⟨X,a,b,Y,h1,n,g⟩:=lG h;exact⟨p::X,a,b,Y,by rw[h1];rfl,by rw[Ae hp,n];rfl,g⟩
 |[],_,_,h=>by cases h
 |[_],_,_,h=>by cases h
theorem Zgh{a b:c_}(h:a.pairU b=true):a.cst=none/\b.cst=none:=by
 unfold c_.pairU at h;split at h
 ·rename_i i g;refine⟨?_,?_⟩
  ·unfold c_.cst;rw[i];cases a.guard<;>simp[p_.cst,T7,T_.slots]
  unfold c_.cst;rw[g];cases b.guard<;>rfl
 cases h
theorem mz:∀(X:List c_) (a b:c_) (Y:List c_) (n:Nat),a.cst=none->b.cst=none->∃X',Cu (X++a::b::Y) n=X'++a::b::Y/\Cu (X++b::a::Y) n=X'++b::a::Y/\GP (X++a::b::Y)=GP (X++b::a::Y)
 |[],a,b,Y,n,h1,h2=>⟨[],by simp[Cu,h1],by simp[Cu,h2],by simp[GP,h1,h2]⟩
 | o :: X,a,b,Y,n,h1,h2=>by
   simp only[Dz];unfold Cu GP;cases s:o.cst with
   |none=>exact⟨o::X,rfl,rfl,rfl⟩
   | some p=>
     obtain⟨g,t⟩:=p;obtain⟨X',q,j,i⟩:=mz X a b Y (n+1) h1 h2;exact⟨Mr o (g.v n)::X',by simp only[q];rfl,by simp only[j];rfl,by simp only[i]⟩
theorem dV{ops:Array Oper}:∀(l:List c_) (b:List Nat),Nj ops b (l.map Eg)=Nj ops b l
 |[],_=>rfl
 |o::r,b=>by simp only[Cm,Nj,(J7 o).1,dV r]
theorem fC{ops:Array Oper}:∀(l b:List c_),Ny ops (b.map Eg) (l.map Eg)=Ny ops b l
 |[],_=>rfl
 | o::r,b=>by
   have g:=fC (ops:=ops) r (o::b);simp only[Cm]at g;simp only[Cm,Ny,g,(J7 o).1,(J7 o).2.1,List.any_map];congr 2;funext x;congr 2;funext i;simp only[Function.comp,(J7 i).1,(J7 i).2.1]
theorem Zk2(b:Option (Nat×Nat))(p q:c_):Mo b (Eg p) (Eg q)=Mo b p q:=by
 unfold Mo;rw[(J7 p).1,(J7 q).1]
theorem ct{b:Option (Nat×Nat)}:∀(l:List c_),Nd b (l.map Eg)=Nd b l
 |[]=>rfl
 | p::r=>by
   simp only[Cm,Nd,ct r,List.all_map];congr 2;funext q;simp only[Function.comp,(J7 q).2.1,(J7 p).1,Zje,Zk2]
theorem Zjz(q:c_):(Eg q).op.isCall=q.op.isCall:=by
 unfold Eg;split
 ·rename_i e;rw[e];rfl
 rfl
theorem ox{b:Option (Nat×Nat)}(l:List c_):LR b (l.map Eg)=LR b l:=by
 unfold LR;cases b with
 |none=>rfl
 | some p=>
   simp only[List.all_map];congr 1;funext q;simp only[Function.comp,Zjz,(J7 q).2.1]
section
variable {P:Program} {ops:Array Oper} {ι0:AL} {σ0:Ac} {Φ:Phm} {w0:World} {Q:Exit->Act->World->Prop}
def JA(b:Array Bool)(x:Nat):Prop:=b.getD x false=true
def Ky(ops:Array Oper)(i:Nat)(S:Nat->Prop):Prop:=∀x,U1 ops i x=true->S x
def TopoL(ops:Array Oper)(S:Nat->Prop):List c_->Prop
 |[]=>True|ao::r=>Ky ops ao.id S/\TopoL ops (λx=>S x\/x=ao.id) r
theorem TopoL.mono{S g:Nat->Prop}(h:∀x,S x->g x):∀ {l:List c_},TopoL ops S l->TopoL ops g l
 |[],_=>trivial
 |_::_,ht=>⟨λx b=>h x (ht.1 x b),TopoL.mono (λx b=>b.imp (h x) id) ht.2⟩
theorem TopoL.remove{g:c_}:∀ {r1 r2:List c_} {S:Nat->Prop},TopoL ops S (r1++g::r2)->TopoL ops (λx=>S x\/x=g.id) (r1++r2)
 |[],_,_,h=>h.2
 | p::r1,r2,S,h=>by
   refine⟨λx b=>.inl (h.1 x b),?_⟩;refine TopoL.mono ?_ (TopoL.remove (r1:=r1) (r2:=r2) h.2);intro x b;rcases b with(b|b)|b
   ·exact .inl (.inl b)
   ·exact .inr b
   exact .inl (.inr b)
theorem ky{p:c_}(i:p.op.isCall=false\/p.op.isKeep=true){k j:St->Prop}(h:∀st,k st->j st){st:St}(g:Cx p k st):Cx p j st:=by
 unfold Cx at *;have h1:∀ {st:St},AP p.op p.dst k st->AP p.op p.dst j st:=by
  intro st;rcases i with i|i;case inr=>
   cases hp:p.op<;>simp[hp,p_.isKeep]at i;rename_i s f args;cases s<;>simp at i;rintro⟨a,t,b,c⟩;exact⟨a,t,b,λr h' q=>⟨(c r h' q).1,h _ (c r h' q).2⟩⟩
  cases hp:p.op<;>first|(rw[hp]at i;simp[p_.isCall]at i;done)|(simp only[AP];split<;>first|exact h _|exact λx=>x)
 split at g
 ·exact h1 g
 split at g
 ·split at g
  ·rename_i n;simp only[n,AX];exact h1 g
  rename_i n;simp only[Ae n];exact h _ g
 ·exact h _ g
 exact g.elim
theorem m8{p q:c_}(h:FD p q=true):p.op.isCall=false\/p.op.isKeep=true:=by
 unfold FD Ma at h;simp only[Aj,Ce (_&&_),Br]at h;rcases h.2 with h|h
 ·exact .inl h.1.2
 exact .inr h.1.1
theorem Uj{b:c_}{k:St->Prop}:∀(r1 r2:List c_) (st:St),(∀p∈r1,FD p b=true)->BS (r1++b::r2) k st->Cx b (BS (r1++r2) k) st
 |[],_,_,_,h=>h
 | p::r1,r2,st,hs,h=>by
   have hp:=hs p (by simp);have h1:Cx p (Cx b (BS (r1++r2) k)) st:=ky (m8 hp) (λf4 h'=>Uj r1 r2 f4 (λx g=>hs x (by simp[g])) h') h;exact lR hp h1
theorem ZeI{b:Array Bool}{i:Nat}(h:b.getD i true=false)(x:Nat):JA (b.setIfInBounds i true) x↔JA b x\/x=i:=by
 have hi:i<b.size:=by
  rcases Bz i b.size with q|q
  ·exact q
  simp[Array.getD,Nat.not_lt.2 q]at h
 unfold JA;by_cases g:x=i
 ·subst g;simp[Array.getD,hi]
 simp only[g,or_false];simp only[Nx,UH,Ae (Ic g)]
theorem Zdj{b:Array Bool}{i j:Nat}:(b.setIfInBounds i true).getD j true=false↔j≠i/\b.getD j true=false:=by
 simp only[Nx,UH];by_cases g:i=j
 ·subst g;by_cases hs:i<b.size
  ·simp[hs]
  simp[hs]
 simp[Ae g,Ic g]
theorem Zel{g:Array Bool}{i:Nat}(h:g.getD i true=false):¬JA g i:=by
 unfold JA;intro j;simp only[Nx]at h j;cases n:g[i]? with
 |none=>rw[n]at j;simp at j
 |some b=>rw[n]at h j;simp at h j;rw[h]at j;cases j
theorem kN {G:c_->Prop} {R:List c_->St->Act->World->Prop} {A:List c_->St->Prop} (hQ:∀f4 y w',R [] f4 y w'->A [] f4->Q .normal y w')
 (hA:∀(r1:List c_) (n:c_) (r2:List c_) (st:St),((r1++n::r2).map (·.id)).Nodup->A (r1++n::r2) st->(∀p∈r1++n::r2,p.id ∉ n.anc)->∃z:St->Prop,Cx n z st/\∀f4,z f4->A (r1++r2) f4)
 (t:∀(r1:List c_) (n:c_) (r2:List c_) (st:St) (a:Act) (w:World) (z:St->Prop) (K:Act->World->Prop),((r1++n::r2).map (·.id)).Nodup->G n->R (r1++n::r2) st a w->Cx n z st->(∀f4 y w',R (r1++r2) f4 y w'->z f4->K y w')->wpOp P ops Q n.id K a w):∀(q:Nat) (l:List c_) (b:Array Bool) (st:St) (a:Act) (w:World),
 l.length=q->(∀n∈l,∃o,ops[n.id]?=some o)->(∀n∈l,G n)->(l.map (·.id)).Nodup->(∀i,b.getD i true=false↔∃n∈l,n.id=i) ->
 TopoL ops (JA b) l->(∀j,JA b j->Ky ops j (JA b))->(∀S:Nat->Prop,(∀j,S j->Ky ops j S)->∀n∈l,Ky ops n.id S->∀x∈n.anc,S x) ->
 R l st a w->A l st->wpAny P .any ops Q q b a w
 | 0,l,b,st,a,w,hl,d9,hc,hnd,hun,ht,hcl,han,hr,h=>by
   have:l=[]:=List.length_eq_zero_iff.1 hl;subst this;refine⟨?_,hQ _ _ _ hr h⟩;cases hq:Region.ready .any ops b with
   |nil=>rfl
   | cons i _=>
     have hi:i∈Region.ready .any ops b:=(by rw[hq];simp);have:=(hun i).1 (mem_ready.1 hi).1;simp at this
 | q+1,l,b,st,a,w,hl,d9,hc,hnd,hun,ht,hcl,han,hr,h=>by
   have s:∀ {i:Nat} {o:Oper},ops[i]?=some o->((∀e∈o.after,Region.binds .any e=true->b.getD e.on false=true)↔Ky ops i (JA b)):=by
    intro i o C;unfold Ky U1;rw[C];simp only[Array.any_eq_true',Aj,Bb];constructor
    ·rintro h x ⟨e,he,hb,rfl⟩;exact h e he hb
    intro h e he hb;exact h e.on ⟨e,he,hb,rfl⟩
   refine⟨λO=>?_,λi hi=>?_⟩
   ·
    match l,hl with
    | n::r,_=>
      exfalso;have D:=(hun n.id).2 ⟨n,by simp,rfl⟩;obtain⟨o,C⟩:=d9 n (by simp);have:n.id∈Region.ready .any ops b:=mem_ready.2 ⟨D,o,C,(s C).2 ht.1⟩;rw[O]at this;cases this
   obtain⟨J,o,C,M⟩:=mem_ready.1 hi;obtain⟨n,hao,rfl⟩:=(hun i).1 J;obtain⟨r1,r2,rfl⟩:=T4 hao;have u:=(s C).1 M;have L:=han (JA b) hcl n (by simp) u;have Z:∀p∈r1++n::r2,p.id ∉ n.anc:=λp Y g=>Zel ((hun p.id).2 ⟨p,Y,rfl⟩) (L p.id g);obtain⟨z,hk1,hk2⟩:=hA r1 n r2 st hnd h Z;refine t r1 n r2 st a w _ _ hnd (hc n (by simp)) hr hk1 λf4 y w' U h'=>?_;have I:=ZeI J;refine kN hQ hA t q (r1++r2) (b.setIfInBounds n.id true) f4 y w' (by simp at hl ⊢;omega) (λx g=>d9 x (by simp at g ⊢;rcases g with g|g<;>simp[g])) (λx g=>hc x (by simp at g ⊢;rcases g with g|g<;>simp[g]))
    ?_ ?_ ?_ ?_ (λS hS x g=>han S hS x (by simp at g ⊢;rcases g with g|g<;>simp[g])) U (hk2 f4 h')
   ·have F:(r1++r2).Sublist (r1++n::r2):=List.Sublist.append (List.Sublist.refl r1) (List.sublist_cons_self n r2);exact(F.map (·.id)).nodup hnd
   ·intro j;rw[Zdj,hun j];constructor
    ·rintro⟨f9,x,g,rfl⟩;refine⟨x,?_,rfl⟩;simp only[CI,CE]at g ⊢;rcases g with g|g|g
     ·exact .inl g
     ·exact absurd (by rw[g]) f9
     exact .inr g
    rintro⟨x,g,rfl⟩;refine⟨λe=>?_,x,by simp at g ⊢;rcases g with g|g<;>simp[g],rfl⟩;rw[Gb,Cm,Rn]at hnd;obtain⟨n1,n2,n3⟩:=hnd;rcases CI.1 g with g|g
    ·exact n3 x.id (Jz g) n.id (by simp) e
    rw[Nr]at n2;exact n2.1 (by rw[<- e];exact Jz g)
   ·exact(TopoL.remove ht).mono λx g=>(I x).2 g
   intro j N x g;rw[I]at N ⊢;rcases N with N|rfl
   ·exact .inl (hcl j N x g)
   exact .inl (u x g)
theorem mN:∀(l:List c_) (b:List Nat),Nj ops b l=true->TopoL ops (·∈b) l/\(l.map (·.id)).Nodup/\(∀i∈l,i.id ∉ b)/\∀i∈l,i.id<ops.size
 |[],_,_=>⟨trivial,by simp,by simp,by simp⟩
 | i::r,b,h=>by
   simp only[Nj,Aj,Br,eO,Bn]at h;obtain⟨⟨h1,A⟩,z⟩:=h;obtain⟨t,s,j,q⟩:=mN r (i.id::b) z;split at h1
   ·rename_i o n;refine⟨⟨λx g=>?_,t.mono λx g=>by simpa [or_comm]using g⟩,?_,?_,?_⟩
    ·unfold U1 at g;rw[n]at g;simp only[Array.any_eq_true',Aj,Bb]at g;obtain⟨e,u,y,rfl⟩:=g;rw[Array.all_eq_true']at h1;have:=h1 e u;rw[y]at this;simpa using this
    ·rw[Cm,Nr];refine⟨λhm=>?_,s⟩;obtain⟨x,g,e⟩:=List.mem_map.1 hm;exact j x g (by rw[e];simp)
    ·intro x g;rcases CE.1 g with rfl|g
     ·exact A
     exact λhm=>j x g (by simp[hm])
    intro x g;rcases CE.1 g with rfl|g
    ·exact(Array.getElem?_eq_some_iff.1 n).1
    exact q x g
   cases h1
theorem n7:∀(l b:List c_),Ny ops b l=true->∀S:Nat->Prop,(∀j,S j->Ky ops j S)->(∀g∈b,Ky ops g.id S->∀x∈g.anc,S x)->∀n∈l,Ky ops n.id S->∀x∈n.anc,S x
 |[],_,_,_,_,_=>by simp
 | n::r,b,h,S,hS,hseen=>by
   simp only[Ny,Aj]at h;obtain⟨h1,u⟩:=h;have s:Ky ops n.id S->∀x∈n.anc,S x:=by
    intro hd x t;rw[DE]at h1;have:=h1 x t;rw[Ce]at this;rcases this with h|h
    ·exact hd x h
    rw[List.any_eq_true]at h;obtain⟨g,q,i⟩:=h;rw[Aj]at i;exact hseen g q (hS g.id (hd g.id i.1)) x (by simpa using i.2)
   intro g q;rcases CE.1 q with rfl|q
   ·exact s
   exact n7 r (n::b) u S hS (λc i=>by rcases CE.1 i with rfl|i;exact s;exact hseen c i) g q
theorem my{b:Option (Nat×Nat)}:∀(l:List c_),Nd b l=true->l.Pairwise (λp q=>(q.anc.contains p.id=true\/FD p q=true)\/Mo b p q=true)
 |[],_=>.nil
 | p::r,h=>by
   simp only[Nd,Aj]at h;refine .cons (λq g=>?_) (my r h.2);have:=DE.1 h.1 q g;rwa [Ce,Ce]at this
theorem ZfX{p:c_}(x:p.op.isCall=false){q n:St->Prop}{st:St}(h1:Cx p q st)(i:Cx p n st):Cx p (λst=>q st/\n st) st:=by
 have j:∀ {st:St},AP p.op p.dst q st->AP p.op p.dst n st->AP p.op p.dst (λst=>q st/\n st) st:=by
  intro st;cases hp:p.op<;>first|(rw[hp]at x;simp[p_.isCall]at x;done)|(simp only[AP];split<;>first|exact λa b=>⟨a,b⟩|exact λa _=>a)
 unfold Cx at *;split at h1
 ·rename_i t;rw[t]at i;exact j h1 i
 rename_i g y t;rw[t]at i;simp only at i;split at h1
 ·rename_i b u;rw[u]at i;simp only at i;split at h1
  ·rename_i s;rw[Ad s]at i ⊢;exact j h1 i
  rename_i s;rw[Ae s]at i ⊢;exact⟨h1,i⟩
 ·rename_i u;rw[u]at i;exact⟨h1,i⟩
 exact h1.elim
def Kn(g:Option (Nat×Nat))(k:St->Prop)(l:List c_)(st:St):Prop:=
 l.Pairwise (λp q=>(q.anc.contains p.id=true\/FD p q=true)\/Mo g p q=true)/\LR g l=true/\BS l k st /\
 ∀a b,a∈l->b∈l->g=some (a.id,b.id)->∃X Y,l=X++a::b::Y/\BS (X++b::a::Y) k st
theorem Xf{b:c_}:∀ {r1 X:List c_} {r2 Y:List c_},((r1++b::r2).map (·.id)).Nodup->r1++b::r2=X++b::Y->r1=X/\r2=Y
 |[],[],_,_,_,h=>by simp at h;exact⟨rfl,h⟩
 | [],x::X,r2,Y,hn,h=>by
   simp only[CL,Dz,GJ]at h;obtain⟨rfl,rfl⟩:=h;simp at hn
 | p::r1,[],r2,Y,hn,h=>by
   simp only[CL,Dz,GJ]at h;obtain⟨rfl,rfl⟩:=h;simp at hn
 | p::r1,x::X,r2,Y,hn,h=>by
   simp only[Dz,GJ]at h;obtain⟨rfl,h⟩:=h;simp only[Dz,Cm,Nr]at hn;obtain⟨i,g⟩:=Xf hn.2 h;exact⟨by rw[i],g⟩
theorem Zgx{b:Option (Nat×Nat)}{l l':List c_}(h:∀x∈l',x∈l)(i:LR b l=true):LR b l'=true:=by
 unfold LR at *;cases b with
 |none=>rfl
 |some p=>exact DE.2 λx g=>DE.1 i x (h x g)
theorem ZjD{ex:Option (Nat×Nat)}{k:St->Prop}(r1:List c_)(n:c_)(r2:List c_)(st:St)(s:((r1++n::r2).map (·.id)).Nodup)(hk:Kn ex k (r1++n::r2) st)(U:∀p∈r1++n::r2,p.id ∉ n.anc):∃k':St->Prop,Cx n k' st/\∀f4,k' f4->Kn ex k (r1++r2) f4:=by
 obtain⟨hp,hc,h1,h2⟩:=hk;have q:(r1++r2).Sublist (r1++n::r2):=List.Sublist.append (List.Sublist.refl r1) (List.sublist_cons_self n r2);have R:=hp.sublist q;have hc':=Zgx (λx A=>q.subset A) hc;have u:∀x∈r1++r2,x.id≠n.id:=by
  intro x A e;rw[Gb,Cm,Rn]at s;obtain⟨n1,n2,n3⟩:=s;rcases CI.1 A with A|A
  ·exact n3 _ (Jz A) n.id (by simp) e
  rw[Nr]at n2;exact n2.1 (by rw[<- e];exact Jz A)
 rw[List.pairwise_append]at hp;obtain⟨hp1,hp2,hp3⟩:=hp;have L:∀p∈r1,FD p n=true\/Mo ex p n=true:=by
  intro p t;rcases hp3 p t n (by simp)with(h|h)|h
  ·exact absurd (by simpa using h) (U p (by simp[t]))
  ·exact .inl h
  exact .inr h
 by_cases C:∃a∈r1,ex=some (a.id,n.id)
 ·obtain⟨a,N,C⟩:=C;obtain⟨X,Y,hl,h3⟩:=h2 a n (by simp[N]) (by simp) C;have hl':r1++n::r2=(X++[a])++n::Y:=(by rw[hl];simp);obtain⟨rfl,rfl⟩:=Xf s hl';have F:∀p∈X,FD p n=true:=by
   intro p hpX;rcases L p (by simp[hpX])with h|h
   ·exact h
   exfalso;rw[C]at h;simp only[Mo,Aj,Bb]at h;rw[hl']at s;simp only[Cj,Gb,Cm,Nq]at s;rw[Rn]at s;exact s.2.2 p.id (Jz hpX) a.id (by simp) h.1
  refine⟨_,Uj X (a::r2) st F h3,λf4 h'=>⟨R,hc',by simpa using h',λa' b' _ hb' g=>?_⟩⟩;rw[C]at g;simp only[Ap,Aq]at g;exact absurd g.2.symm (u b' hb')
 have F:∀p∈r1,FD p n=true:=by
  intro p t;rcases L p t with h|h
  ·exact h
  exfalso;cases A:ex with
  |none=>rw[A]at h;cases h
  | some ij=>
    obtain⟨i,j⟩:=ij;rw[A]at h;simp only[Mo,Aj,Bb]at h;exact C ⟨p,t,by rw[A,h.1,h.2]⟩
 have hb:=Uj r1 r2 st F h1;by_cases G:∃a b,a∈r1++r2/\b∈r1++r2/\ex=some (a.id,b.id)
 ·obtain⟨a,b,N,D,g⟩:=G;obtain⟨X,Y,hl,h3⟩:=h2 a b (q.subset N) (q.subset D) g;have hnc:n.op.isCall=false:=by
   rw[g]at hc;have:=DE.1 hc n (by simp);simp only[Ce,Br,eO,Ay]at this;rcases this with(h|h)|h
   ·exact h
   ·exact absurd h (U a (q.subset N))
   exact absurd h (U b (q.subset D))
  have hne1:=u a N;have hne2:=u b D;have M:n∈X++a::b::Y:=(by rw[<- hl];simp);obtain⟨X',Y',e1,e2⟩:∃X' Y',r1++r2=X'++a::b::Y'/\Cx n (BS (X'++b::a::Y') k) st:=by
   simp only[CI,CE]at M;rcases M with hm|rfl|rfl|hm
   ·obtain⟨X1,X2,rfl⟩:=T4 hm;have Z:r1++n::r2=X1++n::(X2++a::b::Y):=(by rw[hl];simp);obtain⟨rfl,rfl⟩:=Xf s Z;refine⟨r1++X2,Y,by simp,?_⟩;have:=Uj r1 (X2++b::a::Y) st F (by simpa using h3);simpa using this
   ·exact absurd rfl hne1
   ·exact absurd rfl hne2
   obtain⟨Y1,Y2,rfl⟩:=T4 hm;have Z:r1++n::r2=(X++a::b::Y1)++n::Y2:=(by rw[hl];simp);obtain⟨rfl,rfl⟩:=Xf s Z;refine⟨X,Y1++r2,by simp,?_⟩;have:=Uj (X++b::a::Y1) r2 st (λp t=>F p (by simp only[CI,CE]at t ⊢;rcases t with h|h|h|h<;>simp[h])) (by simpa using h3);simpa using this
  refine⟨_,ZfX hnc hb e2,λf4 h'=>⟨R,hc',h'.1,λa' b' ha' hb' z=>?_⟩⟩;rw[g]at z;simp only[Ap,Aq]at z;have O:((r1++r2).map (·.id)).Nodup:=(q.map (·.id)).nodup s;have J:∀x y:c_,x∈r1++r2->y∈r1++r2->x.id=y.id->x=y:=λx y A I e=>by
   obtain⟨A1,A2,hA⟩:=T4 A;rw[hA]at I O;rw[Gb,Cm,Rn]at O;obtain⟨m1,m2,m3⟩:=O;simp only[CI,CE]at I;rcases I with I|I|I
   ·exact absurd e.symm (m3 _ (Jz I) x.id (by simp))
   ·exact I.symm
   rw[Nr]at m2;exact absurd (by rw[e];exact Jz I) m2.1
  have ea:=J a a' N ha' z.1;have eb:=J b b' D hb' z.2;subst ea;subst eb;exact⟨X',Y',e1,h'.2⟩
 exact⟨_,hb,λf4 h'=>⟨R,hc',h',λa b N D g=>absurd ⟨a,b,N,D,g⟩ G⟩⟩
theorem ZhT{st:St}{a:Act}{w:World}(h:Dc ι0 σ0 w0 Φ st a w):Dc ι0 σ0 w0 Φ st a w.drew:=by
 obtain⟨hd,b,ι,β,H,B,S,T⟩:=h;exact⟨hd,b,ι,β,H.drew,B.drew,S,T.trans (Step.drew _ _ _)⟩
theorem cr:∀(n:Nat) (l:List Nat),l.Nodup->(∀x∈l,x<n)->l.length<=n
 | 0,l,_,h=>by
   cases l with
   |nil=>simp
   |cons x r=>exact absurd (h x (by simp)) (by omega)
 | n + 1,l,hn,h=>by
   by_cases hm:n∈l
   ·have:=cr n (l.erase n) (hn.erase n) λx b=>by
     have h1:=(List.Nodup.mem_erase_iff hn).1 b;have:=h x h1.2;have:=h1.1;omega
    rw[List.length_erase_of_mem hm]at this;omega
   have:=cr n l hn λx b=>by
    have h1:=h x b;have:x≠n:=λe=>hm (e▸b);omega
   omega
theorem ZeP{l:List Nat}{n:Nat}(h1:l.Nodup)(q:l.length=n)(j:∀x∈l,x<n):∀i,i<n->i∈l:=by
 intro i hi;apply Classical.byContradiction;intro g;have:=cr n (i::l) (Nr.2 ⟨g,h1⟩) λx b=>by
  rcases CE.1 b with rfl|b
  ·exact hi
  exact j x b
 simp at this;omega
variable [hG:GlC P ι0 σ0 w0]
theorem mq {id:Nat} {l:List c_} {k:St->Prop} {st:St} {a:Act} {w:World} (O:Option (Nat×Nat)) (hex:O=none\/O=OQ l) (hm:P.follows .mixedOrders=true) (hk:Yq O P ops l=true) (hc:∀u∈l,∀p∈L7 P ops u,AA P p.1 p.2)
 (hQ:∀f4 I w',Dc ι0 σ0 w0 Φ f4 I w'->k f4->Q .normal I w') (hr:Dc ι0 σ0 w0 Φ st a w) (h:BS l k st) (h2:O≠none->∀l2,Pe l=some l2->BS l2 k st):(Code.region id ops true).wp P Q a w:=by
 unfold Yq at hk;simp only[Aj,Bb]at hk;obtain⟨⟨⟨⟨⟨k1,k2⟩,k3⟩,k4⟩,k5⟩,k6⟩:=hk;generalize hn:st.hp.length=n;have k3:Nj ops [] (Cu l n)=true:=by rw[<- dV,TM l n 0,dV];exact k3
 have k4:Ny ops [] (Cu l n)=true:=by
  rw[<- fC (Cu l n) [],TM l n 0];exact(fC (Cu l 0) []).trans k4
 have k5:Nd O (Cu l n)=true:=by rw[<- ct,TM l n 0,ct];exact k5
 have k6:LR O (Cu l n)=true:=by rw[<- ox,TM l n 0,ox];exact k6
 have h:=bJ l st.sl st.hp h;rw[hn]at h;have hr0:=ZhT (ml (GP l) hr);rw[hn]at hr0;have hσ:σ0.length<=n:=by rw[<- hn];exact Zg8 hr
 have hΦ:∀m b,Φ m=some b->m<n:=λm b e=>by rw[<- hn];exact hr.2.1.lt e
 have ok1:∀o∈l,Np P ops o=true:=λo ho=>DE.1 k1 o ho;obtain⟨t1,t2,t3,t4⟩:=mN (Cu l n) [] k3;have J:∀ {L:List c_},(L.map (·.id)).Nodup->∀x y:c_,x∈L->y∈L->x.id=y.id->x=y:=λ{L} nd x y g D e=>by
  obtain⟨A1,A2,rfl⟩:=T4 g;rw[Gb,Cm,Rn]at nd;obtain⟨m1,m2,m3⟩:=nd;simp only[CI,CE]at D;rcases D with D|D|D
  ·exact absurd e.symm (m3 _ (Jz D) x.id (by simp))
  ·exact D.symm
  rw[Nr]at m2;exact absurd (by rw[e];exact Jz D) m2.1
 have hkn:Kn O k (Cu l n) ⟨st.sl,st.bx,st.hp++GP l⟩:=by
  refine⟨my _ k5,k6,h,λa b ha hb e=>?_⟩;have hpi:OQ l=some (a.id,b.id):=by
   rcases hex with h|h
   ·rw[h]at e;cases e
   rw[<- h];exact e
  obtain⟨X,I,Z,Y,q1,q2,q3,q4,q5⟩:=lG hpi;have h3:=bJ _ st.sl st.hp (h2 (by rw[e];simp) _ q2);obtain⟨c1,c2⟩:=Zgh q5;obtain⟨X',r1,r2,r3⟩:=mz X I Z Y n c1 c2;rw[hn,r2,<- r3,<- q1]at h3;rw[<- q1]at r1;have ea:=J t2 a I ha (by rw[r1];simp) q3.symm;have eb:=J t2 b Z hb (by rw[r1];simp) q4.symm;subst ea;subst eb;exact⟨X',Y,r1,h3⟩
 refine wp_region_any hm (kN (G:=λu=>(Np P ops u=true/\(∀p∈L7 P ops u,AA P p.1 p.2)/\∀m b,¬FM l n u m b)\/∃m b,FM l n u m b)
  (R:=λL st a w=>∃Φ',Dc ι0 σ0 w0 Φ' st a w/\∀m b,Φ' m=some b↔Φ m=some b\/∃u∈L,FM l n u m b)
  (A:=Kn O k) (λf4 I w' C h'=>?_) ZjD (λr1 u r2 st a w k' K hnd M hr h hK=>?_) ops.size (Cu l n) (Array.replicate ops.size false) ⟨st.sl,st.bx,st.hp++GP l⟩ a _ (by rw[(dj l n).2];exact k2)
  (λu F=>⟨_,Array.getElem?_eq_getElem (t4 u F)⟩) (λu F=>?_) t2 (λi=>?_) (t1.mono (by simp)) (λj hj=>?_) (λS hS=>n7 (Cu l n) [] k4 S hS (by simp)) ⟨_,hr0,λm b=>?_⟩ hkn)
 ·
  obtain⟨Φ',C,t⟩:=C;have:Φ'=Φ:=by
   funext m;cases e:Φ' m with
   | some b=>
     rcases (t m b).1 e with h|⟨_,h,_⟩
     ·exact h.symm
     cases h
   | none=>
     cases e2:Φ m with
     |none=>rfl
     |some b=>have:=(t m b).2 (.inl e2);rw[e]at this;cases this
  subst this;exact hQ f4 I w' C h'.2.2.1
 ·obtain⟨Φ',C,t⟩:=hr;rcases M with⟨g1,g2,g3⟩|⟨m,b,N⟩
  ·refine kZ g1 g2 C h λf4 I w' U h'=>hK f4 I w' ⟨Φ',U,λm b=>?_⟩ h';rw[t m b];constructor
   ·rintro(h|⟨x,g,s⟩)
    ·exact .inl h
    simp only[CI,CE]at g;rcases g with g|rfl|g
    ·exact .inr ⟨x,by simp[g],s⟩
    ·exact absurd s (g3 m b)
    exact .inr ⟨x,by simp[g],s⟩
   rintro(h|⟨x,g,s⟩)
   ·exact .inl h
   refine .inr ⟨x,?_,s⟩;simp only[CI,CE]at g ⊢;rcases g with g|g
   ·exact .inl g
   exact .inr (.inr g)
  obtain⟨_,hnm,o,ho,mk,z,rfl⟩:=OU N;have d9:=ok1 o ho;have M:o.guard=none/\o.op.cst=some (mk,b):=by
   unfold c_.cst at z;split at z
   ·rename_i M;exact⟨M,z⟩
   cases z
  unfold Np at d9;split at d9
  ·rename_i oo hoo;simp only[Aj,Bb,M.1]at d9;obtain⟨⟨q1,q2⟩,q3⟩:=d9;have q2':oo.guard=none:=by
    cases e:oo.guard with
    |none=>rfl
    |some p=>obtain⟨j,wt⟩:=p;rw[e]at q2;simp[dQ]at q2
   have q3':Fq P oo.op o.op=true:=by
    have hnc:=(cE M.2).2.2.2.2.1;revert q3 hnc;cases o.op<;>first|exact λh _=>h|(intro _ h;cases h)
   have hΦm:Φ' m=some b:=(t m b).2 (.inr ⟨_,by simp,N⟩);have h2:k' (st.put o.dst (mk.v m)):=by
    unfold Cx Mr at h;simpa [M.1,AP,Af,p_.clears,T_.ev]using h
   unfold wpOp;have hid:(Mr o (mk.v m)).id=o.id:=rfl;rw[hid,hoo];simp only;have hw:Region.wanted oo (yielded ops a.tmps)=true:=(by unfold Region.wanted;rw[q2']);rw[Ad hw];refine .inl (Zc2 M.2 q3' hΦm (by omega) C q1 λI w' U=>hK _ I w' ⟨_,U,λm' Z=>?_⟩ h2);constructor
   ·intro e;split at e
    ·cases e
    rename_i f9;rcases (t m' Z).1 e with h|⟨x,g,s⟩
    ·exact .inl h
    simp only[CI,CE]at g;rcases g with g|rfl|g
    ·exact .inr ⟨x,by simp[g],s⟩
    ·exact absurd (ZiE s N) f9
    exact .inr ⟨x,by simp[g],s⟩
   rintro(h|⟨x,g,s⟩)
   ·have:=hΦ m' Z h;rw[Ae (by omega)];exact(t m' Z).2 (.inl h)
   have f9:m'≠m:=λe=>by
    subst e;obtain⟨rfl,_⟩:=oU s N;rw[Gb,Cm,Rn]at hnd;obtain⟨n1,n2,n3⟩:=hnd;rcases CI.1 g with g|g
    ·exact n3 _ (Jz g) _ (by simp) rfl
    rw[Nr]at n2;exact n2.1 (Jz g)
   rw[Ae f9];refine(t m' Z).2 (.inr ⟨x,?_,s⟩);simp only[CI,CE]at g ⊢;rcases g with g|g
   ·exact .inl g
   exact .inr (.inr g)
  cases d9
 ·by_cases N:∃m b,FM l n u m b
  ·exact .inr N
  rcases pK F with h|h
  ·exact absurd h N
  exact .inl ⟨ok1 u h,hc u h,λm b hh=>N ⟨m,b,hh⟩⟩
 ·constructor
  ·intro hi;have h_:i<ops.size:=by
    rcases Bz i ops.size with q|q
    ·exact q
    simp[Array.getD,Nat.not_lt.2 q]at hi
   have:=ZeP t2 (by rw[Bh,(dj l n).2];exact k2) (λx g=>by obtain⟨y,D,rfl⟩:=List.mem_map.1 g;exact t4 y D) i h_;obtain⟨y,D,rfl⟩:=List.mem_map.1 this;exact⟨y,D,rfl⟩
  rintro⟨u,F,rfl⟩;simp[Array.getD,t4 u F]
 ·exfalso;unfold JA at hj;simp only[Array.getD]at hj;split at hj<;>simp at hj
 exact pW l n Φ hΦ m b
end
def YR(i:Nat):List c_->Option (c_×List c_)
 |[]=>none| o::r=>if o.id == i then some (o,r)else match YR i r with
   |some (q,r')=>if FD o q then some (q,o::r')else none
   |none=>none
def Zf:List Nat->List c_->Bool
 |[],[]=>true| i::is,l=>match YR i l with
   |some (_,r)=>Zf is r
   |none=>false
 |_,_=>false
theorem mu{i:Nat}{k:St->Prop}:∀ {l:List c_} {q:c_} {r:List c_},YR i l=some (q,r)->q.id=i/\q∈l/\(∀x∈r,x∈l)/\∀st,BS l k st->Cx q (BS r k) st
 |[],_,_,h=>by cases h
 | o :: l, q,r,h=>by
   unfold YR at h;split at h
   ·rename_i e;cases h;exact⟨by simpa using e,by simp,λx b=>by simp[b],λst h=>h⟩
   split at h
   ·rename_i q' r' e;split at h
    ·rename_i hs;cases h;obtain⟨h1,s,n,j⟩:=mu (k:=k) e;refine⟨h1,by simp[s],λx b=>?_,λst g=>?_⟩
     ·rcases CE.1 b with rfl|b
      ·simp
      simp[n x b]
     exact lR hs (ky (m8 hs) j g)
    cases h
   cases h
theorem ng{P:Program}{ops:Array Oper}{ι0:AL}{σ0:Ac}{Φ:Phm}{w0:World}{Q:Exit->Act->World->Prop} [hG:GlC P ι0 σ0 w0]{k:St->Prop}(s:∀f4 b w',Dc ι0 σ0 w0 Φ f4 b w'->k f4->Q .normal b w'):∀(is:List Nat) (l:List c_) (st:St) (a:Act) (w:World),Zf is l=true->(∀n∈l,Np P ops n=true)->(∀n∈l,∀p∈L7 P ops n,AA P p.1 p.2) ->
 Dc ι0 σ0 w0 Φ st a w->BS l k st->wpOps P ops Q is a w
 |[],[],st,a,w,_,_,_,hr,h=>s _ _ _ hr h
 |[],_::_,_,_,_,hs,_,_,_,_=>by cases hs
 | i :: is,l,st,a,w,hs,hk,hc,hr,h=>by
   unfold Zf at hs;split at hs
   ·rename_i q r e;obtain⟨h1,u,t,y⟩:=mu (k:=k) e;rw[<- h1,wpOps_cons];exact kZ (hk q u) (hc q u) hr (y st h) λf4 b w' j h'=>ng s is r f4 b w' hs (λx g=>hk x (t x g)) (λx g=>hc x (t x g)) j h'
   cases hs
def Fb(P:Program):Code->ACode->Bool
 |.skip,.skip=>true|.region _ ops draw,.region l=>if draw then Yq none P ops l else Zf (List.range ops.size) l&&l.all (Np P ops)|.region _ ops draw,.regionU l=>draw&&Yq (OQ l) P ops l|.seq a b,.seq a' b'=>Fb P a a'&&Fb P b b'|.cond c a b,.cond c' a' b'=>AH c c'&&Fb P a a'&&Fb P b b'|.block i a,.block j a'=>i == j&&Fb P a a'|.loop a,.loop _ a'=>Fb P a a'|.exit i,.exit j=>i == j|.ret,.ret=>true|_,_=>false
def Ng(P:Program):Code->ACode->List (FuncId×Bg)
 |.region _ ops _,.region l=>l.flatMap (L7 P ops)|.region _ ops _,.regionU l=>l.flatMap (L7 P ops)|.seq a b,.seq a' b'=>Ng P a a'++Ng P b b'|.cond _ a b,.cond _ a' b'=>Ng P a a'++Ng P b b'|.block _ a,.block _ a'=>Ng P a a'|.loop a,.loop _ a'=>Ng P a a'|_,_=>[]
def AExit.exit':AExit->Exit
 |.normal=>.normal|.exit i=>.exit i|.ret=>.ret
section
variable {P:Program} {ι0:AL} {σ0:Ac} {Φ:Phm} {w0:World} [hG:GlC P ι0 σ0 w0] (hm:P.follows .mixedOrders=true)
include hm
theorem Oz:∀(ac:ACode) (c:Code),Fb P c ac=true->(∀p∈Ng P c ac,AA P p.1 p.2)->∀(k:CA) (Q:Exit->Act->World->Prop),(∀e st a w,Dc ι0 σ0 w0 Φ st a w->k e st->Q e.exit' a w) ->
 ∀(st:St) (a:Act) (w:World),Dc ι0 σ0 w0 Φ st a w->B3 ac k st->c.wp P Q a w
 | .skip,c,g,_,k,Q,hQ,st,a,w,q,h=>by
   cases c<;>simp[Fb]at g;exact wp_skip (hQ .normal _ _ _ q h)
 | .region l,c,g,hob,k,Q,hQ,st,a,w,q,h=>by
   cases c<;>simp only[Fb,AZ]at g;rename_i id ops D;have O:∀J∈l,∀p∈L7 P ops J,AA P p.1 p.2:=λJ I p hp=>hob p (List.mem_flatMap.2 ⟨J,I,hp⟩);cases D with
   | true=>
     simp only[AX]at g;exact mq none (.inl rfl) hm g O (λf4 A w' u h'=>hQ .normal f4 A w' u h') q h (λe=>absurd rfl e)
   | false=>
     simp only[AZ,A5,Aj]at g;refine wp_region ?_;exact ng (k:=k .normal) (λf4 A w' u h'=>hQ .normal f4 A w' u h') _ l st a w g.1 (λx hx=>DE.1 g.2 x hx) O q h
 | .regionU l,c,g,hob,k,Q,hQ,st,a,w,q,h=>by
   cases c<;>simp only[Fb,AZ]at g;rename_i id ops D;have O:∀J∈l,∀p∈L7 P ops J,AA P p.1 p.2:=λJ I p hp=>hob p (List.mem_flatMap.2 ⟨J,I,hp⟩);rw[Aj]at g;obtain⟨rfl,g⟩:=g;exact mq (OQ l) (.inr rfl) hm g O (λf4 A w' u h'=>hQ .normal f4 A w' u h') q h.1 (λ_=>h.2)
 | .seq x y,c,g,hob,k,Q,hQ,st,a,w,q,h=>by
   cases c<;>simp only[Fb,AZ]at g;rename_i z c2;rw[Aj]at g;refine wp_seq (Oz x z g.1 (λp hp=>hob p (eS _ hp)) (Gh (B3 y k) k) _ (λe st a w q h=>?_) st a w q h);cases e with
   |normal=>exact Oz y c2 g.2 (λp hp=>hob p (eV _ hp)) k Q hQ st a w q h
   |exit i=>exact hQ (.exit i) st a w q h
   |ret=>exact hQ .ret st a w q h
 | .cond t x y,c,g,hob,k,Q,hQ,st,a,w,q,h=>by
   cases c<;>simp only[Fb,AZ]at g;rename_i tt z c2;simp only[Aj]at g;have u:=q;obtain⟨hd,hH,ι,β,H,B,S,T⟩:=u;have rt:=BI g.1.1 S;simp only[B3]at h;split at h
   ·rename_i b N;rw[N]at rt;have e:=QS rt;refine wp_cond_split e (λN=>?_) (λN=>?_)
    ·subst N;exact Oz x z g.1.2 (λp hp=>hob p (eS _ hp)) k Q hQ st a w q (by simpa using h)
    subst N;exact Oz y c2 g.2 (λp hp=>hob p (eV _ hp)) k Q hQ st a w q (by simpa using h)
   exact h.elim
 | .block i x,c,g,hob,k,Q,hQ,st,a,w,q,h=>by
   cases c<;>simp only[Fb,AZ]at g;rename_i j z;simp only[Aj,Bb]at g;obtain⟨rfl,g⟩:=g;refine wp_block (Oz x z g hob (Jx j k) _ (λe st a w q h=>?_) st a w q h);cases e with
   |normal=>exact hQ .normal st a w q h
   | exit i=>
     simp only[Jx]at h;simp only[AExit.exit',Exit.inBlock];split at h
     ·rename_i e;rw[Ad e];exact hQ .normal st a w q h
     rename_i e;rw[Ae e];exact hQ (.exit i) st a w q h
   |ret=>exact hQ .ret st a w q h
 | .loop live x,c,g,hob,k,Q,hQ,st,a,w,q,h=>by
   cases c<;>simp only[Fb,AZ]at g;rename_i z;obtain⟨n,hn⟩:=h;intro b R cs;have U:∀(n:Nat) (st:St) (a:Act) (w:World),Dc ι0 σ0 w0 Φ st a w->Pq (B3 x) live k n st->∃e A w',Q e A w'/\Arrives P (lone (b.at a (.code z::.inLoop z::R)) cs w) b R cs e A w':=by
    intro n;induction n with
    |zero=>intro st a w _ h;exact h.elim
    | succ n ih=>
      intro st a w q h;have Y:Dc ι0 σ0 w0 Φ { st with sl:=keep live 0 st.sl } a w:=by
       obtain⟨hd,hH,ι,β,H,B,S,T⟩:=q;refine⟨hd,hH,ι,β,H,B,⟨by simpa using S.1,λi=>?_⟩,T⟩;rcases ZgV live 0 st.sl i with e|e
       ·rw[e];exact .undef _
       rw[e];exact S.2 i
      have F:=Oz x z g hob (Gh (Pq (B3 x) live k n) k) (Exit.then (λa w=>∃st,Dc ι0 σ0 w0 Φ st a w/\Pq (B3 x) live k n st) Q) (λe st a w q h=>by
       cases e with
       |normal=>exact⟨st,q,h⟩
       |exit i=>exact hQ (.exit i) st a w q h
       |ret=>exact hQ .ret st a w q h) _ a w Y h
      obtain⟨e,M,L,C,s⟩:=F b (.inLoop z::R) cs;cases e with
      | normal=>
        obtain⟨f4,u,h'⟩:=C;obtain⟨e2,a2,w2,Z,G⟩:=ih f4 M L u h';exact⟨e2,a2,w2,Z,.of_steps (Steps.trans s (.one step_inLoop)) G⟩
      |exit id=>exact⟨_,M,L,C,.pass (x:=.inLoop z) rfl (λ_ _=>.inl (by simp)) s⟩
      |goto l=>exact⟨_,M,L,C,.pass (x:=.inLoop z) rfl (λ_ _=>.inl (by simp)) s⟩
      |ret=>exact⟨_,M,L,C,.pass (x:=.inLoop z) rfl (λ_ _=>.inl (by simp)) s⟩
      |panic ch=>exact⟨_,M,L,C,.pass (x:=.inLoop z) rfl (λ_ _=>.inl (by simp)) s⟩
      |outgrown=>exact⟨_,M,L,C,.pass (x:=.inLoop z) rfl (λ_ _=>.inl (by simp)) s⟩
   obtain⟨e,A,w',C,s⟩:=U n st a w q hn;exact⟨e,A,w',C,.of_steps (.one step_loop) s⟩
 | .exit i,c,g,_,k,Q,hQ,st,a,w,q,h=>by
   cases c<;>simp only[Fb,AZ]at g;rename_i j _;have:j=i:=(by simpa using g);subst this;exact wp_exit (hQ (.exit j) _ _ _ q h)
 | .ret,c,g,_,k,Q,hQ,st,a,w,q,h=>by
   cases c<;>simp[Fb]at g;exact wp_ret (hQ .ret _ _ _ q h)
end
def Gd(P:Program):List ResultVar->List ARes->Bool
 |[],[]=>true|.tmp t::r,.tmp u::s=>t == u&&Gd P r s|.cell a ty::r,.cell b n::s=>a == b&&Iv P ty n&&Gd P r s|_,_=>false
def Fi(P:Program)(b:Func)(f:AFun):Bool:=(match b.body with|some c=>Fb P c f.body|none=>false)&&Gd P b.results.toList f.res&&decide (f.nparams<=f.nslots)&&decide (f.nslots<=b.ntmps)
def Fh(P:Program)(b:Func)(f:AFun):List (FuncId×Bg):=match b.body with|some c=>Ng P c f.body|none=>[]
theorem CZ(s:List V)(i:Nat):get s i=s[i]?.getD .undef:=by
 induction s generalizing i with
 |nil=>rfl
 | cons x r ih=>cases i with
   |zero=>rfl
   |succ i=>simp only[get,T5];exact ih i
theorem Zh0(n i:Nat):(EE n)[i]?.getD V.undef= .undef:=by
 induction n generalizing i with
 |zero=>rfl
 | succ n ih=>cases i with
   |zero=>rfl
   |succ i=>simpa [EE]using ih i
theorem n8(n:Nat):(EE n).length=n:=by
 induction n with
 |zero=>rfl
 |succ n b=>simp[EE,b]
theorem XX(n i:Nat)(cs:List V)(h:(HK n)[i]?=some cs):cs=[]:=by
 induction n generalizing i with
 |zero=>simp[HK]at h
 | succ n ih=>cases i with
   |zero=>simp[HK]at h;exact h
   |succ i=>exact ih i (by simpa [HK]using h)
theorem Rel.ok1{ι:AL}{σ:Ac}{β:Nat->Nat}{v:V}{x:Value}(b:v.ok1=true)(h:Rel ι σ β v x)(β':Nat->Nat):Rel ι σ β' v x:=h.mono (.refl _ _) λi o e=>by subst e;simp[V.ok1,V.cell]at b
section
variable {P:Program} {ι:AL} {β:Nat->Nat} {st:St} {a:Act} {w0 w:World} (H:HRel ι st.hp w) (B:BRel ι st.hp β st.bx w0 w) (S:SRel ι st.hp β st.sl a.tmps)
include H B S
def Nh(tmps:Array Value):ResultVar->Sem Value
 |.tmp t=>pure (tmps.getD t undef)|.cell a t=>do loadVar t (<- asAddr (tmps.getD a undef))
theorem ZiF{r:ResultVar}{O:ARes}{v:V}(g:Gd P [r] [O]=true)(e:HE st O=some v):∃x,(Nh a.tmps r).run P w= .ok x w/\v.ok1=true/\∀β,Rel ι st.hp β v x:=by
 cases r with
 | tmp t=>cases O with
   | tmp u=>
     simp[Gd]at g;subst g;simp only[HE]at e;split at e
     ·rename_i ho;cases e;exact⟨_,rfl,ho,λβ'=>(S.2 t).ok1 ho β'⟩
     cases e
   |cell u n=>simp[Gd]at g
 | cell t ty => cases O with
   |tmp u=>simp[Gd]at g
   | cell u n=>
     simp[Gd]at g;obtain⟨rfl,g⟩:=g;simp only[HE]at e;have C:∀(ad:Addr) (cs:List V) (ws:List Value),a.tmps.getD t Go.undef= .pointer (some ad)->CS n cs=some v->ws.length=n.getD 1->cs.length=n.getD 1->(∀u,u∈cs->u.cell=true) ->
      (∀(j:Nat) y,ws[j]?=some y->w.cell? (ad.add j)=some y)->(∀(j:Nat) u y,cs[j]?=some u->ws[j]?=some y->∀β',Rel ι st.hp β' u y)->∃x,(Nh a.tmps (.cell t ty)).run P w= .ok x w/\v.ok1=true/\∀β,Rel ι st.hp β v x:=by
      intro ad cs ws D F h1 L J h4 h5;have hl:=WY (P:=P) g h1 h4;have N:v.ok1=true:=by
       cases n with
       |some m=>simp[CS]at F;subst F;simpa [V.ok1]using J
       | none=>
         match cs,L with
         |[c],_=>simp[CS]at F;subst F;have:=J c (by simp);cases c<;>first|exact this|simp[V.cell]at this
      rcases XA (ι:=ι) (σ:=st.hp) (β:=β) F (by rw[h1,L]) J (λj u y z s=>h5 j u y z s _)with⟨Y,G⟩|⟨Y,y,s,G⟩
      ·exact⟨_,by simp only[Nh,D,asAddr,Ed,Rc,Dy];exact hl.1 Y,N,λβ'=>G.ok1 N β'⟩
      exact⟨y,by simp only[Nh,D,asAddr,Ed,Rc,Dy];exact hl.2 Y y s,N,λβ'=>G.ok1 N β'⟩
     split at e
     ·rename_i i q U;have hs:=S.2 t;rw[U]at hs;have D:=TP hs;split at e
      ·rename_i A;by_cases h0:n.getD 1=0
       ·exact C _ [] [] D (by rw[h0]at e;simpa using e) (by rw[h0];rfl) (by rw[h0];rfl) (by simp) (by simp) (by simp)
       have M:A3 st.bx i≠[]:=λh=>(by rw[h]at A;simp at A;omega);have Z:st.bx[i]?=some (A3 st.bx i):=by
        rw[TX]at M ⊢;cases h:st.bx[i]? with
        |none=>rw[h]at M;exact absurd rfl M
        |some c=>rfl
       obtain⟨arr,el,I,hsz,b⟩:=B.cells i _ Z M;refine C _ _ ((arr.toList.drop q).take (n.getD 1)) D e (by simp;omega) (SV A) (λu z=>?_) (λj y s=>?_) (λj u y z s=>?_)
       ·obtain⟨k,g⟩:=Kg z;obtain⟨_,g⟩:=Fy g;exact(b _ _ g).1
       ·obtain⟨_,s⟩:=Fy s;rw[M6];simp only[World.cell?,I];simpa using s
       obtain⟨_,z⟩:=Fy z;obtain⟨_,y',R,G⟩:=b _ _ z;obtain⟨_,s⟩:=Fy s;have:arr[q+j]?=some y:=(by simpa using s);rw[R]at this;cases this;exact G
      cases e
     ·rename_i l q U;have hs:=S.2 t;rw[U]at hs;have D:=(Ju hs).2;simp only[Ci]at e;obtain⟨cs,e0,F⟩:=e;obtain⟨ws,h1,L,J,h4,h5⟩:=XU H e0;exact C _ cs ws D F h1 L J h4 h5
     cases e
theorem od:∀(n:List ResultVar) (b:List ARes) (j:List V),Gd P n b=true->Fe st b=some j->∃q:List Value,(n.mapM (Nh a.tmps)).run P w= .ok q w/\j.length=q.length/\(∀v,v∈j->v.ok1=true) /\
 ∀(i:Nat) v x,j[i]?=some v->q[i]?=some x->∀β,Rel ι st.hp β v x
 |[],[],j,_,e=>by simp[Fe]at e;subst e;exact⟨[],by simp,rfl,by simp,by simp⟩
 |[],_::_,_,h,_=>by simp[Gd]at h
 |r::n,[],_,h,_=>by cases r<;>simp[Gd]at h
 | r :: n,ar::b,j,h,e=>by
   have h1:Gd P [r] [ar]=true/\Gd P n b=true:=by
    cases r<;>cases ar<;>simp[Gd]at h ⊢<;>simp[h]
   simp only[Fe]at e;split at e
   ·rename_i v s L J;cases e;obtain⟨x,C,A,z⟩:=ZiF H B S h1.1 L;obtain⟨q,I,G,F,D⟩:=od n b s h1.2 J;refine⟨x::q,by simp only[List.mapM_cons,Ed,C,I,Dy,Rc],by simp[G],λu g=>?_,λi u y g t=>?_⟩
    ·rcases CE.1 g with rfl|g
     ·exact A
     exact F u g
    cases i with
    |zero=>simp at g t;subst g;subst t;exact z
    |succ i=>exact D i u y (by simpa using g) (by simpa using t)
   cases e
theorem ZfI{n:Func}{g:List ARes}{v:V}(N:Gd P n.results.toList g=true)(e:Fp st g=some v):∃x,(results n a.tmps).run P w= .ok x w/\∀β,Rel ι st.hp β v x:=by
 have y:∀j:List Value,(n.results.toList.mapM (Nh a.tmps)).run P w= .ok j w->(results n a.tmps).run P w= .ok (if h:j.toArray.size=1 then j.toArray[0]else .tuple j.toArray) w:=by
  intro j h;have:(n.results.mapM (Nh a.tmps)).run P w= .ok j.toArray w:=by
   rw[Array.mapM_eq_mapM_toList];simp only[Sem.run_map,h,Dy]
  have e:results n a.tmps=(n.results.mapM (Nh a.tmps)) >>= λb=>pure (if h:b.size=1 then b[0]else .tuple b):=by
   unfold results;congr 1
  rw[e];simp only[Ed,this,Dy];rfl
 have s:∀b,Fe st g=some b->(g.length≠1/\v= .f8 b\/b=[v])->∃x,(results n a.tmps).run P w= .ok x w/\∀β,Rel ι st.hp β v x:=by
  intro b t q;obtain⟨j,J,G,I,F⟩:=od H B S _ _ b N t;have A:=y j J;rcases q with⟨R,rfl⟩|rfl
  ·have z:∀(l:List ARes) (b:List V),Fe st l=some b->b.length=l.length:=by
    intro l;induction l with
    |nil=>intro b h;simp[Fe]at h;subst h;rfl
    | cons x r ih=>
      intro b h;simp only[Fe]at h;split at h
      ·rename_i v' C _ D;cases h;simp[ih C D]
      cases h
   have:j.toArray.size≠1:=by
    have:=z g b t;simp;omega
   rw[dif_neg this]at A;exact⟨_,A,λβ=>.f8 b j G I λi u x M L=>F i u x M L β⟩
  match j,G with
  | [x],_=>
    rw[dif_pos (by rfl)]at A;exact⟨x,A,F 0 v x rfl rfl⟩
 match g,e with
 |[],e=>simp[Fp,Fe]at e;subst e;exact s [] rfl (.inl ⟨by simp,rfl⟩)
 |[r],e=>exact s [v] (by simp only[Fp]at e;simp[Fe,e]) (.inr rfl)
 | r1::r2::rs,e=>
   simp only[Fp,Ch]at e;obtain⟨b,O,D⟩:=e;exact s b O (.inl ⟨by simp,D.symm⟩)
end
theorem Rel.flat{ι ι':AL}{σ σ':Ac}{β β':Nat->Nat}{v:V}{x:Value}(b:v.flat2=true)(h:Rel ι σ β v x):Rel ι' σ' β' v x:=by
 have t:∀ {v:V} {x:Value},v.flat=true->Rel ι σ β v x->Rel ι' σ' β' v x:=by
  intro v x b h;cases h<;>first
   |exact .bool _
   |exact .int _ _
   |exact .str _
   |exact .X_ _
   |exact .nilIfc
   |exact .ifc _ _
   |simp[V.flat]at b
 have s:∀ {v:V} {x:Value},v.flat1=true->Rel ι σ β v x->Rel ι' σ' β' v x:=by
  intro v x b h;cases h with
  | agg cs ws g j h=>
    simp only[V.flat1,DE]at b;exact .agg cs ws g j λi u y n q=>t (b u (Il n)) (h i u y n q)
  |f8 cs ws g j h=>simp[V.flat1,V.flat]at b
  |_=>exact t b (by constructor<;>assumption)
 cases h with
 | f8 cs ws g j h=>
   simp only[V.flat2,DE]at b;exact .f8 cs ws g j λi u y n q=>s (b u (Il n)) (h i u y n q)
 |agg cs ws g j h=>exact s b (.agg cs ws g j h)
 |_=>exact s b (by constructor<;>assumption)
theorem QQ{σ h0:Ac}(hp:σ.take h0.length=h0){l:Nat}{Y_:Blk}(h:h0[l]?=some Y_):σ[l]?=some Y_:=by
 rw[<- hp,JC]at h;split at h
 ·exact h
 cases h
theorem lI{Φ:Phm}{st:St}{ι:AL}{β:Nat->Nat}{b:Array Value}(S:SRel ι (kill Φ st.hp) β st.sl b)(r:ARes):∀ {v},HE st r=some v->HE ⟨st.sl,st.bx,kill Φ st.hp⟩ r=some v:=by
 intro v e;cases r with
 |tmp t=>exact e
 | cell t n=>
   simp only[HE]at e ⊢;have g:=S.2 t;generalize get st.sl t=u at *;cases u<;>first|exact e|skip
   rename_i l o;simp only at e ⊢;rw[Q9 ((dA g).2 l o rfl)];exact e
theorem lj{Φ:Phm}{st:St}{ι:AL}{β:Nat->Nat}{i:Array Value}(S:SRel ι (kill Φ st.hp) β st.sl i):∀(b:List ARes) {vs},Fe st b=some vs->Fe ⟨st.sl,st.bx,kill Φ st.hp⟩ b=some vs
 |[],vs,e=>e
 | r :: b,vs,e=>by
   simp only[Fe]at e ⊢;split at e
   ·rename_i v g n j;rw[lI S r n,lj S b j];exact e
   cases e
theorem ZfH{Φ:Phm}{st:St}{ι:AL}{β:Nat->Nat}{i:Array Value}(S:SRel ι (kill Φ st.hp) β st.sl i)(b:List ARes){v:V}(e:Fp st b=some v):Fp ⟨st.sl,st.bx,kill Φ st.hp⟩ b=some v:=by
 match b,e with
 |[],e=>exact e
 |[r],e=>exact lI S r e
 | r1::r2::b,e=>
   simp only[Fp,Ch]at e ⊢;obtain⟨g,n,j⟩:=e;exact⟨g,lj S _ n,j⟩
theorem Zke{ι ι':AL}{h0 σ:Ac}{w w':World}(R:HRel ι h0 w)(H:HRel ι' σ w')(T:Step ι h0 w ι' σ w')(hp:σ.take h0.length=h0):HRel ι' h0 w'/\Step ι h0 w ι' h0 w':=by
 refine⟨⟨λl Y_ g j i v C=>?_,λl Y_ g j=>H.own l Y_ (QQ hp g) j,λl l' b F N g z j A=>H.apart l l' b F N (QQ hp g) (QQ hp z) j A,λl Y_ g j=>H.there l Y_ (QQ hp g) j⟩,?_⟩
 ·obtain⟨t,x,J,I⟩:=H.cells l Y_ (QQ hp g) j i v C;obtain⟨_,x0,_,G⟩:=R.cells l Y_ g j i v C;refine⟨t,x,J,λβ=>?_⟩;have h1:=I β;have u:=G β;cases v with
  | slice m o n=>
    obtain⟨y,q,_⟩:=Gx u;have M:=QQ hp q;obtain⟨U,D,L⟩:=Gx h1;rw[M]at D;cases D;rcases L with⟨c,rfl,O,c2⟩|⟨rfl,a,rfl⟩
    ·exact .slice m o n c y q O c2 (MN u q)
    exact .sliceEnd m o y q a (MN u q)
  | ptr m o=>
    obtain⟨⟨y,q⟩,_⟩:=Ju u;rw[(Ju h1).2];exact .ptr m o y q (Xt u q)
  |undef=>simp[V.cell]at t
  |box i o=>simp[V.cell]at t
  |agg cs=>simp[V.cell]at t
  |f8 cs=>simp[V.cell]at t
  |bool b=>exact h1.flat rfl
  |int k n=>exact h1.flat rfl
  |str s=>exact h1.flat rfl
  |X_=>exact h1.flat rfl
  |ifc b=>exact h1.flat rfl
 exact { keeps:=⟨T.keeps.place,λl Y_ h=>⟨Y_,h,rfl⟩⟩
         kinds:=λl b F h h'=>.inl (by rw[h]at h';cases h';rfl)
         fresh:=λl b g h _=>by have:=BB h;omega
         frame:=T.frame,size:=T.size,os:=T.os,output:=T.output,tape:=T.tape }
theorem ZfM{P:Program}(hm:P.follows .mixedOrders=true){f:FuncId}{y:Func}{n:AFun}(Z:P.funcs[f]?=some y)(A:Fi P y n=true)(q:∀p∈Fh P y n,AA P p.1 p.2):AA P f (ER n):=by
 intro Φ ι σ w args xs Q hΦ H hargs hsem hgl;haveI:GlC P ι (kill Φ σ) w:=⟨hgl⟩;obtain⟨F,u⟩:=hsem;unfold Fi at A;simp only[Aj,Ay]at A;obtain⟨⟨⟨z,O⟩,k3⟩,k4⟩:=A;split at z
 ·rename_i c G;unfold Fh at q;rw[G]at q;have hl:args.length=xs.length:=hargs.1;refine calls_of_wp Z G (Oz hm n.body c z q (Zg n σ Q) _ ?_ _ _ _ (?_:Dc ι (kill Φ σ) w Φ _ _ w) u)
  ·intro e st a w' Y h;obtain⟨hd,C,ι',β,D,B',L,J⟩:=Y;have g:(match Fp st n.res with|some v=>if n.pure then v.flat2=true/\st.hp.take σ.length=σ/\Q v σ else Q v st.hp|none=>False)->a.defers=[]/\∃v,(results y a.tmps).run P w'= .ok v w'/\sH Φ ι σ w Q (.returned v) w':=by
    intro h;split at h
    ·rename_i v U;obtain⟨x,R,b⟩:=ZfI (st:=⟨st.sl,st.bx,kill Φ st.hp⟩) D B' L O (ZfH L n.res U);refine⟨hd,x,R,?_⟩;split at h
     ·obtain⟨h1,h2,h3⟩:=h;obtain⟨N,M⟩:=Zke H D J (by rw[Ev,<- Zgf,h2]);exact⟨x,v,σ,ι',rfl,h3,hΦ,λβ=>(b β).flat h1,N,M⟩
     exact⟨x,v,st.hp,ι',rfl,h,C,b,D,J⟩
    exact h.elim
   cases e with
   |normal=>exact g h
   |ret=>exact g h
   |exit i=>exact h.elim
  refine⟨rfl,hΦ,ι,λ_=>0,H,⟨λi cs hi t=>absurd (XX _ _ _ hi) t,λi cs hi t=>absurd (XX _ _ _ hi) t,λi j cs cs' _ hi _ t=>absurd (XX _ _ _ hi) t,λi cs l Y_ hi t=>absurd (XX _ _ _ hi) t⟩,⟨?_,λi=>?_⟩,.refl _ _ _⟩
  ·simp[n8];omega
  rw[CZ];by_cases hi:i<args.length
  ·rw[Bp hi];have s:i<xs.length:=(by omega);have I:args[i]?=some args[i]:=Bc hi;have e2:(xs.toArray++Array.replicate (y.ntmps-xs.toArray.size) Go.undef).getD i Go.undef=xs[i]:=by
    rw[Nx,Array.getElem?_append_left (by simpa using s)];simp[s]
   rw[I,e2];exact hargs.2 i _ _ I (Bc s) _
  rw[Dj (by omega),Zh0];exact .undef _
 cases z
def AllSound(P:Program):List (FuncId×Bg)->Prop
 |[]=>True|[p]=>AA P p.1 p.2/\True|p::r=>AA P p.1 p.2/\AllSound P r
theorem AllSound.mem{P:Program}:∀ {l:List (FuncId×Bg)},AllSound P l->∀p∈l,AA P p.1 p.2
 |[],_,p,h=>by simp at h
 | [q],h,p,hp=>by
   rw[List.mem_singleton]at hp;subst hp;exact h.1
 | q::r::l,h,p,hp=>by
   rcases CE.1 hp with rfl|hp
   ·exact h.1
   exact AllSound.mem h.2 p hp
theorem Gu{P:Program}(hm:P.follows .mixedOrders=true){f:FuncId}{g:Func}{i:AFun}{t_:List (FuncId×Bg)}(q:P.funcs[f]?=some g)(n:Fi P g i=true)(j:Fh P g i=t_)(b:AllSound P t_):AA P f (ER i):=ZfM hm q n (by rw[j];exact b.mem)
inductive Hd where
 |s (t:Nat)|b (i:Nat)|h (i:Nat)|x (i:Nat)
 deriving DecidableEq
inductive Ql where
 |Z_|own|i5 (w:Nat)|i6 (hd:Hd) (p:List Nat) (top:Bool)|pre (hd:Hd) (p:List Nat)
 deriving DecidableEq
def Ql.isOwn:Ql->Bool
 |.own|.i5 _=>true|_=>false
inductive PV where
 |fl (x:V)|sl (q:Ql) (es:List (List PV))|ep (q:Ql) (es:List (List PV)) (j o:Nat)|box (i o:Nat)|ptr (i o:Nat)|agg (cs:List PV)|f8 (vs:List PV)
structure PS where
 sl:List PV
 bx:List (List PV)
 hp:List (List PV)
abbrev Dl:=List PV->List (List PV)->(PV->List (List PV)->Prop)->Prop
structure PMk where
 agg:Bool
 f:List PV->Int->(List PV->Int->Prop)->Prop
 vd:Bool
structure PTk where
 w:Nat
 sel:PV->List (List PV)->(List Nat->Prop)->Prop
inductive POp where
 |a (m:Bool) (o:p_)|aw (ws:List (Nat×Nat)) (m:Bool) (o:p_)|call (m:Bool) (f:Bg) (p:Dl) (args:List T_)|callk (m:Bool) (f:Bg) (p:Dl) (args:List T_)|callv (m:Bool) (f:Bg) (p:Dl) (args:List T_) (i c:Nat)|mark (f:Bg) (M:PMk) (x k:T_)|tk (f:Bg) (T:PTk) (x y:T_)|fz (x:T_)|clm (a:T_) (t:Nat) (o:p_)|fzb (a:T_) (o:p_)
structure POper where
 id:Nat
 dst:Option Nat
 op:POp
 guard:Option (Nat×Bool)
 anc:List Nat
inductive PCode where
 |skip|region (ops:List POper)|regionU (ops:List POper)|seq (l:List Nat) (a b:PCode)|cond (c:T_) (a b:PCode)|block (id:Nat) (a:PCode)|scope (a:PCode)|loop (live:List Nat) (a:PCode)|exit (id:Nat)|ret
def POp.er:POp->p_
 |.a _ o=>o|.aw _ _ o=>o|.call _ f _ args=>.call f args|.callk _ f _ args=>.callB .all f args|.callv _ f _ args i c=>.callB (.box i c) f args|.fz x=>.mv x|.clm _ _ o=>o|.fzb _ o=>o|.tk f _ x y=>.callB .all f [x,y]|.mark f M x k=>.call f (match M.vd with|true=>[x]|false=>[x,k])
def POper.er(o:POper):c_:=⟨o.id,o.dst,o.op.er,o.guard,o.anc⟩
def PCode.er:PCode->ACode
 |.skip=>.skip|.region ops=>.region (ops.map POper.er)|.regionU ops=>.regionU (ops.map POper.er)|.seq _ a b=>.seq a.er b.er|.cond c a b=>.cond c a.er b.er|.block i a=>.block i a.er|.scope a=>a.er|.loop l a=>.loop l a.er|.exit i=>.exit i|.ret=>.ret
def Aa:List PV->Nat->PV
 |[],_=>.fl .undef|x::_,0=>x|_::r,n+1=>Aa r n
def BW:List PV->Nat->PV->List PV
 |[],_,_=>[]|_::r,0,v=>v::r|x::r,n+1,v=>x::BW r n v
def Ao:List (List PV)->Nat->List PV
 |[],_=>[]|x::_,0=>x|_::r,n+1=>Ao r n
def Cf:List (List PV)->Nat->List PV->List (List PV)
 |[],_,_=>[]|_::r,0,v=>v::r|x::r,n+1,v=>x::Cf r n v
def AY:List PV->Nat->List PV->List PV
 |cs,_,[]=>cs|[],_,_::_=>[]|_::r,0,v::vs=>v::AY r 0 vs|c::r,n+1,v::vs=>c::AY r n (v::vs)
def s_:List PV->Nat->Nat->List PV
 |_,0,0=>[]|[],_,_=>[]|c::r,0,n+1=>c::s_ r 0 n|_::r,o+1,n=>s_ r o n
def Bs:List (List PV)->Nat->List PV
 |[],_=>[]|e::_,0=>e|_::r,n+1=>Bs r n
def Ds:List (List PV)->Nat->List PV->List (List PV)
 |[],_,_=>[]|_::r,0,e=>e::r|x::r,n+1,e=>x::Ds r n e
def C4(w:Nat):List (List PV)->Bool
 |[]=>true|e::r=>e.length == w&&C4 w r
def ET(w:Nat):Nat->List PV->List (List PV)
 |0,_=>[]|n+1,cs=>cs.take w::ET w n (cs.drop w)
def PV.cells:PV->List PV
 |.agg cs=>cs|v=>[v]
def BT:V->PV
 |.X_=>.sl .own []|.f8 []=>.f8 []|.bool b=>.fl (.bool b)|.int k n=>.fl (.int k n)|.str s=>.fl (.str s)|.ifc b=>.fl (.ifc b)|_=>.fl .undef
mutual
def PV.own:PV->Bool
 |.sl .own _=>true|.sl (.i5 _) _=>true|.agg cs=>PV.ownL cs|.f8 vs=>PV.ownL vs|_=>false
def PV.ownL:List PV->Bool
 |[]=>false|v::r=>v.own||PV.ownL r
end
mutual
def PV.i6(hd:Hd):PV->Bool
 |.sl (.i6 h _ _) _=>h == hd|.sl (.pre h _) _=>h == hd|.ep (.i6 h _ _) _ _ _=>h == hd|.ep (.pre h _) _ _ _=>h == hd|.agg cs=>PV.borL hd cs|.f8 vs=>PV.borL hd vs|_=>false
def PV.borL(hd:Hd):List PV->Bool
 |[]=>false|v::r=>v.i6 hd||PV.borL hd r
end
mutual
def PV.hold:PV->Bool
 |.sl .Z_ _=>false|.sl _ _=>true|.ep .Z_ _ _ _=>false|.ep _ _ _ _=>true|.agg cs=>PV.holdL cs|.f8 vs=>PV.holdL vs|_=>false
def PV.holdL:List PV->Bool
 |[]=>false|v::r=>v.hold||PV.holdL r
end
mutual
def PV.fz:PV->PV
 |.sl _ es=>.sl .Z_ es|.ep _ es j o=>.ep .Z_ es j o|.agg cs=>.agg (PV.fzL cs)|.f8 vs=>.f8 (PV.fzL vs)|v=>v
def PV.fzL:List PV->List PV
 |[]=>[]|v::r=>v.fz::PV.fzL r
end
mutual
def PV.detop:PV->PV
 |.sl (.i6 h p _) es=>.sl (.i6 h p false) es|.sl (.pre h p) es=>.sl (.i6 h p false) es|.ep (.i6 h p _) es j o=>.ep (.i6 h p false) es j o|.ep (.pre h p) es j o=>.ep (.i6 h p false) es j o|.agg cs=>.agg (PV.detopL cs)|.f8 vs=>.f8 (PV.detopL vs)|v=>v
def PV.detopL:List PV->List PV
 |[]=>[]|v::r=>v.detop::PV.detopL r
end
mutual
def PV.deep:PV->Bool
 |.fl _=>true|.sl .own es=>PV.deepE es|.sl (.i5 _) es=>PV.deepE es|.agg cs=>PV.deepL cs|.f8 vs=>PV.deepL vs|.ptr _ _=>true|_=>false
def PV.deepL:List PV->Bool
 |[]=>true|v::r=>v.deep&&PV.deepL r
def PV.deepE:List (List PV)->Bool
 |[]=>true|e::r=>PV.deepL e&&PV.deepE r
end
mutual
def PV.q_:PV->Bool
 |.ptr _ _=>true|.agg cs=>PV.hasPtrL cs|.f8 vs=>PV.hasPtrL vs|_=>false
def PV.hasPtrL:List PV->Bool
 |[]=>false|v::r=>v.q_||PV.hasPtrL r
end
mutual
def PV.shift(n:Nat):PV->PV
 |.ptr i o=>.ptr (n+i) o|.agg cs=>.agg (PV.shiftL n cs)|.f8 vs=>.f8 (PV.shiftL n vs)|v=>v
def PV.shiftL(n:Nat):List PV->List PV
 |[]=>[]|v::r=>v.shift n::PV.shiftL n r
end
def PV.cell:PV->Bool
 |.fl x=>x.flat|.sl .own _|.sl .Z_ _|.sl (.i5 _) _=>true|_=>false
def PV.flatc:PV->Bool
 |.fl x=>x.flat|_=>false
def BV:List PV->Bool
 |[]=>true|v::r=>v.cell&&BV r
def Is:List PV->Bool
 |[]=>true|v::r=>v.flatc&&Is r
def Kq:List (List PV)->Bool
 |[]=>true|e::r=>Is e&&Kq r
def PV.argc:PV->Bool
 |.fl x=>x.flat|.sl _ _|.ptr _ _=>true|_=>false
def Kt:List PV->Bool
 |[]=>true|v::r=>v.argc&&Kt r
def PV.argok:PV->Bool
 |.agg cs=>Kt cs|v=>v.argc
def Ij:List PV->Bool
 |[]=>true|v::r=>v.argok&&Ij r
def PV.retc:PV->Bool
 |.ptr _ _=>true|v=>v.cell
def FI:List PV->Bool
 |[]=>true|v::r=>v.retc&&FI r
def PV.retok:PV->Bool
 |.agg cs=>FI cs|v=>v.retc
def clr(hd:Hd):List PV->List PV
 |[]=>[]|v::r=>(if v.i6 hd then .fl .undef else v)::clr hd r
def PV.isBox(i:Nat):PV->Bool
 |.box j _=>i == j|_=>false
def Hl(i:Nat):List PV->List PV
 |[]=>[]|v::r=>(if v.isBox i then .fl .undef else v)::Hl i r
def Fl(live:List Nat):Nat->List PV->List PV
 |_,[]=>[]|n,v::r=>(if live.contains n then v.detop else .fl .undef)::Fl live (n+1) r
def GL(live:List Nat):Nat->List PV->List PV
 |_,[]=>[]|n,v::r=>(if live.contains n then v else .fl .undef)::GL live (n+1) r
mutual
def PV.isH:PV->Bool
 |.sl (.i6 (.h _) _ _) _=>true|.sl (.pre (.h _) _) _=>true|.ep (.i6 (.h _) _ _) _ _ _=>true|.ep (.pre (.h _) _) _ _ _=>true|.agg cs=>PV.isHL cs|.f8 vs=>PV.isHL vs|_=>false
def PV.isHL:List PV->Bool
 |[]=>false|v::r=>v.isH||PV.isHL r
end
def clrH:List PV->List PV
 |[]=>[]|v::r=>(if v.isH then .fl .undef else v)::clrH r
def T_.t7(s:List PV):T_->PV
 |.t n=>Aa s n|.c v=>BT v
def PS.put(st:PS)(d:Option Nat)(v:PV):PS:=
 match d with
 |none=>st|some d=>if v.own then { st with sl:=clr (.s d) (BW st.sl d v) }else { st with sl:=BW st.sl d v }
def Gm(v:PV)(n:Nat)(st:PS):PV×PS:=if v.own then (if v.i6 (.s n)then (.fl .undef,st)else (v,{ st with sl:=clr (.s n) (BW st.sl n (.fl .undef)) }))else (v,st)
def f'(x:T_)(st:PS):PV×PS:=match x with
 |.c v=>(BT v,st)|.t n=>Gm (Aa st.sl n) n st
def Zs(v:PV)(n:Nat)(st:PS):PV×PS:=if v.own then (if v.retok then (v.fz,{ st with sl:=clr (.s n) (BW st.sl n v.fz) })else (.fl .undef,st))else (v,st)
def fzOut(x:T_)(st:PS):PV×PS:=match x with
 |.c v=>(BT v,st)|.t n=>Zs (Aa st.sl n) n st
def PV.S_:PV->List Nat->PV
 |.agg cs,[c]=>Aa cs c|.agg _,_=>.fl .undef|.f8 vs,[i,c]=>Aa (Aa vs i).cells c|.f8 _,_=>.fl .undef|v,[0]=>v|_,_=>.fl .undef
def PV.setc:PV->List Nat->PV->PV
 |.agg cs,[c],w=>.agg (BW cs c w)|.agg cs,_,_=>.agg cs|.f8 vs,_,_=>.f8 vs|_,[0],w=>w|v,_,_=>v
def Df(st:PS):Hd->List Nat->PV
 |.s t,p=>(Aa st.sl t).S_ p|.b i,[c]=>Aa (Ao st.bx i) c|.h i,[c]=>Aa (Ao st.hp i) c|_,_=>.fl .undef
def y_(st:PS)(v:PV):Hd->List Nat->PS
 |.s t,p=>{ st with sl:=clr (.s t) (BW st.sl t ((Aa st.sl t).setc p v)) }|.b i,[c]=>{ st with sl:=clr (.b i) st.sl,bx:=Cf st.bx i (BW (Ao st.bx i) c v) }|.h i,[c]=>{ st with sl:=clr (.h i) st.sl,hp:=Cf st.hp i (BW (Ao st.hp i) c v) }|_,_=>st
def Dd(hd:Hd)(p:List Nat):PV->PV
 |.sl .own es=>.sl (.i6 hd p true) es|.sl (.i5 _) es=>.sl (.pre hd p) es|v=>v
def HI(hd:Hd):Nat->List PV->List PV
 |_,[]=>[]|c,v::r=>Dd hd [c] v::HI hd (c+1) r
def Ml:Ql->PV->PV
 |_,.fl x=>.fl x|.Z_,.sl _ es=>.sl .Z_ es|.i6 hd _ _,.sl .own es=>.sl (.i6 hd [] false) es|.i6 hd _ _,.sl (.i5 _) es=>.sl (.i6 hd [] false) es|.i6 ..,.sl .Z_ es=>.sl .Z_ es|.pre hd _,.sl .own es=>.sl (.i6 hd [] false) es|.pre hd _,.sl (.i5 _) es=>.sl (.i6 hd [] false) es|.pre ..,.sl .Z_ es=>.sl .Z_ es|_,_=>.fl .undef
def JM(hd:Hd):PV->PV
 |.agg cs=>.agg (HI hd 0 cs)|.f8 vs=>if PV.ownL vs then .fl .undef else .f8 vs|v=>Dd hd [0] v
def Nt(x:T_)(st:PS):PV×PS:=match x with
 |.c v=>(BT v,st)|.t n=>(JM (.s n) (Aa st.sl n),st)
def Gk(q:Ql):List PV->List PV
 |[]=>[]|v::r=>Ml q v::Gk q r
def Dt:List PV->List PV
 |[]=>[]|v::r=>(if v.own then .fl .undef else v)::Dt r
def Ee(n:Option Nat)(cs:List PV):Option PV:=
 match n,cs with
 |some _,cs=>some (.agg cs)|none,[v]=>some v|none,_=>none
def OT(d:Nat):Option PV->Option Nat
 |none=>some d|some (.fl (.int _ i))=>if 0<=i then some i.toNat else none|some _=>none
def EF:List PV->Option (List V)
 |[]=>some []|.fl x::r=>(match EF r with|some l=>some (x::l)|none=>none)
 |_::_=>none
def EX:List PV->List (Nat×Nat×T_)->PS->Option (List PV×PS)
 |cs,[],st=>some (cs,st)| cs,(off,size,x)::r,st=>
   if (f' x st).1.cells.length=size/\off+size<=cs.length/\BV (f' x st).1.cells=true then EX (AY cs off (f' x st).1.cells) r (f' x st).2 else none
def Yh:PV->Option PV
 |.box i o=>some (.box i o)|.ptr i o=>some (.ptr i o)|.ep q es j o=>some (.ep q es j o)|_=>none
def Rz(op:BinOp):PV->PV->Option PV
 |.fl a,.fl b=>(CO op a b).map .fl|_,_=>none
def Uu(g:Bool):PV->PV->Option PV
 |.fl (.bool a),.fl (.bool b)=>some (.fl (.bool (if g then !(a == b)else a == b)))|_,_=>none
def Up(b:Bool):PV->Option PV
 |.fl (.ifc a)=>some (.fl (.bool (if b then !a else a)))|_=>none
def Uz(n:Nat)(g:Bool):PV->PV->Option PV
 | .agg a,.agg b=>(match EF a,EF b with
   |some a,some b=>if a.length=n/\b.length=n/\a.all V.flat=true/\b.all V.flat=true then (Ex a b).map λt=>.fl (.bool (if g then !t else t))else none
   |_,_=>none)
 |_,_=>none
def UQ(op:UnOp):PV->Option PV
 |.fl a=>(JK op a).map .fl|_=>none
def T8(k:IntKind):PV->Option PV
 |.fl (.int _ n)=>some (.fl (.int k (k.wrap n)))|_=>none
def fw(_:PV):Option PV:=none
def FK(x:T_)(l:Nat):Ql->Option Ql
 |.Z_=>some .Z_|.own=>(match x with|.t n=>some (if l=0 then .pre (.s n) [0]else .i6 (.s n) [0] false)|.c _=>none)
 |.i5 _=>none|.i6 hd p t=>some (if t=true/\l=0 then .pre hd p else .i6 hd p false)|.pre hd p=>some (if l=0 then .pre hd p else .i6 hd p false)
def FJ(x:T_):Ql->Option Ql
 |.Z_=>some .Z_|.own=>(match x with|.t n=>some (.i6 (.s n) [0] true)|.c _=>none)
 |.i5 _=>none|.i6 hd p t=>some (.i6 hd p t)|.pre hd p=>some (.i6 hd p true)
def T0(w:Nat)(x:T_)(b hi:Option PV):PV->Option PV
 | .sl q es=>(match OT 0 b,OT es.length hi with
   |some l,some h=>if l<=h/\h<=es.length/\0<es.length/\C4 w es=true then (FK x (if b.isNone then 0 else 1) q).map λq=>.sl q ((es.drop l).take (h-l))else none
   |_,_=>none)
 |_=>none
def cv(_ _:Option PV)(_:PV):Option PV:=none
def XV(off:Nat):PV->Option PV
 |.box i o=>some (.box i (o+off))|.ptr i o=>some (.ptr i (o+off))|.ep q es j o=>some (.ep q es j (o+off))|_=>none
def TT(off:Nat)(n:Option Nat)(x:T_):PV->Option PV
 | .agg cs=>(match x with
   |.t t=>if off+n.getD 1<=cs.length then Ee n (HI (.s t) off (s_ cs off (n.getD 1)))else none
   |.c _=>none)
 |_=>none
def Tx(w:Nat)(x:T_):PV->PV->Option PV
 |.sl q es,.fl (.int _ j)=>if 0<=j/\j<es.length/\C4 w es=true then (FJ x q).map λq=>.ep q es j.toNat 0 else none
 |_,_=>none
def dU(_ _:PV):Option PV:=none
def UA:PV->Option PV
 |.sl _ es=>some (.fl (.int .i64 es.length))|_=>none
def fG(_:PV):Option PV:=none
def Un:PV->PV->Option PV
 |.fl (.int .i64 a),.fl (.int .i64 b)=>some (.fl (.int .i64 (if b<a then b else a)))|_,_=>none
def Uq:PV->PV->Option PV
 |.fl (.int .i64 a),.fl (.int .i64 b)=>some (.fl (.int .i64 (if b > a then b else a)))|_,_=>none
def Jq(m:Bool)(i:Nat)(n:Option Nat)(a:PV)(st:PS):Option (PV×PS):=
 match a with
 | .box j o=>
   if i=j/\o+n.getD 1<=(Ao st.bx i).length then
    if m then (Ee n (s_ (Ao st.bx i) o (n.getD 1))).map λv=>(v,{ st with sl:=clr (.b i) st.sl,bx:=Cf st.bx i (AY (Ao st.bx i) o (Dt (s_ (Ao st.bx i) o (n.getD 1)))) })
    else (Ee n (HI (.b i) o (s_ (Ao st.bx i) o (n.getD 1)))).map λv=>(v,st)
   else none
 |_=>none
def Jp(m:Bool)(n:Option Nat)(a:PV)(st:PS):Option (PV×PS):=
 match a with
 | .ptr i o=>
   if i<st.hp.length/\o+n.getD 1<=(Ao st.hp i).length then
    if m then (Ee n (s_ (Ao st.hp i) o (n.getD 1))).map λv=>(v,{ st with sl:=clr (.h i) st.sl,hp:=Cf st.hp i (AY (Ao st.hp i) o (Dt (s_ (Ao st.hp i) o (n.getD 1)))) })
    else (Ee n (HI (.h i) o (s_ (Ao st.hp i) o (n.getD 1)))).map λv=>(v,st)
   else none
 |.ep q es j o=>if j<es.length/\o+n.getD 1<=(Bs es j).length/\q.isOwn=false then (Ee n (Gk q (s_ (Bs es j) o (n.getD 1)))).map λv=>(v,st)else none
 |_=>none
def TA(i n:Nat)(a x:T_)(g:PS):Option (PV×PS):=
 match f' x g with
 | (v, st)=>match a.t7 g.sl with
   |.box j o=>if i=j/\i<st.bx.length/\v.cells.length=n/\o+n<=(Ao st.bx i).length/\BV v.cells=true then
    some (.fl .undef,{ st with sl:=if PV.ownL (s_ (Ao st.bx i) o n)||v.own then clr (.b i) st.sl else st.sl,bx:=Cf st.bx i (AY (Ao st.bx i) o v.cells) })else none
   |_=>none
def Tw(n:Nat)(a x:T_)(b:PS):Option (PV×PS):=
 match f' x b with
 | (v, st)=>match a.t7 st.sl with
   |.ptr i o=>if i<st.hp.length/\v.cells.length=n/\o+n<=(Ao st.hp i).length/\BV v.cells=true then
    some (.fl .undef,{ st with sl:=if PV.ownL (s_ (Ao st.hp i) o n)||v.own then clr (.h i) st.sl else st.sl,hp:=Cf st.hp i (AY (Ao st.hp i) o v.cells) })else none
   | .ep (.i6 hd [p] true) _ j o=>(match Df st hd [p]with
     |.sl .own es=>if j<es.length/\v.cells.length=n/\o+n<=(Bs es j).length/\BV v.cells=true then some (.fl .undef,y_ st (.sl .own (Ds es j (AY (Bs es j) o v.cells))) hd [p])else none
     |_=>none)
   |_=>none
def Nw(_:Bool)(_:Option Nat)(_:PV)(_:PS):Option (Option PV):=none
def PV.nestX(i c:Nat):PV->Bool
 |.ep (.i6 (.b i') [c'] true) _ _ _=>i == i'&&c == c'|_=>false
def PV.nest(_:PV):Option (Hd×Nat×Nat×Nat×Nat):=none
def dh(_:Nat)(_:Hd)(_ _ _ _:Nat)(_:PV)(_:PS):Option (PV×PS):=none
def FG(w:Nat)(y:T_)(st:PS):Option (List (List PV)×PS):=
 match y.t7 st.sl with
 |.fl (.str s)=>if w=1 then some (s.map λb=>[.fl (.int .u8 b.toNat)],st)else none
 |.sl .Z_ es=>if C4 w es=true/\Kq es=true then some (es,st)else none|.sl (.i6 ..) es=>if C4 w es=true/\Kq es=true then some (es,st)else none|.sl (.pre ..) es=>if C4 w es=true/\Kq es=true then some (es,st)else none|.sl .own es=>if C4 w es=true then some (es,(f' y st).2)else none|.sl (.i5 _) []=>some ([],st)|_=>none
def JI(w:Nat)(x:T_)(b:List (List PV))(st:PS):Option (PV×PS):=
 match x.t7 st.sl with
 |.sl .own es=>if 0<w/\C4 w es=true/\AE ((es.length+b.length)*w)then some (.sl .own (es++b),(f' x st).2)else none|.sl (.i5 w') es=>if 0<w/\w'=w/\C4 w es=true/\AE ((es.length+b.length)*w)then some (.sl (if b.length=0 then .i5 w else .own) (es++b),(f' x st).2)else none| .sl (.i6 hd [c] true) es=>(match Df st hd [c]with
   |.sl .own eh=>if 0<w/\C4 w eh=true/\es.length=eh.length/\AE ((eh.length+b.length)*w)then some (.sl .own (eh++b),y_ st (.fl .undef) hd [c])else none
   |_=>none)
 | .sl (.pre hd [c]) es=>(match Df st hd [c]with
   |.sl .own eh=>if 0<w/\C4 w eh=true/\0<eh.length/\es.length<=eh.length/\AE ((es.length+b.length)*w)then some (.sl (if es.length+b.length=0 then .i5 w else .own) (eh.take es.length++b),y_ st (.fl .undef) hd [c])else none
   |.sl (.i5 w') eh=>if 0<w/\w'=w/\C4 w eh=true/\0<eh.length/\es.length<=eh.length/\AE ((es.length+b.length)*w)then some (.sl (if es.length+b.length=0 then .i5 w else .own) (eh.take es.length++b),y_ st (.fl .undef) hd [c])else none
   |_=>none)
 |_=>none
def DG(st:PS)(o:Option PV):Option (PV×PS):=o.map λv=>(v,st)
def BC(m:Bool)(o:p_)(st:PS):Option (PV×PS):=
 let e (x:T_):=x.t7 st.sl
 match o with
 |.mv x=>some (if m then Nt x st else f' x st)|.z_ x=>DG st (Yh (e x))| .pick c a b=>(match e c with
   |.fl (.bool t)=>some (if t then f' a st else f' b st)
   |_=>none)
 |.d7 i zs=>if i<st.bx.length/\zs.all V.flat=true then some (.box i 0,{ st with sl:=clr (.b i) (Hl i st.sl),bx:=Cf st.bx i (zs.map BT) })else none| .boxB i n x=>(match f' x st with
   |(v,st)=>if i<st.bx.length/\v.cells.length=n/\BV v.cells=true then some (.box i 0,{ st with sl:=clr (.b i) (Hl i st.sl),bx:=Cf st.bx i v.cells })else none)
 |.allocH zs=>if zs.all V.flat=true then some (.ptr st.hp.length 0,{ st with sl:=clr (.h st.hp.length) st.sl,hp:=st.hp++[zs.map BT] })else none| .boxH n x=>(match f' x st with
   |(v,st)=>if v.cells.length=n/\BV v.cells=true then some (.ptr st.hp.length 0,{ st with sl:=clr (.h st.hp.length) st.sl,hp:=st.hp++[v.cells] })else none)
 |.build zs ps=>if zs.all V.flat=true then (EX (zs.map BT) ps st).map λ(cs,st)=>(.agg cs,st)else none
 | .mkSlice w z len=>(match e len with
   |.fl (.int .i64 n)=>if 0<=n/\z.length=w/\0<w/\z.all V.flat=true/\AE (n.toNat*w)then some (.sl .own (List.replicate n.toNat (z.map BT)),st)else none
   |_=>none)
 | .d4 w n zs ps=>
   if n=0 then some (.sl .own [],st)
   else if zs.all V.flat=true/\zs.length=n*w/\0<w then (EX (zs.map BT) ps st).map λ(cs,st)=>(.sl .own (ET w n cs),st)
   else none
 |.d6 i n a=>Jq m i n (e a) st| .g9 n a=>(match Nw m n (e a) st with
   |some r=>DG st r
   |none=>Jp m n (e a) st)
 | .loadX i c n a=>if (e a).nestX i c=true then (match Nw m n (e a) st with
   |some r=>DG st r
   |none=>none)else none
 |.U_ i n a x=>TA i n a x st| .f6 n a x=>(match (e a).nest with
   |some (hd,p,k,j,o)=>dh n hd p k j o (e x) st
   |none=>Tw n a x st)
 |.bin op x y=>DG st (Rz op (e x) (e y))|.eqB neg x y=>DG st (Uu neg (e x) (e y))|.eqN neg x y=>(match y with|.c (.ifc true)=>DG st (Up neg (e x))|_=>none)
 |.eqA n neg x y=>DG st (Uz n neg (e x) (e y))|.un op x=>DG st (UQ op (e x))|.conv k x=>DG st (T8 k (e x))|.bstr x=>DG st (fw (e x))|.slice w x lo hi=>DG st (T0 w x (lo.map e) (hi.map e) (e x))|.substr x lo hi=>DG st (cv (lo.map e) (hi.map e) (e x))|.f5 off a=>DG st (XV off (e a))|.field off n x=>DG st (TT off n x (e x))|.m_ w x i=>DG st (Tx w x (e x) (e i))|.index x i=>DG st (dU (e x) (e i))|.len x=>DG st (UA (e x))|.lenT x=>DG st (fG (e x))| .app w x y=>(match FG w y st with
   |some (new,st)=>JI w x new st
   |none=>none)
 | .appN w x y=>(match x.t7 st.sl with
   | .sl .own []=>(match FG w y st with
     |some (new,st)=>JI w x new st
     |none=>none)
   |_=>none)
 |.minI x y=>DG st (Un (e x) (e y))|.maxI x y=>DG st (Uq (e x) (e y))| .extract x i=>(match x with
   | .t t=>(match Aa st.sl t with
     |.f8 vs=>if i<vs.length then (if (Aa vs i).own then (if (Aa vs i).i6 (.s t)then none else some (Aa vs i,{ st with sl:=clr (.s t) (BW st.sl t (.f8 (BW vs i (.fl .undef)))) }))else some (Aa vs i,st))else none
     |_=>none)
   |.c _=>none)
 |.callB ..=>none
mutual
def PV.ownr:PV->PV
 |.sl _ es=>.sl .own (PV.ownrE es)|v=>v
def PV.ownrL:List PV->List PV
 |[]=>[]|v::r=>v.ownr::PV.ownrL r
def PV.ownrE:List (List PV)->List (List PV)
 |[]=>[]|e::r=>PV.ownrL e::PV.ownrE r
end
def PV.nrm1:PV->PV
 |.sl .Z_ es=>.sl .Z_ (PV.ownrE es)|v=>v
def PV.nrmA:List PV->List PV
 |[]=>[]|v::r=>v.nrm1::PV.nrmA r
def PV.nrm:PV->PV
 |.agg cs=>.agg (PV.nrmA cs)|v=>v.nrm1
def fzArgs:List T_->PS->PS
 |[],st=>st|x::r,st=>fzArgs r (fzOut x st).2
def Uy(p:Dl)(args:List T_)(d:Option Nat)(k:PS->Prop)(st:PS):Prop:=
 let as:=args.map (·.t7 st.sl)
 Ij as=true /\
 if as.any PV.q_ then
  (as.all λv=>!v.hold)=true/\p ((as.map PV.fz).map PV.nrm) st.hp λr H=>st.hp.length<=H.length/\r.q_=false/\k (PS.put { st with sl:=clrH st.sl,hp:=H } d r)
 else
  p ((as.map PV.fz).map PV.nrm) [] λr H=>(((!r.q_&&r.deep)||as.all λv=>!v.hold)=true) /\
    k (PS.put { st with hp:=if r.q_ then st.hp++H else st.hp } d (if r.q_ then r.shift st.hp.length else r))
def fI(p:Dl)(args:List T_)(d:Option Nat)(k:PS->Prop)(st:PS):Prop:=(args.map (·.t7 st.sl)).any PV.q_=false/\Uy p args d k st
def qW(i c:Nat)(p:Dl)(args:List T_)(d:Option Nat)(k:PS->Prop)(st:PS):Prop:=((args.map (·.t7 st.sl)).any PV.q_=true/\∃es,Df st (.b i) [c]= .sl .own es)/\Uy p args d k st
def FQ(w:Nat):PV->Option PV
 |.sl .own es=>if w=0\/C4 w es=true then some (.sl (.i5 w) es)else none|.sl (.i5 w') es=>if w=0\/w'=w then some (.sl (.i5 w) es)else none|_=>none
def PC:List (Nat×Nat)->List PV->Option (List PV)
 |[],l=>some l| (c,w)::r,l=>match FQ w (Aa l c)with
   |some v=>PC r (BW l c v)
   |none=>none
def Ft(ws:List (Nat×Nat)):PV->Option PV
 |.agg l=>(PC ws l).map .agg|.f8 _=>none| v=>match ws with
   |[(0,w)]=>FQ w v
   |_=>none
def Hd.sb:Hd->Bool
 |.s _|.b _|.h _=>true|_=>false
def PV.isAgg:PV->Bool
 |.agg _=>true|_=>false
def JJ(st:PS)(hd:Hd):Nat->List PV->List PV->Prop
 |_,[],[]=>True|c,.sl q es::r,a::as=>q= .own/\(∃g,Df st hd [c]= .sl g es/\∃b,(g= .own/\a= .sl (.i6 hd [c] true) b\/(∃w,g= .i5 w)/\a= .sl (.pre hd [c]) b)/\b.length=es.length)/\JJ st hd (c+1) r as|c,o::r,a::as=>a=o/\o.flatc=true/\JJ st hd (c+1) r as|_,_,_=>False
def ND:List PV->List PV->Prop
 |[],[]=>True|.sl .own _::r,n::ns=>(∃es,n= .sl .own es)/\ND r ns|_::r,n::ns=>(∀q es,n≠.sl q es)/\ND r ns|_,_=>False
def Pu(hd:Hd):Nat->List PV->(PS->Prop)->PS->Prop
 |_,[],K,st=>K st|c,.sl _ es::r,K,st=>∃q b,q.isOwn=true/\Df st hd [c]= .sl q b/\Pu hd (c+1) r K (y_ st (.sl q es) hd [c])|c,_::r,K,st=>Pu hd (c+1) r K st
def fW(M:PMk)(x k:T_)(d:Option Nat)(K:PS->Prop)(st:PS):Prop:=
 ∃(m:Int) (hd:Hd) (b:Nat) (AN:List PV),k.t7 st.sl= .fl (.int .i64 m)/\(x.t7 st.sl).isAgg=M.agg/\hd.sb=true/\(x.t7 st.sl).argok=true/\JJ st hd b AN (x.t7 st.sl).cells /\
   M.f AN m λnews g=>ND AN news/\Pu hd b news (λst=>K (st.put d (match M.vd with|true=>.fl .undef|false=>.fl (.int .i64 g)))) st
def PV.hld:PV->Option (Hd×Nat)
 |.box i o=>some (.b i,o)|.ptr i o=>some (.h i,o)|_=>none
def YG(a:PV)(n:Nat)(st:PS):Option PS:=
 match a with
 |.box i o=>(Jq true i (some n) (.box i o) st).map (·.2)|.ptr i o=>(Jp true (some n) (.ptr i o) st).map (·.2)|_=>none
def UJ(a:PV)(st:PS):Option PS:=
 match a with
 |.box i _=>some { st with sl:=clr (.b i) st.sl,bx:=Cf st.bx i (PV.fzL (Ao st.bx i)) }|.ptr i _=>some { st with sl:=clr (.h i) st.sl,hp:=Cf st.hp i (PV.fzL (Ao st.hp i)) }|_=>none
def UF(st:PS)(hd:Hd):Nat->List PV->List PV->Prop
 |_,[],[]=>True|c,v::r,n::ns=>(n=v/\(∀es,v= .sl .own es->∃g,Df st hd [c]= .sl .own g)\/∃w es i,(∃e,v= .sl .own e)/\Df st hd [c]= .sl (.i5 w) es/\hd= .b i/\n= .sl (.i5 0) es)/\UF st hd (c+1) r ns|_,_,_=>False
def gg(a:T_)(t:Nat)(K:PS->Prop)(st:PS):Prop:=∃hd b AN news st1,(a.t7 st.sl).hld=some (hd,b)/\(Aa st.sl t).isAgg=true/\JJ st hd b AN (Aa st.sl t).cells/\UF st hd b AN news/\YG (a.t7 st.sl) AN.length st=some st1/\K (st1.put (some t) (.agg news))
def gA(T:PTk)(x y:T_)(d:Option Nat)(K:PS->Prop)(st:PS):Prop:=
 ∃t es,y= .t t/\Aa st.sl t= .sl .own es/\(x.t7 st.sl).argok=true/\(x.t7 st.sl).q_=false/\C4 T.w es=true/\0<T.w /\
   T.sel (x.t7 st.sl).fz.nrm es λidx=>(idx.Pairwise (· < ·)/\∀i∈idx,i<es.length)/\K (PS.put { st with sl:=clr (.s t) (BW st.sl t (.fl .undef)) } d (.sl .own (idx.map (Bs es))))
def CU(o:POp)(d:Option Nat)(k:PS->Prop)(st:PS):Prop:=
 match o with
 | .a m o=>match BC m o st with
   |some (v,st)=>k (st.put d v)
   |none=>False
 | .aw ws m o=>match BC m o st with
   | some (v,st)=>(match Ft ws v with
     |some v=>k (st.put d v)
     |none=>False)
   |none=>False
 |.call m _ p args=>Uy p args d k (if m then fzArgs args st else st)|.callk m _ p args=>fI p args d k (if m then fzArgs args st else st)|.callv m _ p args i c=>qW i c p args d k (if m then fzArgs args st else st)|.mark _ M x y=>fW M x y d k st|.tk _ T x y=>gA T x y d k st|.fz x=>k ((fzOut x st).2.put d (fzOut x st).1.nrm)| .fzb a o=>(match UJ (a.t7 st.sl) st with
   | some st=>(match BC false o st with
     |some (v,st)=>k (st.put d v)
     |none=>False)
   |none=>False)
 | .clm a t o=>gg a t (λst=>match BC false o st with
   |some (v,st)=>k (st.put d v)
   |none=>False) st
def It(o:POper)(k:PS->Prop)(st:PS):Prop:=
 match o.guard with
 |none=>CU o.op o.dst k st| some (g,want)=>match Aa st.sl g with
   |.fl (.bool b)=>if b=want then CU o.op o.dst k st else k (st.put o.dst (.f8 []))
   |.f8 []=>k (st.put o.dst (.f8 []))
   |_=>False
def Kz:List POper->(PS->Prop)->PS->Prop
 |[],k,st=>k st|o::r,k,st=>It o (Kz r k) st
abbrev GN:=AExit->PS->Prop
def fZ(next:PS->Prop)(k:GN):GN
 |.normal,st=>next st|e,st=>k e st
def dK(id:Nat)(k:GN):GN
 |.exit j,st=>if j=id then k .normal st else k (.exit j) st|e,st=>k e st
mutual
def PV.pge(n:Nat):PV->Bool
 |.ptr i _=>Nat.ble n i|.agg cs=>PV.pgeL n cs|.f8 vs=>PV.pgeL n vs|_=>false
def PV.pgeL(n:Nat):List PV->Bool
 |[]=>false|v::r=>v.pge n||PV.pgeL n r
end
def clrP(n:Nat):List PV->List PV
 |[]=>[]|v::r=>(if v.isH||v.pge n then .fl .undef else v)::clrP n r
def PS.trunc(n:Nat)(st:PS):PS:={ st with sl:=clrP n st.sl,hp:=st.hp.take n }
def UG(body:GN->PS->Prop)(live:List Nat)(k:GN):Nat->PS->Prop
 |0,_=>False|n+1,st=>body (fZ (UG body live k n) k) { st with sl:=Fl live 0 st.sl }
def POper.plain(p:POper):Bool:=match p.op with
 |.a ..|.aw ..=>true|_=>false
def POper.canU(p q:POper):Bool:=match p.op,q.op,p.dst,q.dst,p.guard,q.guard with
 |.a _ (.d4 _ n _ [(_,_,.t s)]),.a _ (.appN _ (.c .X_) (.t y)),some da,some db,none,none=>n != 0&&da != db&&s != db&&y != da&&s != y|_,_,_,_,_,_=>false
def Uo:List POper->Bool
 |p::q::r=>if p.er.pairU q.er then p.canU q else p.plain&&Uo (q::r)|_=>true
def GR:PCode->GN->PS->Prop
 |.skip,k,st=>k .normal st|.region ops,k,st=>Kz ops (k .normal) st|.regionU ops,k,st=>Uo ops=true/\Kz ops (k .normal) st|.seq l a b,k,st=>GR a (fZ (λst=>GR b k { st with sl:=GL l 0 st.sl }) k) st
 | .cond c a b,k,st=>match c.t7 st.sl with
   |.fl (.bool t)=>if t then GR a k st else GR b k st
   |_=>False
 |.block id a,k,st=>GR a (dK id k) st|.scope a,k,st=>GR a (λe f4=>k e (f4.trunc st.hp.length)) st
 |.loop live a,k,st=>∃n,UG (GR a) live k n st|.exit id,k,st=>k (.exit id) st|.ret,k,st=>k .ret st
structure PFun where
 nparams:Nat
 nslots:Nat
 nbox:Nat
 pure:Bool
 res:List ARes
 body:PCode
def PFun.er(f:PFun):AFun:=⟨f.nparams,f.nslots,f.nbox,f.pure,f.res,f.body.er⟩
def Kb(st:PS):ARes->Option (PV×PS)
 |.tmp t=>if (Aa st.sl t).retok then some (Gm (Aa st.sl t) t st)else none| .cell t n=>match Aa st.sl t with
   |.box i o=>if o+n.getD 1<=(Ao st.bx i).length/\FI (s_ (Ao st.bx i) o (n.getD 1))=true then Jq true i n (.box i o) st else none
   |.ptr i o=>if i<st.hp.length/\o+n.getD 1<=(Ao st.hp i).length/\FI (s_ (Ao st.hp i) o (n.getD 1))=true then Jp true n (.ptr i o) st else none
   |_=>none
def Jt(st:PS):List ARes->Option (List PV×PS)
 |[]=>some ([],st)| r :: rs=>match Kb st r with
   | some (v,st)=>(match Jt st rs with
     |some (vs,st)=>some (v::vs,st)
     |none=>none)
   |none=>none
def Mg(st:PS):List ARes->Option (PV×PS)
 |[r]=>Kb st r|rs=>(Jt st rs).map λ(b,st)=>(.f8 b,st)
def JH:Nat->List PV
 |0=>[]|n+1=>.fl .undef::JH n
def Mf:Nat->List (List PV)
 |0=>[]|n+1=>[]::Mf n
mutual
def PV.flt:PV->Bool
 |.fl x=>x.flat|.agg cs=>PV.fltL cs|.f8 vs=>PV.fltL vs|_=>false
def PV.fltL:List PV->Bool
 |[]=>true|v::r=>v.flt&&PV.fltL r
end
def sO(b:Bool)(res:List ARes)(Q:PV->List (List PV)->Prop):GN
 | .normal,st|.ret,st=>match Mg st res with
   |some (v,st)=>if b then v.flt=true/\Q v []else Q v st.hp
   |none=>False
 |.exit _,_=>False
def Jv(f:PFun):Dl:=λargs H Q=>
 args.length=f.nparams/\(f.pure=true->H=[])/\GR f.body (sO f.pure f.res Q) ⟨args++JH (f.nslots-f.nparams),Mf f.nbox,H⟩
inductive W where
 |none|Z_|own (hd:Hd) (p:List Nat)|ptr (i:Nat)
 deriving DecidableEq
inductive Md where
 |at (hd:Hd) (p:List Nat)|inn (hd:Hd) (p:List Nat)|fz|un (hd:Hd)
def Md.sub:Md->Ql->Nat->Md
 |.at hd p,.own,k=>.inn hd (p++[k])|.at hd p,.i5 _,k=>.inn hd (p++[k])|.at _ _,.Z_,_=>.fz|.at _ _,.i6 hd _ _,_=>.un hd|.at _ _,.pre hd _,_=>.un hd|.inn hd p,.own,k=>.inn hd (p++[k])|.inn hd p,.i5 _,k=>.inn hd (p++[k])|.inn _ _,_,_=>.fz|.fz,_,_=>.fz|.un hd,.own,_=>.un hd|.un hd,.i5 _,_=>.un hd|.un _,_,_=>.fz
def Md.tight:Md->Bool
 |.fz=>false|_=>true
def chk(ω:Nat->W):Md->Ql->Nat->Nat->Blk->Prop
 |.at hd p,.own,l,o,b=>ω l= .own hd p/\o=0/\b.k= .own|.at hd p,.i5 w,l,o,b=>ω l= .own hd p/\o=0/\b.k= .own/\(0<w->b.w=w)|.at _ _,.Z_,l,_,_=>ω l= .Z_|.at _ _,.i6 hd p top,l,o,_=>((∃p',ω l= .own hd p')\/ω l= .Z_)/\(top=true->ω l= .own hd p/\o=0)|.at _ _,.pre hd p,l,o,_=>ω l= .own hd p/\o=0|.inn hd p,.own,l,o,b=>ω l= .own hd p/\o=0/\b.k= .own|.inn hd p,.i5 w,l,o,b=>ω l= .own hd p/\o=0/\b.k= .own/\(0<w->b.w=w)|.inn _ _,.Z_,l,_,_=>ω l= .Z_|.inn _ _,.i6 ..,_,_,_=>False|.inn _ _,.pre ..,_,_,_=>False|.fz,_,l,_,_=>ω l= .Z_|.un hd,.own,l,_,_=>(∃p',ω l= .own hd p')\/ω l= .Z_|.un hd,.i5 _,l,_,_=>(∃p',ω l= .own hd p')\/ω l= .Z_|.un _,.Z_,l,_,_=>ω l= .Z_|.un _,.i6 ..,_,_,_=>False|.un _,.pre ..,_,_,_=>False
inductive RC (h:Ac) (ω:Nat->W):Md->PV->V->Prop
 |undef (m:Md) (u:V):RC h ω m (.fl .undef) u|v (m:Md) (x:V) (hx:x.flat=true):RC h ω m (.fl x) x|nil (m:Md) (q:Ql):RC h ω m (.sl q []) .X_|sl (m:Md) (q:Ql) (es:List (List PV)) (l o n:Nat) (b:Blk) (hb:h[l]?=some b) (hk:b.k≠.dead) (hc:chk ω m q l o b) (f9:m.tight=true->(q= .own\/∃a p,q= .i6 a p true)->es≠[]) (hn:n=es.length) (hw:∀e∈es,e.length=b.w)
  (hle:o+es.length*b.w<=b.cs.length) (hr:∀k,k<es.length*b.w->RC h ω (m.sub q k) (Aa es.flatten k) (get b.cs (o+k))):RC h ω m (.sl q es) (.slice l o n)
 |ep (m:Md) (q:Ql) (es:List (List PV)) (j o' l o p:Nat) (b:Blk) (hb:h[l]?=some b) (hk:b.k≠.dead) (hq:q.isOwn=false) (hc:chk ω m q l o b) (hw:∀e∈es,e.length=b.w)
  (hle:o+es.length*b.w<=b.cs.length) (hr:∀k,k<es.length*b.w->RC h ω (m.sub q k) (Aa es.flatten k) (get b.cs (o+k))) (hp:p=o+j*b.w+o'):RC h ω m (.ep q es j o') (.ptr l p)
 |box (m:Md) (i o:Nat):RC h ω m (.box i o) (.box i o)|ptr (hd:Hd) (p:List Nat) (i o l:Nat) (hl:ω l= .ptr i):RC h ω (.at hd p) (.ptr i o) (.ptr l o)
def PV.q:PV->Option Ql
 |.sl (.pre a b) _=>some (.i6 a b true)|.sl q _=>some q|.ep .Z_ _ _ _=>some .Z_|.ep (.pre a b) _ _ _=>some (.i6 a b true)|.ep (.i6 a b c) _ _ _=>some (.i6 a b c)|_=>none
def PV.qo:PV->Bool
 |.sl q _=>q.isOwn|_=>false
theorem RC.map {h h':Ac} {ω ω':Nat->W} (S:Md->Md->Prop)
 (hs:∀m g q k,S m g->S (m.sub q k) (g.sub q k))
 (A:∀m g q l o b,S m g->h[l]?=some b->chk ω m q l o b->h'[l]?=some b/\chk ω' g q l o b)
 (hp:∀hd p g,¬S (.at hd p) g)
 (ht:∀m g,S m g->g.tight=true->m.tight=true)
 {m:Md} {v:PV} {u:V} (r:RC h ω m v u):∀ {g:Md},S m g->RC h' ω' g v u:=by
 induction r with
 |undef m u=>intros;exact .undef _ _
 |v m x C=>intros;exact .v _ _ C
 |nil m q=>intros;exact .nil _ _
 | sl m q es l o n b h1 t hc f9 hn hw hle _ ih=>
   intro g s;obtain⟨z,y⟩:=A m g q l o b s h1 hc;exact .sl _ _ _ _ _ _ b z t y (λe=>f9 (ht m g s e)) hn hw hle λk t=>ih k t (hs m g q k s)
 | ep m q es j o' l o p b h1 t hqo hc hw hle _ hp' ih=>
   intro g s;obtain⟨z,y⟩:=A m g q l o b s h1 hc;exact .ep _ _ _ _ _ _ _ _ b z t hqo y hw hle (λk t=>ih k t (hs m g q k s)) hp'
 |box m i o=>intros;exact .box _ _ _
 |ptr hd p i o l D=>intro g s;exact absurd s (hp hd p g)
abbrev Ren:=Hd->List Nat->W
def ren(f:Ren):W->W
 |.own hd p=>f hd p|w=>w
structure Ren.Ok (f:Ren):Prop where
 inj:∀hd p f_ p' a c,f hd p= .own a c->f f_ p'= .own a c->hd=f_/\p=p'
 to:∀hd p,f hd p= .Z_\/∃a c,f hd p= .own a c
def Ren.still(f:Ren)(hd:Hd):Prop:=∀p,f hd p= .own hd p
def Ren.soft(f:Ren)(hd:Hd):Prop:=∀p,f hd p= .Z_\/∃p',f hd p= .own hd p'
theorem Ren.still.soft{f:Ren}{hd:Hd}(h:f.still hd):f.soft hd:=λp=>.inr ⟨p,h p⟩
structure Tr (h:Ac) (ω:Nat->W) (h':Ac) (ω':Nat->W) (f:Ren) (T:Nat->Prop):Prop where
 Z_:∀l,ω l= .Z_->ω' l= .Z_/\h'[l]?=h[l]?
 own:∀l hd p,ω l= .own hd p->¬T l->ω' l=f hd p/\h'[l]?=h[l]?
 ptr:∀l i,ω l= .ptr i->ω' l= .ptr i
structure Tr0 (h:Ac) (ω:Nat->W) (h':Ac) (ω':Nat->W) (f:Ren) (T:Nat->Prop):Prop where
 Z_:∀l,ω l= .Z_->ω' l= .Z_/\h'[l]?=h[l]?
 own:∀l hd p,ω l= .own hd p->¬T l->ω' l=f hd p/\h'[l]?=h[l]?
theorem Tr.t0{h:Ac}{ω:Nat->W}{h':Ac}{ω':Nat->W}{f:Ren}{T:Nat->Prop}(t:Tr h ω h' ω' f T):Tr0 h ω h' ω' f T:=⟨t.Z_,t.own⟩
theorem Tr.of_ren(h:Ac)(ω:Nat->W)(f:Ren):Tr h ω h (λl=>ren f (ω l)) f (λ_=>False):=⟨λl e=>by simp[e,ren],λl hd p e _=>by simp[e,ren],λl i e=>by simp[e,ren]⟩
theorem RC.inn0{h h':Ac}{ω ω':Nat->W}{f:Ren}{T:Nat->Prop}(t:Tr0 h ω h' ω' f T){hd f_:Hd}{p p':List Nat}(z:∀l r,ω l= .own hd (p++r)->¬T l)(y:∀r,f hd (p++r)= .own f_ (p'++r)){v:PV}{u:V}(r:RC h ω (.inn hd p) v u):RC h' ω' (.inn f_ p') v u:=by
 refine r.map (S:=λm j=>(∃r,m= .inn hd (p++r)/\j= .inn f_ (p'++r))\/(m= .fz/\j= .fz)) ?_ ?_ (by simp) (by rintro m j (⟨r,rfl,rfl⟩|⟨rfl,rfl⟩) e<;>first|rfl|exact e) (.inl ⟨[],by simp,by simp⟩)
 ·rintro m j q k (⟨r,rfl,rfl⟩|⟨rfl,rfl⟩)
  ·cases q
   ·exact .inr ⟨rfl,rfl⟩
   ·exact .inl ⟨r++[k],by simp[Md.sub],by simp[Md.sub]⟩
   ·exact .inl ⟨r++[k],by simp[Md.sub],by simp[Md.sub]⟩
   ·exact .inr ⟨rfl,rfl⟩
   exact .inr ⟨rfl,rfl⟩
  exact .inr ⟨rfl,rfl⟩
 rintro m j q l o b (⟨r,rfl,rfl⟩|⟨rfl,rfl⟩) n i
 ·cases q with
  |Z_=>obtain⟨h1,g⟩:=t.Z_ l i;exact⟨by rw[g,n],h1⟩
  |own=>obtain⟨h0,x,s⟩:=i;obtain⟨h1,g⟩:=t.own l _ _ h0 (z l _ h0);exact⟨by rw[g,n],by rw[h1,y],x,s⟩
  |i5 w=>obtain⟨h0,x,s⟩:=i;obtain⟨h1,g⟩:=t.own l _ _ h0 (z l _ h0);exact⟨by rw[g,n],by rw[h1,y],x,s⟩
  |i6 a b c=>exact i.elim
  |pre a b=>exact i.elim
 obtain⟨h1,g⟩:=t.Z_ l i;exact⟨by rw[g,n],h1⟩
theorem RC.fzz0{h h':Ac}{ω ω':Nat->W}{f:Ren}{T:Nat->Prop}(t:Tr0 h ω h' ω' f T){v:PV}{u:V}(r:RC h ω .fz v u):RC h' ω' .fz v u:=by
 refine r.map (S:=λm g=>m= .fz/\g= .fz) ?_ ?_ (by simp) (by rintro m g ⟨rfl,rfl⟩ e;exact e) ⟨rfl,rfl⟩
 ·rintro m g q k ⟨rfl,rfl⟩;exact⟨rfl,rfl⟩
 rintro m g q l o b ⟨rfl,rfl⟩ j i;obtain⟨h1,n⟩:=t.Z_ l i;exact⟨by rw[n,j],h1⟩
theorem RC.unn0{h h':Ac}{ω ω':Nat->W}{f:Ren}{T:Nat->Prop}(t:Tr0 h ω h' ω' f T){hd:Hd}(x:∀l q,ω l= .own hd q->¬T l)(s:f.soft hd){v:PV}{u:V}(r:RC h ω (.un hd) v u):RC h' ω' (.un hd) v u:=by
 refine r.map (S:=λm n=>(m= .fz/\n= .fz)\/(m= .un hd/\n= .un hd)) ?_ ?_ (by simp) (by rintro m n (⟨rfl,rfl⟩|⟨rfl,rfl⟩) e<;>exact e) (.inr ⟨rfl,rfl⟩)
 ·rintro m n q k (⟨rfl,rfl⟩|⟨rfl,rfl⟩)
  ·exact .inl ⟨rfl,rfl⟩
  cases q<;>first|exact .inl ⟨rfl,rfl⟩|exact .inr ⟨rfl,rfl⟩
 rintro m n q l o b (⟨rfl,rfl⟩|⟨rfl,rfl⟩) j g
 ·obtain⟨h1,i⟩:=t.Z_ l g;exact⟨by rw[i,j],h1⟩
 cases q with
 |Z_=>obtain⟨h1,i⟩:=t.Z_ l g;exact⟨by rw[i,j],h1⟩
 | own=>
   rcases g with⟨p,g⟩|g
   ·obtain⟨h1,i⟩:=t.own l _ _ g (x l _ g);refine⟨by rw[i,j],?_⟩;rcases s p with e|⟨p',e⟩
    ·exact .inr (by rw[h1,e])
    exact .inl ⟨p',by rw[h1,e]⟩
   obtain⟨h1,i⟩:=t.Z_ l g;exact⟨by rw[i,j],.inr h1⟩
 | i5 w=>
   rcases g with⟨p,g⟩|g
   ·obtain⟨h1,i⟩:=t.own l _ _ g (x l _ g);refine⟨by rw[i,j],?_⟩;rcases s p with e|⟨p',e⟩
    ·exact .inr (by rw[h1,e])
    exact .inl ⟨p',by rw[h1,e]⟩
   obtain⟨h1,i⟩:=t.Z_ l g;exact⟨by rw[i,j],.inr h1⟩
 |i6 a b c=>exact g.elim
 |pre a b=>exact g.elim
theorem RC.inn{h h':Ac}{ω ω':Nat->W}{f:Ren}{T:Nat->Prop}(t:Tr h ω h' ω' f T){hd f_:Hd}{p p':List Nat}(g:∀l r,ω l= .own hd (p++r)->¬T l)(b:∀r,f hd (p++r)= .own f_ (p'++r)){v:PV}{u:V}(r:RC h ω (.inn hd p) v u):RC h' ω' (.inn f_ p') v u:=r.inn0 t.t0 g b
theorem RC.tr0 {h h':Ac} {ω ω':Nat->W} {f:Ren} {T:Nat->Prop} (t:Tr0 h ω h' ω' f T) {hd f_:Hd} {p p':List Nat} {v:PV} {u:V} (r:RC h ω (.at hd p) v u)
 (O:v.qo=true->(∀l r,ω l= .own hd (p++r)->¬T l)/\∀r,f hd (p++r)= .own f_ (p'++r))
 (s:∀s C G,v.q=some (.i6 s C G)->(∀l q,ω l= .own s q->¬T l)/\(G=true->f.still s)/\f.soft s) (hp:∀l i o,v= .ptr i o->ω l= .ptr i->ω' l= .ptr i):RC h' ω' (.at f_ p') v u:=by
 have Z:∀(q:Ql) (l o:Nat) (b:Blk),(q.isOwn=true->(∀l r,ω l= .own hd (p++r)->¬T l)/\∀r,f hd (p++r)= .own f_ (p'++r))->(∀s C G,(PV.sl q []).q=some (.i6 s C G)->(∀l q,ω l= .own s q->¬T l)/\(G=true->f.still s)/\f.soft s)->h[l]?=some b->chk ω (.at hd p) q l o b ->
  h'[l]?=some b/\chk ω' (.at f_ p') q l o b:=by
  intro q l o b O J s M;cases q with
  |Z_=>obtain⟨h1,F⟩:=t.Z_ l M;exact⟨by rw[F,s],h1⟩
  | own=>
    obtain⟨A,U⟩:=O rfl;obtain⟨h0,h3,h4⟩:=M;obtain⟨h1,F⟩:=t.own l _ _ h0 (A l [] (by simpa using h0));exact⟨by rw[F,s],by rw[h1];simpa using U [],h3,h4⟩
  | i5 w=>
    obtain⟨A,U⟩:=O rfl;obtain⟨h0,h3,h4⟩:=M;obtain⟨h1,F⟩:=t.own l _ _ h0 (A l [] (by simpa using h0));exact⟨by rw[F,s],by rw[h1];simpa using U [],h3,h4⟩
  | i6 a C G=>
    obtain⟨A,N,D⟩:=J a C G rfl;obtain⟨g,hc2⟩:=M;refine⟨?_,?_,λe=>?_⟩
    ·rcases g with⟨p1,g⟩|g
     ·rw[(t.own l _ _ g (A l _ g)).2,s]
     rw[(t.Z_ l g).2,s]
    ·rcases g with⟨p1,g⟩|g
     ·rcases D p1 with e|⟨p2,e⟩
      ·exact .inr (by rw[(t.own l _ _ g (A l _ g)).1,e])
      exact .inl ⟨p2,by rw[(t.own l _ _ g (A l _ g)).1,e]⟩
     exact .inr (t.Z_ l g).1
    obtain⟨h1,F⟩:=hc2 e;exact⟨by rw[(t.own l _ _ h1 (A l _ h1)).1];exact N e C,F⟩
  | pre a C=>
    obtain⟨A,N,D⟩:=J a C true rfl;obtain⟨h1,F⟩:=M;exact⟨by rw[(t.own l _ _ h1 (A l _ h1)).2,s],by rw[(t.own l _ _ h1 (A l _ h1)).1];exact N rfl C,F⟩
 have sub:∀(q:Ql) (k:Nat) (v:PV) (u:V),(q.isOwn=true->(∀l r,ω l= .own hd (p++r)->¬T l)/\∀r,f hd (p++r)= .own f_ (p'++r))->(∀s C G,(PV.sl q []).q=some (.i6 s C G)->(∀l q,ω l= .own s q->¬T l)/\(G=true->f.still s)/\f.soft s)->RC h ω (Md.sub (.at hd p) q k) v u->RC h' ω' (Md.sub (.at f_ p') q k) v u:=by
  intro q k v u O J r;cases q with
  |Z_=>exact r.fzz0 t
  | own=>
    obtain⟨A,U⟩:=O rfl;exact r.inn0 t (λl r e=>A l (k::r) (by simpa using e)) (λr=>by have:=U (k::r);simpa using this)
  | i5 w=>
    obtain⟨A,U⟩:=O rfl;exact r.inn0 t (λl r e=>A l (k::r) (by simpa using e)) (λr=>by have:=U (k::r);simpa using this)
  | i6 a C G=>
    obtain⟨A,_,D⟩:=J a C G rfl;exact r.unn0 t A D
  | pre a C=>
    obtain⟨A,_,D⟩:=J a C true rfl;exact r.unn0 t A D
 cases r with
 |undef _=>exact .undef _ _
 |v _ _ hx=>exact .v _ _ hx
 |nil _ q=>exact .nil _ _
 | sl _ q es l o n b h1 R M f9 hn hw hle hr=>
   have I:q.isOwn=true->_:=λe=>O e;have L:∀x y z,(PV.sl q []).q=some (.i6 x y z)->_:=λx y z e=>s x y z (by cases q<;>simp_all [PV.q]);obtain⟨F,Y⟩:=Z q l o b I L h1 M;exact .sl _ _ _ _ _ _ b F R Y f9 hn hw hle λk R=>sub q k _ _ I L (hr k R)
 | ep _ q es j o' l o p2 b h1 R hqo M hw hle hr hp'=>
   have I:q.isOwn=true->(∀l r,ω l= .own hd (p++r)->¬T l)/\∀r,f hd (p++r)= .own f_ (p'++r):=λe=>(by rw[hqo]at e;cases e);have L:∀x y z,(PV.sl q []).q=some (.i6 x y z)->_:=λx y z e=>s x y z (by cases q<;>simp_all [PV.q]);obtain⟨F,Y⟩:=Z q l o b I L h1 M;exact .ep _ _ _ _ _ _ _ _ b F R hqo Y hw hle (λk R=>sub q k _ _ I L (hr k R)) hp'
 |box _ i o=>exact .box _ _ _
 |ptr _ _ i o l hl=>exact .ptr _ _ _ _ l (hp l i o rfl hl)
theorem RC.tr {h h':Ac} {ω ω':Nat->W} {f:Ren} {T:Nat->Prop} (t:Tr h ω h' ω' f T) {hd f_:Hd} {p p':List Nat} {v:PV} {u:V} (r:RC h ω (.at hd p) v u)
 (n:v.qo=true->(∀l r,ω l= .own hd (p++r)->¬T l)/\∀r,f hd (p++r)= .own f_ (p'++r))
 (b:∀b j g,v.q=some (.i6 b j g)->(∀l q,ω l= .own b q->¬T l)/\(g=true->f.still b)/\f.soft b):RC h' ω' (.at f_ p') v u:=r.tr0 t.t0 n b λl i _ _=>t.ptr l i
theorem RC.any{h:Ac}{ω:Nat->W}{hd f_:Hd}{p p':List Nat}{v:PV}{u:V}(r:RC h ω (.at hd p) v u)(g:v.qo=false):RC h ω (.at f_ p') v u:=by
 cases r with
 |undef _=>exact .undef _ _
 |v _ _ s=>exact .v _ _ s
 |nil _ q=>exact .nil _ _
 | sl _ q es l o n b h1 hk hc f9 hn hw hle hr=>
   cases q with
   |own=>cases g
   |i5=>cases g
   |Z_=>exact .sl _ _ _ _ _ _ b h1 hk hc f9 hn hw hle hr
   |i6=>exact .sl _ _ _ _ _ _ b h1 hk hc f9 hn hw hle hr
   |pre=>exact .sl _ _ _ _ _ _ b h1 hk hc f9 hn hw hle hr
 | ep _ q es j o' l o p2 b h1 hk hqo hc hw hle hr hp'=>
   cases q with
   |own=>cases hqo
   |i5=>cases hqo
   |Z_=>exact .ep _ _ _ _ _ _ _ _ b h1 hk hqo hc hw hle hr hp'
   |i6=>exact .ep _ _ _ _ _ _ _ _ b h1 hk hqo hc hw hle hr hp'
   |pre=>exact .ep _ _ _ _ _ _ _ _ b h1 hk hqo hc hw hle hr hp'
 |box _ i o=>exact .box _ _ _
 |ptr _ _ i o l t=>exact .ptr _ _ _ _ l t
abbrev JO:=Hd->List Nat->PV×V
structure Core (h:Ac) (ω:Nat->W) (A:JO):Prop where
 rc:∀hd p,RC h ω (.at hd p) (A hd p).1 (A hd p).2
 inj:∀l l' hd p,ω l= .own hd p->ω l'= .own hd p->l=l'
 injp:∀l l' i,ω l= .ptr i->ω l'= .ptr i->l=l'
 kind:∀l,(∃hd p,ω l= .own hd p)\/(∃i,ω l= .ptr i)->∃b,h[l]?=some b/\b.k= .own
 lt:∀l,ω l= .Z_->l<h.length
def sn(f:Ren)(A:JO)(b:PV×V)(f_:Hd)(p':List Nat):Prop:=∃hd p,b=A hd p/\(b.1.qo=true->∀r,f hd (p++r)= .own f_ (p'++r))/\∀g j i,b.1.q=some (.i6 g j i)->(i=true->f.still g)/\f.soft g
theorem D0{f:Ren}{w:W}{hd:Hd}{p:List Nat}(e:ren f w= .own hd p):∃a q,w= .own a q/\f a q= .own hd p:=by
 cases w with
 |own a q=>exact⟨a,q,rfl,e⟩
 |_=>simp[ren]at e
theorem Ez{f:Ren}(g:f.Ok){w:W}{i:Nat}(e:ren f w= .ptr i):w= .ptr i:=by
 cases w with
 |own a q=>rcases g.to a q with b|⟨x,y,b⟩<;>simp[ren,b]at e
 |ptr j=>exact e
 |_=>simp[ren]at e
theorem Core.ren{h:Ac}{ω:Nat->W}{A A':JO}(c:Core h ω A){f:Ren}(j:f.Ok)(I:∀hd p,sn f A (A' hd p) hd p\/RC h (λl=>Ag.ren f (ω l)) (.at hd p) (A' hd p).1 (A' hd p).2):Core h (λl=>Ag.ren f (ω l)) A':=by
 have t:=Tr.of_ren h ω f;refine⟨λhd p=>?_,λl l' hd p e z=>?_,λl l' i e z=>c.injp l l' i (Ez j e) (Ez j z),λl e=>?_,λl e=>?_⟩
 ·rcases I hd p with⟨s,p0,g,C,n⟩|G
  ·rw[g]at C n ⊢;exact(c.rc s p0).tr t (λe=>⟨λ_ _ _=>id,λr=>C e r⟩) (λu F D e=>⟨λ_ _ _=>id,n u F D e⟩)
  exact G
 ·obtain⟨a,q,g,J⟩:=D0 e;obtain⟨L,q',y,x⟩:=D0 z;obtain⟨rfl,rfl⟩:=j.inj a q L q' hd p J x;exact c.inj l l' a q g y
 ·rcases e with⟨hd,p,e⟩|⟨i,e⟩
  ·obtain⟨a,q,g,_⟩:=D0 e;exact c.kind l (.inl ⟨a,q,g⟩)
  exact c.kind l (.inr ⟨i,Ez j e⟩)
 cases g:ω l with
 |own a q=>obtain⟨b,n,_⟩:=c.kind l (.inl ⟨a,q,g⟩);exact BB n
 |Z_=>exact c.lt l g
 |_=>rw[g]at e;simp[Ag.ren]at e
def Ren.id:Ren:=λhd p=>.own hd p
theorem Ren.id_ok:Ren.id.Ok:=⟨λhd p f_ p' a c e b=>by simp[Ren.id]at e b;simp[e,b],λhd p=>.inr ⟨hd,p,rfl⟩⟩
theorem DF(ω:Nat->W):(λl=>ren Ren.id (ω l))=ω:=by
 funext l;cases h:ω l<;>rfl
def Ren.mv(a b:Hd):Ren:=λhd p=>if hd=a then .own b p else if hd=b then .Z_ else .own hd p
theorem Ren.mv_ok(a b:Hd):(Ren.mv a b).Ok:=by
 refine⟨λhd p f_ p' x c e g=>?_,λhd p=>?_⟩
 ·unfold Ren.mv at e g;split at e
  ·split at g
   ·simp at e g;simp_all
   split at g
   ·simp at g
   simp at e g;simp_all
  split at e
  ·simp at e
  split at g
  ·simp at e g;simp_all
  split at g
  ·simp at g
  simp at e g;simp_all
 unfold Ren.mv;split
 ·exact .inr ⟨_,_,rfl⟩
 split
 ·exact .inl rfl
 exact .inr ⟨_,_,rfl⟩
theorem Ren.l_{a b c:Hd}(h1:c≠a)(g:c≠b):(Ren.mv a b).still c:=λp=>by simp[Ren.mv,h1,g]
def Ren.drop(a:Hd):Ren:=λhd p=>if hd=a then .Z_ else .own hd p
theorem Ren.drop_ok(a:Hd):(Ren.drop a).Ok:=by
 refine⟨λhd p f_ p' x c e b=>?_,λhd p=>?_⟩
 ·unfold Ren.drop at e b;split at e
  ·simp at e
  split at b
  ·simp at b
  simp at e b;simp_all
 unfold Ren.drop;split
 ·exact .inl rfl
 exact .inr ⟨_,_,rfl⟩
theorem Ren.i7{a c:Hd}(h1:c≠a):(Ren.drop a).still c:=λp=>by simp[Ren.drop,h1]
def V.S_:V->List Nat->V
 |.agg cs,[c]=>get cs c|.agg _,_=>.undef|.f8 vs,[i,c]=>get (get vs i).cells c|.f8 _,_=>.undef|v,[0]=>v|_,_=>.undef
def Shp1:PV->V->Prop
 |.fl .undef,_=>True|.agg cs,u=>∃us,u= .agg us/\us.length=cs.length|.f8 _,_=>False|_,u=>(∀us,u≠.agg us)/\∀us,u≠.f8 us
def A9:PV->V->Prop
 |.f8 vs,u=>∃us,u= .f8 us/\us.length=vs.length/\∀i,Shp1 (Aa vs i) (get us i)|v,u=>Shp1 v u
def Be(cs:List PV)(us:List V):List Nat->PV×V
 |[c]=>(Aa cs c,get us c)|_=>(.fl .undef,.undef)
def A6(h:Ac)(l:Nat):List V:=match h[l]? with|some b=>b.cs|none=>[]
abbrev CN:=Nat->PV×V
def Ak(ρ:Nat->Nat)(st:PS)(us:St)(X:CN):JO
 |.s t,p=>((Aa st.sl t).S_ p,(get us.sl t).S_ p)|.b i,p=>Be (Ao st.bx i) (A3 us.bx i) p|.h i,p=>Be (Ao st.hp i) (A6 us.hp (ρ i)) p|.x i,p=>((X i).1.S_ p,(X i).2.S_ p)
structure Fr (h0:Ac) (ω0:Nat->W) (h:Ac) (ω:Nat->W):Prop where
 len:h0.length<=h.length
 old:∀l,l<h0.length->(ω0 l= .Z_\/ω0 l= .none)->h[l]?=h0[l]?/\ω l=ω0 l
 new:∀l,l<h0.length->ω l= .Z_->ω0 l≠.none
 ptr:∀l i,ω0 l= .ptr i->ω l= .ptr i
def PV.lay:PV->Bool
 |.fl _=>true|.sl .own _|.sl .Z_ _|.sl (.i5 _) _=>true|_=>false
structure RS (h0:Ac) (ω0:Nat->W) (ω:Nat->W) (ρ:Nat->Nat) (st:PS) (us:St) (X:CN):Prop where
 core:Core us.hp ω (Ak ρ st us X)
 sh:∀t,A9 (Aa st.sl t) (get us.sl t)
 shx:∀i,A9 (X i).1 (X i).2
 lsl:st.sl.length=us.sl.length
 lbx:st.bx.length=us.bx.length
 lb:∀i,(Ao st.bx i).length=(A3 us.bx i).length
 cb:∀i c,(Aa (Ao st.bx i) c).lay=true
 ch:∀i c,(Aa (Ao st.hp i) c).lay=true
 hp:∀i,i<st.hp.length->ω (ρ i)= .ptr i/\(A6 us.hp (ρ i)).length=(Ao st.hp i).length
 bdp:∀l i,ω l= .ptr i->i<st.hp.length
 bdh:∀l i p,ω l= .own (.h i) p->i<st.hp.length
 fr:Fr h0 ω0 us.hp ω
 nx:∀hd p i pb tp,(Ak ρ st us X hd p).1.q≠some (.i6 (.x i) pb tp)
def X0:CN:=λ_=>(.fl .undef,.undef)
def X1(v:PV)(u:V):CN:=λi=>if i=0 then (v,u)else (.fl .undef,.undef)
theorem D1(s:List PV)(n:Nat):Aa s n=s[n]?.getD (.fl .undef):=by
 induction s generalizing n with
 |nil=>rfl
 | cons x r ih=>cases n with
   |zero=>rfl
   |succ n=>simp only[Aa,T5];exact ih n
theorem GC(s:List PV)(n:Nat)(h:s.length<=n):Aa s n= .fl .undef:=by rw[D1,BR h];rfl
theorem Gz(s:List PV)(n:Nat)(v:PV):(BW s n v).length=s.length:=by
 induction s generalizing n with
 |nil=>rfl
 | cons x r ih=>cases n with
   |zero=>rfl
   |succ n=>simp[BW,ih]
theorem El(s:List PV)(n m:Nat)(v:PV):Aa (BW s n v) m=if m=n/\n<s.length then v else Aa s m:=by
 induction s generalizing n m with
 |nil=>simp[BW,Aa]
 | cons x r ih=>cases n with
   | zero=>cases m with
     |zero=>simp[BW,Aa]
     |succ m=>simp[BW,Aa]
   | succ n=>cases m with
     |zero=>simp[BW,Aa]
     |succ m=>simp only[BW,Aa,ih,A0];congr 1;simp
theorem ph(s:List V)(n:Nat)(v:V):(put s n v).length=s.length:=by
 induction s generalizing n with
 |nil=>rfl
 | cons x r ih=>cases n with
   |zero=>rfl
   |succ n=>simp[put,ih]
theorem dG(s:List V)(n m:Nat)(v:V):get (put s n v) m=if m=n/\n<s.length then v else get s m:=by
 induction s generalizing n m with
 |nil=>simp[put,get]
 | cons x r ih=>cases n with
   | zero=>cases m with
     |zero=>simp[put,get]
     |succ m=>simp[put,get]
   | succ n=>cases m with
     |zero=>simp[put,get]
     |succ m=>simp only[put,get,ih,A0];congr 1;simp
theorem Dx(s:List (List PV))(n:Nat):Ao s n=s[n]?.getD []:=by
 induction s generalizing n with
 |nil=>rfl
 | cons x r ih=>cases n with
   |zero=>rfl
   |succ n=>simp only[Ao,T5];exact ih n
theorem HY(s:List (List PV))(n:Nat)(v:List PV):(Cf s n v).length=s.length:=by
 induction s generalizing n with
 |nil=>rfl
 | cons x r ih=>cases n with
   |zero=>rfl
   |succ n=>simp[Cf,ih]
theorem nK(s:List (List V))(n:Nat)(v:List V):(C6 s n v).length=s.length:=by
 induction s generalizing n with
 |nil=>rfl
 | cons x r ih=>cases n with
   |zero=>rfl
   |succ n=>simp[C6,ih]
theorem J4(s:List (List PV))(n m:Nat)(v:List PV):Ao (Cf s n v) m=if m=n/\n<s.length then v else Ao s m:=by
 induction s generalizing n m with
 |nil=>simp[Cf,Ao]
 | cons x r ih=>cases n with
   | zero=>cases m with
     |zero=>simp[Cf,Ao]
     |succ m=>simp[Cf,Ao]
   | succ n=>cases m with
     |zero=>simp[Cf,Ao]
     |succ m=>simp only[Cf,Ao,ih,A0];congr 1;simp
theorem nI(s:List (List V))(n m:Nat)(v:List V):A3 (C6 s n v) m=if m=n/\n<s.length then v else A3 s m:=by
 rw[TX,X3];split
 ·rfl
 rw[TX]
theorem pn(cs:List PV)(o n:Nat):s_ cs o n=(cs.drop o).take n:=by
 induction cs generalizing o n with
 |nil=>cases o<;>cases n<;>simp[s_]
 | cons c r ih=>cases o with
   | zero=>cases n with
     |zero=>simp[s_]
     |succ n=>simp[s_,ih]
   |succ o=>simp[s_,ih]
theorem F3{cs:List PV}{o n:Nat}(h:o+n<=cs.length):(s_ cs o n).length=n:=by
 rw[pn];simp;omega
theorem DY(cs:List PV)(o n c:Nat):Aa (s_ cs o n) c=if c<n then Aa cs (o+c)else .fl .undef:=by
 rw[pn,D1,D1];by_cases h:c<n
 ·rw[Ad h,OV h,L4]
 rw[Ae h,BR (by simp;omega)];rfl
theorem H6(cs:List V)(o n c:Nat):get ((cs.drop o).take n) c=if c<n then get cs (o+c)else .undef:=by
 rw[CZ,CZ];by_cases h:c<n
 ·rw[Ad h,OV h,L4]
 rw[Ae h,BR (by simp;omega)];rfl
theorem HW(cs:List PV)(o:Nat)(b:List PV):(AY cs o b).length=cs.length:=by
 induction cs generalizing o b with
 |nil=>cases b<;>rfl
 | cons c r ih=>cases b with
   |nil=>rfl
   | cons v b=>cases o with
     |zero=>simp[AY,ih]
     |succ o=>simp[AY,ih]
theorem Jh(cs:List PV)(o:Nat)(b:List PV)(c:Nat)(h:o+b.length<=cs.length):Aa (AY cs o b) c=if o<=c/\c<o+b.length then Aa b (c-o)else Aa cs c:=by
 induction cs generalizing o b c with
 | nil=>cases b with
   |nil=>simp[AY];omega
   |cons v b=>simp at h
 | cons x r ih=>cases b with
   |nil=>simp[AY];omega
   | cons v b=>cases o with
     | zero=>cases c with
       |zero=>simp[AY,Aa]
       | succ c=>
         simp only[AY,Aa];rw[ih 0 b c (by simp at h ⊢;omega)];simp[Aa]
     | succ o=>cases c with
       |zero=>simp[AY,Aa]
       | succ c=>
         simp only[AY,Aa];rw[ih o (v::b) c (by simp at h ⊢;omega)];simp only[A0,Nat.add_sub_add_right];congr 1;apply propext;omega
theorem W3 (cs:List V)(o:Nat)(b:List V)(c:Nat)(h:o+b.length<=cs.length):get (e_ cs o b) c=if o<=c/\c<o+b.length then get b (c-o)else get cs c:=by
 rw[CZ,Xc _ _ _ _ h];split
 ·rw[CZ]
 rw[CZ]
theorem F4(hd:Hd)(s:List PV):(clr hd s).length=s.length:=by
 induction s with
 |nil=>rfl
 |cons x r b=>simp[clr,b]
theorem Fa(hd:Hd)(s:List PV)(n:Nat):Aa (clr hd s) n=if (Aa s n).i6 hd then .fl .undef else Aa s n:=by
 induction s generalizing n with
 |nil=>rw[show Aa (clr hd []) n= .fl .undef from rfl,show Aa [] n= .fl .undef from rfl];split<;>rfl
 | cons x r ih=>cases n with
   |zero=>rfl
   |succ n=>exact ih n
theorem ZcQ(i:Nat)(s:List PV):(Hl i s).length=s.length:=by
 induction s with
 |nil=>rfl
 |cons x r b=>simp[Hl,b]
theorem Zcq(i:Nat)(s:List PV)(n:Nat):Aa (Hl i s) n=if (Aa s n).isBox i then .fl .undef else Aa s n:=by
 induction s generalizing n with
 |nil=>rw[show Aa (Hl i []) n= .fl .undef from rfl,show Aa [] n= .fl .undef from rfl];split<;>rfl
 | cons x r ih=>cases n with
   |zero=>rfl
   |succ n=>exact ih n
theorem Zc4(i:Nat)(s:List V):(r_ i s).length=s.length:=by
 induction s with
 |nil=>rfl
 |cons x r b=>simp[r_,b]
theorem ZhP(s:List PV):(clrH s).length=s.length:=by
 induction s with
 |nil=>rfl
 |cons x r b=>simp[clrH,b]
theorem Zgj(live:List Nat)(k:Nat)(s:List PV):(Fl live k s).length=s.length:=by
 induction s generalizing k with
 |nil=>rfl
 |cons x r b=>simp[Fl,b]
theorem Zfp(live:List Nat)(k:Nat)(s:List PV)(n:Nat):Aa (Fl live k s) n=if live.contains (k+n)then (Aa s n).detop else .fl .undef:=by
 induction s generalizing k n with
 |nil=>simp[Fl,Aa,PV.detop]
 | cons x r ih=>cases n with
   |zero=>simp[Fl,Aa]
   |succ n=>simp only[Fl,Aa,ih];rw[show k+1+n=k+(n+1) by omega]
theorem Zhn(live:List Nat)(k:Nat)(s:List V):(keep live k s).length=s.length:=by
 induction s generalizing k with
 |nil=>rfl
 |cons x r b=>simp[keep,b]
theorem Zhk(live:List Nat)(k:Nat)(s:List V)(n:Nat):get (keep live k s) n=if live.contains (k+n)then get s n else .undef:=by
 induction s generalizing k n with
 |nil=>simp[keep,get]
 | cons x r ih=>cases n with
   |zero=>simp[keep,get]
   |succ n=>simp only[keep,get,ih];rw[show k+1+n=k+(n+1) by omega]
theorem Zfn(live:List Nat)(k:Nat)(s:List PV):(GL live k s).length=s.length:=by
 induction s generalizing k with
 |nil=>rfl
 |cons x r b=>simp[GL,b]
theorem Zfi(live:List Nat)(k:Nat)(s:List PV)(n:Nat):Aa (GL live k s) n=if live.contains (k+n)then Aa s n else .fl .undef:=by
 induction s generalizing k n with
 |nil=>simp[GL,Aa]
 | cons x r ih=>cases n with
   |zero=>simp[GL,Aa]
   |succ n=>simp only[GL,Aa,ih];rw[show k+1+n=k+(n+1) by omega]
theorem Rj(es:List (List PV))(j:Nat):Bs es j=es[j]?.getD []:=by
 induction es generalizing j with
 |nil=>rfl
 | cons x r ih=>cases j with
   |zero=>rfl
   |succ n=>simp only[Bs,T5];exact ih n
theorem Jl(w:Nat)(es:List (List PV)):C4 w es=true↔∀e∈es,e.length=w:=by
 induction es with
 |nil=>simp[C4]
 |cons x r b=>simp[C4,b]
theorem oL{w:Nat}{es:List (List PV)}(b:∀e∈es,e.length=w):es.flatten.length=es.length*w:=by
 induction es with
 |nil=>simp
 | cons x r ih=>
   rw[Ig,CM,ih (λe g=>b e (by simp[g])),b x (by simp),A0,D2,FF,Nat.add_comm]
theorem Z7(a b:List PV)(n:Nat)(h:n<a.length):Aa (a++b) n=Aa a n:=by
 rw[D1,D1,Bp h]
theorem ZR(a b:List PV)(n:Nat)(h:a.length<=n):Aa (a++b) n=Aa b (n-a.length):=by
 rw[D1,D1,Dj h]
theorem jq(a b:List V)(n:Nat)(h:n<a.length):get (a++b) n=get a n:=by
 rw[CZ,CZ,Bp h]
theorem wQ(a b:List V)(n:Nat)(h:a.length<=n):get (a++b) n=get b (n-a.length):=by
 rw[CZ,CZ,Dj h]
theorem LQ{w:Nat}{es:List (List PV)}(g:∀e∈es,e.length=w)(j c:Nat)(n:c<w):Aa es.flatten (j*w+c)=Aa (Bs es j) c:=by
 induction es generalizing j with
 |nil=>simp[Bs,Aa]
 | cons x r ih=>
   have b:x.length=w:=g x (by simp);cases j with
   |zero=>rw[Ig,LW,BJ,Z7 _ _ _ (by omega)];rfl
   | succ j=>
     rw[Ig,ZR _ _ _ (by rw[b,OS];omega),b,show (j+1)*w+c-w=j*w+c by rw[OS];omega,ih (λe i=>g e (by simp[i]))];rfl
theorem Yp{w:Nat}{es:List (List PV)}(b:∀e∈es,e.length=w){j:Nat}(h:j<es.length):(Bs es j).length=w:=by
 rw[Rj,Bc h];exact b _ (Fc h)
theorem dw(cs:List PV):PV.ownL cs=true↔∃c,(Aa cs c).own=true:=by
 induction cs with
 |nil=>simp[PV.ownL,Aa,PV.own]
 | cons x r ih=>
   simp only[PV.ownL,Ce,ih];constructor
   ·rintro(h|⟨c,h⟩)
    ·exact⟨0,h⟩
    exact⟨c+1,h⟩
   rintro⟨c,h⟩;cases c with
   |zero=>exact .inl h
   |succ c=>exact .inr ⟨c,h⟩
theorem XK(hd:Hd)(cs:List PV):PV.borL hd cs=true↔∃c,(Aa cs c).i6 hd=true:=by
 induction cs with
 |nil=>simp[PV.borL,Aa,PV.i6]
 | cons x r ih=>
   simp only[PV.borL,Ce,ih];constructor
   ·rintro(h|⟨c,h⟩)
    ·exact⟨0,h⟩
    exact⟨c+1,h⟩
   rintro⟨c,h⟩;cases c with
   |zero=>exact .inl h
   |succ c=>exact .inr ⟨c,h⟩
theorem QJ{v:PV}(h:v.qo=true):v.own=true:=by
 cases v with
 |sl q es=>cases q<;>first|rfl|cases h
 |_=>cases h
theorem Zk3{v:PV}(h:v.q=none):v.qo=false:=by
 cases v with
 |sl q es=>cases q<;>simp[PV.q]at h
 |_=>rfl
theorem Zc{v:PV}{b:Hd}{i:List Nat}{g:Bool}(h:v.q=some (.i6 b i g)):v.i6 b=true:=by
 cases v with
 |sl q es=>cases q<;>simp[PV.q]at h<;>simp[PV.i6,h.1]
 |ep q es j o=>cases q<;>simp[PV.q]at h<;>simp[PV.i6,h.1]
 |_=>simp[PV.q]at h
theorem Zfv{v:PV}{p:List Nat}(h:(v.S_ p).qo=true):v.own=true:=by
 unfold PV.S_ at h;split at h
 ·exact(dw _).2 ⟨_,QJ h⟩
 ·cases h
 ·rename_i b i c;refine(dw b).2 ⟨i,?_⟩;generalize Aa b i=w at h ⊢;cases w with
  |agg cs=>exact(dw cs).2 ⟨c,QJ h⟩
  | _=>cases c with
    |zero=>exact QJ h
    |succ c=>simp[PV.cells,Aa,PV.q,PV.qo]at h
 ·cases h
 ·exact QJ h
 cases h
theorem mK{v:PV}{p:List Nat}{b:Hd}{n:List Nat}{j:Bool}(h:(v.S_ p).q=some (.i6 b n j)):v.i6 b=true:=by
 unfold PV.S_ at h;split at h
 ·exact(XK _ _).2 ⟨_,Zc h⟩
 ·simp[PV.q]at h
 ·rename_i g i c;refine(XK b g).2 ⟨i,?_⟩;generalize Aa g i=w at h ⊢;cases w with
  |agg cs=>exact(XK b cs).2 ⟨c,Zc h⟩
  | _=>cases c with
    |zero=>exact Zc h
    |succ c=>simp[PV.cells,Aa,PV.q,PV.qo]at h
 ·simp[PV.q]at h
 ·exact Zc h
 simp[PV.q]at h
theorem Zip{v:PV}(h:v.lay=true)(i:Hd)(g:List Nat)(b:Bool):v.q≠some (.i6 i g b):=by
 intro e;cases v with
 |sl q es=>cases q<;>simp[PV.q]at e<;>cases h
 |ep q es j o=>cases h
 |_=>simp[PV.q]at e
section
variable {h0:Ac} {ω0 ω:Nat->W} {ρ:Nat->Nat} {st f4:PS} {us v_:St} {X X':CN}
theorem Fr.ren{h:Ac}(r:Fr h0 ω0 h ω)(f:Ren):Fr h0 ω0 h (λl=>Ag.ren f (ω l)):=by
 refine⟨r.len,λl g e=>?_,λl g e=>?_,λl i e=>by simp[r.ptr l i e,Ag.ren]⟩
 ·obtain⟨a,b⟩:=r.old l g e;refine⟨a,?_⟩;rcases e with e|e<;>simp[b,e,Ag.ren]
 cases j:ω l with
 |Z_=>exact r.new l g j
 | own a q=>
   intro n;have:=(r.old l g (.inr n)).2;rw[n,j]at this;cases this
 |_=>simp[j,Ag.ren]at e
def YF(f:Ren)(A:JO)(g:PV×V)(f_:Hd)(p':List Nat):Prop:=∃hd p,g=A hd p/\(g.1.qo=true->∀r,f hd (p++r)= .own f_ (p'++r))/\∀b n j,g.1.q=some (.i6 b n j)->(∀i,b≠.x i)->(j=true->f.still b)/\f.soft b
def Cs(v:PV):Prop:=∀i g b,v.q≠some (.i6 (.x i) g b)
theorem RS.ren (R:RS h0 ω0 ω ρ st us X) {f:Ren} (x:f.Ok) (G:∀hd p i q,f hd p= .own (.h i) q->hd= .h i)
 (y:∀hd p,YF f (Ak ρ st us X) (Ak ρ f4 v_ X' hd p) hd p\/Cs (Ak ρ f4 v_ X' hd p).1/\RC us.hp (λl=>Ag.ren f (ω l)) (.at hd p) (Ak ρ f4 v_ X' hd p).1 (Ak ρ f4 v_ X' hd p).2)
 (g:v_.hp=us.hp) (hs:∀t,A9 (Aa f4.sl t) (get v_.sl t)) (F:∀i,A9 (X' i).1 (X' i).2) (D:f4.sl.length=v_.sl.length) (C:f4.bx.length=v_.bx.length)
 (A:∀i,(Ao f4.bx i).length=(A3 v_.bx i).length) (N:∀i c,(Aa (Ao f4.bx i) c).lay=true) (c2:∀i c,(Aa (Ao f4.hp i) c).lay=true)
 (s:f4.hp.length=st.hp.length) (z:∀i,(Ao f4.hp i).length=(Ao st.hp i).length):RS h0 ω0 (λl=>Ag.ren f (ω l)) ρ f4 v_ X':=by
 refine⟨by
  rw[g];refine R.core.ren x λhd p=>?_;rcases y hd p with⟨a,b,e,h1,J⟩|h
  ·refine .inl ⟨a,b,e,h1,λI n j u=>J I n j u ?_⟩;rintro i rfl;rw[e]at u;exact R.nx a b i n j u
  exact .inr h.2,hs,F,D,C,A,N,c2,λi hi=>?_,λl i e=>?_,λl i p e=>?_,by rw[g];exact R.fr.ren f,λhd p i n j=>?_⟩
 ·rw[s]at hi;obtain⟨a,b⟩:=R.hp i hi;exact⟨by simp[a,Ag.ren],by rw[g,z];exact b⟩
 ·rw[s];exact R.bdp l i (Ez x e)
 ·obtain⟨a,q,M,L⟩:=D0 e;have:=G a q i p L;subst this;rw[s];exact R.bdh l i q M
 rcases y hd p with⟨a,b,e,_⟩|h
 ·rw[e];exact R.nx a b i n j
 exact h.1 i n j
theorem Bv{A:JO}{b:PV×V}{hd:Hd}{p:List Nat}(h:b=A hd p):YF Ren.id A b hd p:=⟨hd,p,h,λ_ _=>rfl,λ_ _ _ _ _=>⟨λ_ _=>rfl,Ren.still.soft λ_=>rfl⟩⟩
theorem Bm{f:Ren}{A:JO}{j:PV×V}{hd:Hd}{p:List Nat}(e:j=A hd p)(h:j.1.qo=true->f.still hd)(b:∀b s n,j.1.q=some (.i6 b s n)->(∀i,b≠.x i)->f.still b):YF f A j hd p:=⟨hd,p,e,λe _=>h e _,λg s n e h'=>⟨λ_=>b g s n e h',(b g s n e h').soft⟩⟩
theorem A4{h:Ac}{ω:Nat->W}{m:Md}{b:PV×V}(e:b.1= .fl .undef):Cs b.1/\RC h ω m b.1 b.2:=by rw[e];exact⟨λ_ _ _ h=>by simp[PV.q]at h,.undef _ _⟩
theorem Dn {h:Ac}{ω:Nat->W}{m:Md}{v:PV}{u:V}(e:v= .fl .undef):Cs v/\RC h ω m v u:=by rw[e];exact⟨λ_ _ _ h=>by simp[PV.q]at h,.undef _ _⟩
theorem Ba(p:List Nat):(PV.fl .undef).S_ p= .fl .undef:=by
 unfold PV.S_;split<;>first|rfl|(rename_i h;cases h)|(rename_i h _;cases h)
theorem Bf(u:V):A9 (.fl .undef) u:=trivial
theorem C3{v:PV}(h:v.lay=true)(i:Hd)(g:List Nat)(b:Bool):v.q≠some (.i6 i g b):=Zip h i g b
theorem Hc{cs:List PV}{ws:List V}(h:∀c,(Aa cs c).lay=true)(p:List Nat):(Be cs ws p).1.lay=true:=by
 unfold Be;split
 ·exact h _
 rfl
theorem RS.nobor_b(R:RS h0 ω0 ω ρ st us X)(i:Nat)(p:List Nat)(n:Hd)(j:List Nat)(g:Bool):(Ak ρ st us X (.b i) p).1.q≠some (.i6 n j g):=C3 (Hc (R.cb i) p) n j g
theorem RS.nobor_h(R:RS h0 ω0 ω ρ st us X)(i:Nat)(p:List Nat)(j:Hd)(g:List Nat)(b:Bool):(Ak ρ st us X (.h i) p).1.q≠some (.i6 j g b):=C3 (Hc (R.ch i) p) j g b
theorem D6(v:PV)(u:V)(i:Nat)(hi:i≠0):X1 v u i=(.fl .undef,.undef):=by simp[X1,hi]
theorem GK(i:Nat)(p:List Nat):(Ak ρ st us X0 (.x i) p).1= .fl .undef:=Ba p
theorem F9{v:PV}{u:V}(i:Nat)(hi:i≠0)(p:List Nat):(Ak ρ st us (X1 v u) (.x i) p).1= .fl .undef:=by simp only[Ak,D6 v u i hi];exact Ba p
theorem RS.hand(R:RS h0 ω0 ω ρ st us X0){v:PV}{u:V}{hd:Hd}(hs:A9 v u)(j:∀p,RC us.hp ω (.at hd p) (v.S_ p) (u.S_ p))(n:∀p,(v.S_ p).qo=false)(g:∀p,Cs (v.S_ p)):RS h0 ω0 ω ρ st us (X1 v u):=by
 have:=RS.ren (f4:=st) (v_:=us) (X':=X1 v u) R Ren.id_ok (λhd p i q e=>by simp[Ren.id]at e;exact e.1) (λf_ p=>?_) rfl R.sh (λi=>?_) R.lsl R.lbx R.lb R.cb R.ch rfl (λ_=>rfl)
 ·rwa [DF]at this
 ·cases f_ with
  | x i=>
    refine .inr ?_;rw[DF];by_cases hi:i=0
    ·subst hi;exact⟨g p,(j p).any (n p)⟩
    exact A4 (F9 i hi p)
  |s t=>exact .inl (Bv rfl)
  |b t=>exact .inl (Bv rfl)
  |h t=>exact .inl (Bv rfl)
 by_cases hi:i=0
 ·subst hi;exact hs
 rw[D6 v u i hi];exact Bf _
theorem bw{x:V}(b:x.flat=true)(p:List Nat):((PV.fl x).S_ p= .fl x/\x.S_ p=x)\/(PV.fl x).S_ p= .fl .undef:=by
 unfold PV.S_;split
 ·rename_i h;cases h
 ·rename_i h _;cases h
 ·rename_i h;cases h
 ·rename_i h _;cases h
 ·refine .inl ⟨rfl,?_⟩;cases x<;>first|rfl|simp[V.flat]at b
 exact .inr rfl
theorem nN{x:V}(b:x.flat=true):A9 (.fl x) x:=by
 cases x<;>first|(simp[V.flat]at b;done)|simp[A9,Shp1]
theorem RS.flat(R:RS h0 ω0 ω ρ st us X0){x:V}(b:x.flat=true):RS h0 ω0 ω ρ st us (X1 (.fl x) x):=by
 have g:∀p,((PV.fl x).S_ p).q=none:=by
  intro p;rcases bw b p with⟨h1,j⟩|h
  ·rw[h1];rfl
  rw[h];rfl
 refine R.hand (hd:=.x 0) (nN b) (λp=>?_) (λp=>Zk3 (g p)) (λp i s n=>by rw[g];simp);rcases bw b p with⟨h1,j⟩|h
 ·rw[h1,j];exact .v _ _ b
 rw[h];exact .undef _ _
theorem TS{a:Hd}(hd:Hd)(p:List Nat)(i:Nat)(q:List Nat)(e:Ren.drop a hd p= .own (.h i) q):hd= .h i:=by
 unfold Ren.drop at e;split at e<;>simp at e;exact e.1
theorem Y9{a b:Hd}(g:∀i,b≠.h i)(hd:Hd)(p:List Nat)(i:Nat)(q:List Nat)(e:Ren.mv a b hd p= .own (.h i) q):hd= .h i:=by
 unfold Ren.mv at e;split at e
 ·simp at e;exact absurd e.1 (g i)
 split at e<;>simp at e;exact e.1
theorem QY(d:Nat)(v:PV)(t:Nat)(hd:st.sl.length=us.sl.length)(u:V):(Aa (clr (.s d) (BW st.sl d v)) t= .fl .undef)\/(t=d/\d<st.sl.length/\Aa (clr (.s d) (BW st.sl d v)) t=v/\get (put us.sl d u) t=u/\v.i6 (.s d)=false) \/
  (Aa (clr (.s d) (BW st.sl d v)) t=Aa st.sl t/\get (put us.sl d u) t=get us.sl t/\(Aa st.sl t).i6 (.s d)=false/\(t≠d\/st.sl.length<=d)):=by
 rw[Fa,El,dG,<- hd];by_cases h:t=d/\d<st.sl.length
 ·rw[Ad h,Ad h];cases b:v.i6 (.s d)with
  |true=>exact .inl rfl
  |false=>exact .inr (.inl ⟨h.1,h.2,rfl,rfl,rfl⟩)
 rw[Ae h,Ae h];cases b:(Aa st.sl t).i6 (.s d)with
 |true=>exact .inl rfl
 |false=>exact .inr (.inr ⟨rfl,rfl,rfl,by omega⟩)
theorem Ef{v:PV}{hd:Hd}(h:v.i6 hd=false){p:List Nat}{b:Hd}{i:List Nat}{g:Bool}(e:(v.S_ p).q=some (.i6 b i g)):b≠hd:=by
 rintro rfl;rw[mK e]at h;cases h
theorem OR{v:PV}(h:v.own=false)(p:List Nat):(v.S_ p).qo=false:=by
 cases e:(v.S_ p).qo with
 |false=>rfl
 |true=>rw[Zfv e]at h;cases h
theorem RS.put{v:PV}{u:V}(R:RS h0 ω0 ω ρ st us (X1 v u))(d:Option Nat):∃ω',RS h0 ω0 ω' ρ (st.put d v) (us.put d u) X0:=by
 have G:∀i p f,Cs (Ak ρ st us X0 (.x i) p).1/\RC us.hp (λl=>Ag.ren f (ω l)) (.at (.x i) p) (Ak ρ st us X0 (.x i) p).1 (Ak ρ st us X0 (.x i) p).2:=λi p f=>A4 (GK i p);cases d with
 | none=>
   refine⟨_,RS.ren (f4:=st) (v_:=us) (X':=X0) R (Ren.drop_ok (.x 0)) TS (λf_ p=>?_) rfl R.sh (λi=>Bf _) R.lsl R.lbx R.lb R.cb R.ch rfl (λ_=>rfl)⟩;cases f_ with
   |x i=>exact .inr (G i p _)
   |s t=>exact .inl (Bm rfl (λ_=>Ren.i7 (by simp)) λn j g _ h=>Ren.i7 (h 0))
   |b t=>exact .inl (Bm rfl (λ_=>Ren.i7 (by simp)) λn j g _ h=>Ren.i7 (h 0))
   |h t=>exact .inl (Bm rfl (λ_=>Ren.i7 (by simp)) λn j g _ h=>Ren.i7 (h 0))
 | some d=>
   simp only[PS.put,St.put];split
   ·refine⟨_,RS.ren (X':=X0) R (Ren.mv_ok (.x 0) (.s d)) (Y9 (by simp)) (λf_ p=>?_) rfl (λt=>?_) (λi=>Bf _) (by simp[F4,Gz,R.lsl,ph]) R.lbx R.lb R.cb R.ch rfl (λ_=>rfl)⟩
    ·cases f_ with
     |x i=>exact .inr (A4 (Ba p))
     | s t=>
       simp only[Ak];rcases QY (st:=st) (us:=us) d v t R.lsl u with h|⟨rfl,I,h1,y,C⟩|⟨h1,y,C,J⟩
       ·refine .inr ?_;rw[h];exact Dn (Ba p)
       ·refine .inl ⟨.x 0,p,?_,λ_ r=>by simp[Ren.mv],λn j g e D=>?_⟩
        ·rw[h1,y];rfl
        have:=Ren.l_ (a:=.x 0) (b:=.s t) (c:=n) (D 0) (Ef (v:=v) C (by simpa only[h1]using e));exact⟨λ_=>this,this.soft⟩
       refine .inl ?_;rw[h1,y];by_cases z:t=d
       ·subst z;have F:Aa st.sl t= .fl .undef:=GC _ _ (by omega);exact Bm rfl (λe=>by rw[F,Ba]at e;cases e) (λn j g e=>by simp only[Ak,F,Ba]at e;simp[PV.q]at e)
       exact Bm rfl (λ_=>Ren.l_ (by simp) (by simpa using z)) λn j g e D=>Ren.l_ (D 0) (Ef C e)
     |b t=>exact .inl (Bm rfl (λ_=>Ren.l_ (by simp) (by simp)) λn j g e=>absurd e (R.nobor_b t p n j g))
     |h t=>exact .inl (Bm rfl (λ_=>Ren.l_ (by simp) (by simp)) λn j g e=>absurd e (R.nobor_h t p n j g))
    rcases QY (st:=st) (us:=us) d v t R.lsl u with h|⟨rfl,I,h1,y,C⟩|⟨h1,y,C,J⟩
    ·simp only[h];exact Bf _
    ·simp only[h1,y];have:=R.shx 0;simpa [X1]using this
    simp only[h1,y];exact R.sh t
   rename_i A;simp only[GI]at A;refine⟨_,RS.ren (X':=X0) R Ren.id_ok (λhd p i q e=>by simp[Ren.id]at e;exact e.1) (λf_ p=>?_) rfl (λt=>?_) (λi=>Bf _) (by simp[Gz,R.lsl,ph]) R.lbx R.lb R.cb R.ch rfl (λ_=>rfl)⟩
   ·cases f_ with
    |x i=>exact .inr (A4 (Ba p))
    | s t=>
      simp only[Ak,El,dG,<- R.lsl];by_cases h:t=d/\d<st.sl.length
      ·simp only[Ad h];refine .inr ⟨?_,?_⟩
       ·exact λi j g=>R.nx (.x 0) p i j g
       rw[DF];have:=R.core.rc (.x 0) p;simp only[Ak,X1,Ad]at this;exact this.any (OR A p)
      simp only[Ae h];exact .inl (Bv rfl)
    |b t=>exact .inl (Bv rfl)
    |h t=>exact .inl (Bv rfl)
   simp only[El,dG,<- R.lsl];by_cases h:t=d/\d<st.sl.length
   ·simp only[Ad h];have:=R.shx 0;simpa [X1]using this
   simp only[Ae h];exact R.sh t
def Xs(X:CN)(i:Nat)(v:PV)(u:V):CN:=λj=>if j=i then (v,u)else X j
theorem WW{d:Nat}{v:PV}(hs:∀t,A9 (Aa st.sl t) (get us.sl t))(b:A9 v (get us.sl d))(t:Nat):A9 (Aa (clr (.s d) (BW st.sl d v)) t) (get us.sl t):=by
 rw[Fa];split
 ·exact Bf _
 rw[El];split
 ·rename_i h;rw[h.1];exact b
 exact hs t
theorem RS.take(R:RS h0 ω0 ω ρ st us X)(n i:Nat)(hi:∀p,((X i).1.S_ p)= .fl .undef)(L:∀j,(X j).1.i6 (.s n)=false):∃ω',RS h0 ω0 ω' ρ (Gm (Aa st.sl n) n st).2 us (Xs X i (Gm (Aa st.sl n) n st).1 (get us.sl n)):=by
 have A:∀j,A9 (Xs X i (Aa st.sl n) (get us.sl n) j).1 (Xs X i (Aa st.sl n) (get us.sl n) j).2:=by
  intro j;unfold Xs;split
  ·exact R.sh n
  exact R.shx j
 unfold Gm;split
 ·rename_i I;split
  ·refine⟨ω,?_⟩;have:=RS.ren (f4:=st) (v_:=us) (X':=Xs X i (.fl .undef) (get us.sl n)) R Ren.id_ok (λhd p i q e=>by simp[Ren.id]at e;exact e.1) (λf_ p=>?_) rfl R.sh (λj=>?_) R.lsl R.lbx R.lb R.cb R.ch rfl (λ_=>rfl)
   ·rwa [DF]at this
   ·cases f_ with
    | x j=>
      by_cases g:j=i
      ·subst g;exact .inr (A4 (by simp[Ak,Xs,Ba]))
      exact .inl (Bv (by simp[Ak,Xs,g]))
    |s t=>exact .inl (Bv rfl)
    |b t=>exact .inl (Bv rfl)
    |h t=>exact .inl (Bv rfl)
   unfold Xs;split
   ·exact Bf _
   exact R.shx j
  rename_i z;refine⟨_,RS.ren (X':=Xs X i (Aa st.sl n) (get us.sl n)) R (Ren.mv_ok (.s n) (.x i)) (Y9 (by simp)) (λf_ p=>?_) rfl (WW R.sh (Bf _)) A (by simp[F4,Gz,R.lsl]) R.lbx R.lb R.cb R.ch rfl (λ_=>rfl)⟩;cases f_ with
  | x j=>
    by_cases g:j=i
    ·subst g;refine .inl ⟨.s n,p,by simp[Ak,Xs],λ_ r=>by simp[Ren.mv],λF y u e C=>?_⟩;have:=Ren.l_ (a:=.s n) (b:=.x j) (c:=F) (Ef (v:=Aa st.sl n) (by simpa using z) (by simpa [Ak,Xs]using e)) (C j);exact⟨λ_=>this,this.soft⟩
    refine .inl (Bm (by simp[Ak,Xs,g]) (λ_=>Ren.l_ (by simp) (by simpa using g)) λz y u e C=>Ren.l_ (Ef (v:=(X j).1) (L j) (by simpa [Ak,Xs,g]using e)) (C i))
  | s t=>
    simp only[Ak];rcases QY (st:=st) (us:=us) n (.fl .undef) t R.lsl (get us.sl n)with h|⟨rfl,N,h1,M,J⟩|⟨h1,M,J,O⟩
    ·refine .inr ?_;rw[h];exact Dn (Ba p)
    ·refine .inr ?_;rw[h1];exact Dn (Ba p)
    refine .inl ?_;rw[h1];by_cases D:t=n
    ·subst D;have G:Aa st.sl t= .fl .undef:=GC _ _ (by omega);exact Bm rfl (λe=>by rw[G,Ba]at e;cases e) (λz y u e=>by simp only[G,Ba]at e;simp[PV.q]at e)
    exact Bm rfl (λ_=>Ren.l_ (by simpa using D) (by simp)) λz y u e C=>Ren.l_ (Ef J e) (C i)
  |b t=>exact .inl (Bm rfl (λ_=>Ren.l_ (by simp) (by simp)) λz y u e=>absurd e (R.nobor_b t p z y u))
  |h t=>exact .inl (Bm rfl (λ_=>Ren.l_ (by simp) (by simp)) λz y u e=>absurd e (R.nobor_h t p z y u))
 rename_i I;refine⟨_,RS.ren (X':=Xs X i (Aa st.sl n) (get us.sl n)) R Ren.id_ok (λhd p i q e=>by simp[Ren.id]at e;exact e.1) (λf_ p=>?_) rfl R.sh A R.lsl R.lbx R.lb R.cb R.ch rfl (λ_=>rfl)⟩;cases f_ with
 | x j =>
   by_cases g:j=i
   ·subst g;refine .inr ⟨?_,?_⟩
    ·simp only[Ak,Xs,Ad];exact λi y u=>R.nx (.s n) p i y u
    rw[DF];simp only[Ak,Xs,Ad];exact(R.core.rc (.s n) p).any (OR (by simpa using I) p)
   exact .inl (Bv (by simp[Ak,Xs,g]))
 |s t=>exact .inl (Bv rfl)
 |b t=>exact .inl (Bv rfl)
 |h t=>exact .inl (Bv rfl)
end
def Out2(o:p_)(us:St)(h0:Ac)(ω0:Nat->W)(v:PV)(st1:PS):Prop:=∃u bx hp ω' ρ',Af o us=some (u,bx,hp)/\RS h0 ω0 ω' ρ' st1 ⟨o.clears us.sl,bx,hp⟩ (X1 v u)
theorem Jg{v:PV}(h1:∀cs,v≠.agg cs)(g:∀b,v≠.f8 b):v.S_ [0]=v:=by
 cases v<;>first|rfl|exact absurd rfl (h1 _)|exact absurd rfl (g _)
theorem FX{v:V}(h1:∀cs,v≠.agg cs)(g:∀b,v≠.f8 b):v.S_ [0]=v:=by
 cases v<;>first|rfl|exact absurd rfl (h1 _)|exact absurd rfl (g _)
section
variable {h0:Ac} {ω0 ω:Nat->W} {ρ:Nat->Nat} {st st1:PS} {us:St} {X:CN}
theorem pt(c:V)(h:Ac)(ω:Nat->W)(hd:Hd):A9 (BT c) c/\∀p,RC h ω (.at hd p) ((BT c).S_ p) (c.S_ p):=by
 have b:∀x:V,x.flat=true->A9 (.fl x) x/\∀p,RC h ω (.at hd p) ((PV.fl x).S_ p) (x.S_ p):=λx g=>⟨nN g,λp=>by
  rcases bw g p with⟨h1,n⟩|h
  ·rw[h1,n];exact .v _ _ g
  rw[h];exact .undef _ _⟩
 have j:∀u:V,A9 (.fl .undef) u/\∀p,RC h ω (.at hd p) ((PV.fl .undef).S_ p) (u.S_ p):=λu=>⟨Bf u,λp=>by rw[Ba];exact .undef _ _⟩;unfold BT;split
 ·refine⟨⟨λ_ h=>(by cases h),λ_ h=>(by cases h)⟩,λp=>?_⟩;unfold PV.S_;split<;>first|exact .undef _ _|(rename_i h;cases h;done)|(rename_i h _;cases h;done)|skip
  exact .nil _ _
 ·refine⟨⟨[],rfl,rfl,λi=>by simp[Aa,Shp1]⟩,λp=>?_⟩;unfold PV.S_;split<;>first|exact .undef _ _|(rename_i h;cases h;done)|skip
  rename_i q i c h;cases h;simp only[Aa,PV.cells];cases c with
  |zero=>exact .undef _ _
  |succ c=>exact .undef _ _
 ·exact b _ rfl
 ·exact b _ rfl
 ·exact b _ rfl
 ·exact b _ rfl
 exact j _
theorem RS.ev(R:RS h0 ω0 ω ρ st us X)(x:T_):∃hd,(∀t,x= .t t->hd= .s t)/\A9 (x.t7 st.sl) (x.ev us.sl)/\∀p,RC us.hp ω (.at hd p) ((x.t7 st.sl).S_ p) ((x.ev us.sl).S_ p):=by
 cases x with
 |t t=>exact⟨.s t,λ_ h=>(by cases h;rfl),R.sh t,λp=>R.core.rc (.s t) p⟩
 | c v=>
   obtain⟨h1,b⟩:=pt v us.hp ω (.x 0);exact⟨.x 0,λ_ h=>(by cases h),h1,b⟩
theorem RS.ev_fl(R:RS h0 ω0 ω ρ st us X){x:T_}{a:V}(e:x.t7 st.sl= .fl a)(i:a≠.undef):x.ev us.sl=a/\a.flat=true:=by
 obtain⟨hd,_,hs,g⟩:=R.ev x;rw[e]at hs g;have g:=g [0];have b:(∀v_,x.ev us.sl≠.agg v_)/\∀v_,x.ev us.sl≠.f8 v_:=by
  cases a<;>first|exact hs|exact absurd rfl i
 rw[Jg (λ_ h=>(by cases h)) (λ_ h=>(by cases h)),FX b.1 b.2]at g;cases g with
 |undef=>exact absurd rfl i
 |v _ _ j=>exact⟨rfl,j⟩
theorem RS.ev_one(R:RS h0 ω0 ω ρ st us X){x:T_}{v:PV}(e:x.t7 st.sl=v)(h1:∀cs,v≠.agg cs)(i:∀j,v≠.f8 j)(q:∀a,v≠.fl a):∃hd,(∀t,x= .t t->hd= .s t)/\RC us.hp ω (.at hd [0]) v (x.ev us.sl):=by
 obtain⟨hd,n,hs,g⟩:=R.ev x;rw[e]at hs g;have g:=g [0];have b:(∀v_,x.ev us.sl≠.agg v_)/\∀v_,x.ev us.sl≠.f8 v_:=by
  cases v<;>first|exact hs|exact absurd rfl (h1 _)|exact absurd rfl (i _)|exact absurd rfl (q _)
 rw[Jg h1 i,FX b.1 b.2]at g;exact⟨hd,n,g⟩
theorem RS.ev_agg(R:RS h0 ω0 ω ρ st us X){x:T_}{cs:List PV}(e:x.t7 st.sl= .agg cs):∃hd ws,(∀t,x= .t t->hd= .s t)/\x.ev us.sl= .agg ws/\ws.length=cs.length/\∀c,RC us.hp ω (.at hd [c]) (Aa cs c) (get ws c):=by
 obtain⟨hd,g,hs,b⟩:=R.ev x;rw[e]at hs b;obtain⟨ws,h1,i⟩:=hs;exact⟨hd,ws,g,h1,i,λc=>by have:=b [c];rw[h1]at this;exact this⟩
theorem RS.ev_tup(R:RS h0 ω0 ω ρ st us X){t:Nat}{b:List PV}(e:Aa st.sl t= .f8 b):∃ws,get us.sl t= .f8 ws/\ws.length=b.length/\(∀i,Shp1 (Aa b i) (get ws i))/\∀i c,RC us.hp ω (.at (.s t) [i,c]) (Aa (Aa b i).cells c) (get (get ws i).cells c):=by
 have hs:=R.sh t;have g:=λp=>R.core.rc (.s t) p;simp only[Ak]at g;rw[e]at hs g;obtain⟨ws,h1,n,j⟩:=hs;exact⟨ws,h1,n,j,λi c=>by have:=g [i,c];rw[h1]at this;exact this⟩
theorem Out2.flat(R:RS h0 ω0 ω ρ st us X0){o:p_}{x:V}(b:x.flat=true)(e:Af o us=some (x,us.bx,us.hp))(g:o.clears us.sl=us.sl):Out2 o us h0 ω0 (.fl x) st:=⟨x,us.bx,us.hp,ω,ρ,e,by rw[g];exact R.flat b⟩
theorem ZdC{op:BinOp}{k:IntKind}{a b:Int}{r:V}(e:Em op k a b=some r):r.flat=true:=by
 unfold Em at e;split at e<;>first|(cases e;rfl)|(split at e<;>first|(cases e;done)|(cases e;rfl))|cases e
theorem Ze3{op:BinOp}{a b r:V}(e:CO op a b=some r):r.flat=true/\a≠.undef/\b≠.undef:=by
 refine⟨?_,?_,?_⟩
 ·unfold CO at e;split at e
  ·have g:∀k x y,OD op k x y=some r->r.flat=true:=by
    intro k x y e;unfold OD at e;split at e
    ·cases e
    split at e<;>first|(cases e;rfl)|cases e
   split at e
   ·exact g _ _ _ e
   ·exact g _ _ _ e
   split at e
   ·exact ZdC e
   cases e
  ·split at e
   ·split at e
    ·cases e;rfl
    cases e
   ·cases e;rfl
   ·cases e;rfl
   cases e
  cases e
 ·rintro rfl;simp[CO]at e
 rintro rfl;cases a<;>simp[CO]at e
theorem ZfT{op:UnOp}{a r:V}(e:JK op a=some r):r.flat=true/\a≠.undef:=by
 unfold JK at e;split at e
 ·cases e;exact⟨rfl,by simp⟩
 ·cases e;exact⟨rfl,by simp⟩
 cases e
theorem ZkW(R:RS h0 ω0 ω ρ st us X0){op:BinOp}{x y:T_}{v:PV}(e:Rz op (x.t7 st.sl) (y.t7 st.sl)=some v):Out2 (.bin op x y) us h0 ω0 v st:=by
 unfold Rz at e;split at e
 ·rename_i a b j i;cases g:CO op a b with
  |none=>rw[g]at e;cases e
  | some r=>
    rw[g]at e;cases e;obtain⟨h1,q,n⟩:=Ze3 g;exact .flat R h1 (by simp[Af,(R.ev_fl j q).1,(R.ev_fl i n).1,g]) rfl
 cases e
theorem Zll(R:RS h0 ω0 ω ρ st us X0){op:UnOp}{x:T_}{v:PV}(e:UQ op (x.t7 st.sl)=some v):Out2 (.un op x) us h0 ω0 v st:=by
 unfold UQ at e;split at e
 ·rename_i a g;cases b:JK op a with
  |none=>rw[b]at e;cases e
  | some r=>
    rw[b]at e;cases e;obtain⟨h1,i⟩:=ZfT b;exact .flat R h1 (by simp[Af,(R.ev_fl g i).1,b]) rfl
 cases e
theorem ZjY(R:RS h0 ω0 ω ρ st us X0){k:IntKind}{x:T_}{v:PV}(e:T8 k (x.t7 st.sl)=some v):Out2 (.conv k x) us h0 ω0 v st:=by
 unfold T8 at e;split at e
 ·rename_i g n b;cases e;exact .flat R rfl (by simp[Af,(R.ev_fl b (by simp)).1]) rfl
 cases e
theorem ZkR(R:RS h0 ω0 ω ρ st us X0){g:Bool}{x y:T_}{v:PV}(e:Uu g (x.t7 st.sl) (y.t7 st.sl)=some v):Out2 (.eqB g x y) us h0 ω0 v st:=by
 unfold Uu at e;split at e
 ·rename_i a b j i;cases e;exact .flat R rfl (by simp[Af,(R.ev_fl j (by simp)).1,(R.ev_fl i (by simp)).1]) rfl
 cases e
theorem ZkF(R:RS h0 ω0 ω ρ st us X0){b:Bool}{x:T_}{v:PV}(e:Up b (x.t7 st.sl)=some v):Out2 (.eqN b x (.c (.ifc true))) us h0 ω0 v st:=by
 unfold Up at e;split at e
 ·rename_i a g;cases e;exact .flat R rfl (by simp[Af,(R.ev_fl g (by simp)).1]) rfl
 cases e
theorem oG:∀ {cs:List PV} {l:List V},EF cs=some l->cs=l.map .fl
 |[],l,h=>by simp[EF]at h;subst h;rfl
 | .fl x::r,l,h=>by
   simp only[EF]at h;split at h
   ·rename_i l' h';cases h;simp[oG h']
   cases h
 |.sl ..::r,l,h=>by simp[EF]at h
 |.ep ..::r,l,h=>by simp[EF]at h
 |.box ..::r,l,h=>by simp[EF]at h
 |.ptr ..::r,l,h=>by simp[EF]at h
 |.agg ..::r,l,h=>by simp[EF]at h
 |.f8 ..::r,l,h=>by simp[EF]at h
theorem pX{hd:Hd}{cs:List PV}{l ws:List V}(h:EF cs=some l)(n:ws.length=cs.length)(i:∀x∈l,x≠.undef){H:Ac}(j:∀c,RC H ω (.at hd [c]) (Aa cs c) (get ws c)):ws=l:=by
 have:=oG h;subst this;refine YB (by simpa using n) λc h1 b=>?_;have r:=j c;rw[D1,CZ,Bc h1,Im,Bc b]at r;simp only[Cw,Jr]at r;generalize g:l[c]=x at r;generalize s:ws[c]=y at r;have q:x≠.undef:=by rw[<- g];exact i _ (Fc b)
 cases r with
 |undef=>exact absurd rfl q
 |v=>rfl
theorem pN{l:List V}(h:l.all V.flat=true):∀x∈l,x≠.undef:=by
 rintro x b rfl;have:=DE.1 h _ b;cases this
theorem Zkw(R:RS h0 ω0 ω ρ st us X0){n:Nat}{g:Bool}{x y:T_}{v:PV}(e:Uz n g (x.t7 st.sl) (y.t7 st.sl)=some v):Out2 (.eqA n g x y) us h0 ω0 v st:=by
 unfold Uz at e;split at e
 ·rename_i a b I G;split at e
  ·rename_i a' Z q j;split at e
   ·rename_i F;obtain⟨h1,M,L,J⟩:=F;obtain⟨_,u,_,O,D,A⟩:=R.ev_agg I;obtain⟨_,s,_,N,C,z⟩:=R.ev_agg G;have Y:=pX q D (pN L) A;have U:=pX j C (pN J) z;subst Y;subst U;cases i:Ex u s with
    |none=>rw[i]at e;cases e
    | some t=>
      rw[i]at e;cases e;exact .flat R rfl (by simp[Af,O,N,h1,M,i]) rfl
   cases e
  cases e
 cases e
theorem lk(R:RS h0 ω0 ω ρ st us X){d:Nat}{o:Option T_}{n:Nat}(e:OT d (o.map (·.t7 st.sl))=some n):Ey d (o.map (·.ev us.sl))=some n:=by
 cases o with
 |none=>simpa [OT,Ey]using e
 | some x=>
   simp only[Cw]at e ⊢;unfold OT at e;split at e
   ·rename_i h;cases h
   ·rename_i k i h;cases h':x.t7 st.sl with
    | fl a=>
      simp only[Ap]at h;rw[h']at h;cases h;rw[(R.ev_fl h' (by simp)).1];exact e
    |_=>simp[h']at h
   cases e
theorem Zh5(R:RS h0 ω0 ω ρ st us X0){x:T_}{b hi:Option T_}{v:PV}(e:cv (b.map (·.t7 st.sl)) (hi.map (·.t7 st.sl)) (x.t7 st.sl)=some v):Out2 (.substr x b hi) us h0 ω0 v st:=by cases e
theorem ZiH(R:RS h0 ω0 ω ρ st us X0){x y:T_}{v:PV}(e:dU (x.t7 st.sl) (y.t7 st.sl)=some v):Out2 (.index x y) us h0 ω0 v st:=by cases e
theorem Zkc(R:RS h0 ω0 ω ρ st us X0){x:T_}{v:PV}(e:fG (x.t7 st.sl)=some v):Out2 (.lenT x) us h0 ω0 v st:=by cases e
theorem Zkq(R:RS h0 ω0 ω ρ st us X0){x y:T_}{v:PV}(e:Un (x.t7 st.sl) (y.t7 st.sl)=some v):Out2 (.minI x y) us h0 ω0 v st:=by
 unfold Un at e;split at e
 ·rename_i a b i g;cases e;exact .flat R rfl (by simp[Af,(R.ev_fl i (by simp)).1,(R.ev_fl g (by simp)).1]) rfl
 cases e
theorem ZkL(R:RS h0 ω0 ω ρ st us X0){x y:T_}{v:PV}(e:Uq (x.t7 st.sl) (y.t7 st.sl)=some v):Out2 (.maxI x y) us h0 ω0 v st:=by
 unfold Uq at e;split at e
 ·rename_i a b i g;cases e;exact .flat R rfl (by simp[Af,(R.ev_fl i (by simp)).1,(R.ev_fl g (by simp)).1]) rfl
 cases e
theorem ZkV(R:RS h0 ω0 ω ρ st us X0){x:T_}{v:PV}(e:UA (x.t7 st.sl)=some v):Out2 (.len x) us h0 ω0 v st:=by
 unfold UA at e;split at e
 ·rename_i q es i;cases e;obtain⟨hd,_,r⟩:=R.ev_one i (λ_ h=>(by cases h)) (λ_ h=>(by cases h)) (λ_ h=>(by cases h));generalize g:x.ev us.sl=u at r;cases r with
  |nil=>exact .flat R rfl (by simp[Af,g]) rfl
  |sl _ _ _ l o n b h1 z A C j t s y=>subst j;exact .flat R rfl (by simp[Af,g]) rfl
 cases e
theorem ZjW(R:RS h0 ω0 ω ρ st us X0){x:T_}{v:PV}(e:fw (x.t7 st.sl)=some v):Out2 (.bstr x) us h0 ω0 v st:=by cases e
end
structure SR (h:Ac) (ω:Nat->W) (m:Md) (q:Ql) (es:List (List PV)) (l o:Nat) (b:Blk):Prop where
 hb:h[l]?=some b
 hk:b.k≠.dead
 hc:chk ω m q l o b
 hw:∀e∈es,e.length=b.w
 hle:o+es.length*b.w<=b.cs.length
 hr:∀k,k<es.length*b.w->RC h ω (m.sub q k) (Aa es.flatten k) (get b.cs (o+k))
theorem SR.sl{h:Ac}{ω:Nat->W}{m:Md}{q:Ql}{es:List (List PV)}{l o:Nat}{b:Blk}(s:SR h ω m q es l o b)(g:(q= .own\/∃a p,q= .i6 a p true)->es≠[]):RC h ω m (.sl q es) (.slice l o es.length):=.sl _ _ _ _ _ _ b s.hb s.hk s.hc (λ_=>g) rfl s.hw s.hle s.hr
theorem SR.ep{h:Ac}{ω:Nat->W}{m:Md}{q:Ql}{es:List (List PV)}{l o:Nat}{b:Blk}(s:SR h ω m q es l o b)(g:q.isOwn=false)(j o':Nat):RC h ω m (.ep q es j o') (.ptr l (o+j*b.w+o')):=.ep _ _ _ _ _ _ _ _ b s.hb s.hk g s.hc s.hw s.hle s.hr rfl
theorem RC.inn_un{h:Ac}{ω:Nat->W}{hd:Hd}{p:List Nat}{v:PV}{u:V}(r:RC h ω (.inn hd p) v u):RC h ω (.un hd) v u:=by
 refine r.map (S:=λm i=>((∃p,m= .inn hd p)/\i= .un hd)\/(m= .fz/\i= .fz)) ?_ ?_ (by simp) (by rintro m i (⟨⟨p,rfl⟩,rfl⟩|⟨rfl,rfl⟩) e<;>first|rfl|exact e) (.inl ⟨⟨p,rfl⟩,rfl⟩)
 ·rintro m i q k (⟨⟨p,rfl⟩,rfl⟩|⟨rfl,rfl⟩)
  ·cases q
   ·exact .inr ⟨rfl,rfl⟩
   ·exact .inl ⟨⟨_,rfl⟩,rfl⟩
   ·exact .inl ⟨⟨_,rfl⟩,rfl⟩
   ·exact .inr ⟨rfl,rfl⟩
   exact .inr ⟨rfl,rfl⟩
  exact .inr ⟨rfl,rfl⟩
 rintro m i q l o b (⟨⟨p,rfl⟩,rfl⟩|⟨rfl,rfl⟩) j g
 ·cases q with
  |Z_=>exact⟨j,g⟩
  |own=>exact⟨j,.inl ⟨p,g.1⟩⟩
  |i5 w=>exact⟨j,.inl ⟨p,g.1⟩⟩
  |i6=>exact g.elim
  |pre=>exact g.elim
 exact⟨j,g⟩
def Weak(hd:Hd)(p:List Nat):Ql->Ql->Nat->Prop
 |.Z_,.Z_,_=>True|.own,.i6 a b t,l=>a=hd/\b=p/\(t=true->l=0)|.i5 _,.i6 a b t,l=>a=hd/\b=p/\(t=true->l=0)|.own,.pre a b,l=>a=hd/\b=p/\l=0|.i5 _,.pre a b,l=>a=hd/\b=p/\l=0|.i6 a b t,.i6 a' b' t',l=>a=a'/\b=b'/\(t'=true->t=true/\l=0)|.i6 a b t,.pre a' b',l=>a=a'/\b=b'/\t=true/\l=0|.pre a b,.i6 a' b' t',l=>a=a'/\b=b'/\(t'=true->l=0)|.pre a b,.pre a' b',l=>a=a'/\b=b'/\l=0|_,_,_=>False
theorem Weak.any{hd:Hd}{p:List Nat}{q q':Ql}{l:Nat}(h:Weak hd p q q' 1):Weak hd p q q' l:=by
 cases q<;>cases q'<;>simp only[Weak,Nat.one_ne_zero,imp_false,and_false]at h ⊢<;>first|exact h|exact h.elim|skip
 ·exact⟨h.1,h.2.1,λe=>absurd e h.2.2⟩
 ·exact⟨h.1,h.2.1,λe=>absurd e h.2.2⟩
 ·exact⟨h.1,h.2.1,λe=>absurd e h.2.2⟩
 exact⟨h.1,h.2.1,λe=>absurd e h.2.2⟩
theorem SR.weak{h:Ac}{ω:Nat->W}{hd f_:Hd}{p p':List Nat}{q q':Ql}{es:List (List PV)}{l o:Nat}{b:Blk}(s:SR h ω (.at hd p) q es l o b){l0 n0:Nat}(j:Weak hd p q q' l0)(F:l0+n0<=es.length):SR h ω (.at f_ p') q' ((es.drop l0).take n0) l (o+l0*b.w) b:=by
 have x:∀e∈(es.drop l0).take n0,e.length=b.w:=λe J=>s.hw e (List.mem_of_mem_drop (LZ J));have n:((es.drop l0).take n0).length=n0:=by simp;omega
 have y:∀k,k<n0*b.w->Aa ((es.drop l0).take n0).flatten k=Aa es.flatten (l0*b.w+k):=by
  intro k u;have t:0<b.w:=(by rcases fq b.w with h|h;rw[h]at u;simp at u;exact h);have I:=LQ x (k / b.w) (k % b.w) (Ii _ t);have G:=LQ s.hw (l0+k / b.w) (k % b.w) (Ii _ t);have hd1:k / b.w*b.w+k % b.w=k:=(by rw[LX];exact O9 k b.w);rw[hd1]at I;rw[D2,Ug,hd1]at G;rw[I,G,Rj,Rj,OV ((T9 t).2 u),L4]
 refine⟨s.hb,s.hk,?_,x,?_,?_⟩
 ·have g:=s.hc;cases q<;>cases q'<;>first|exact g|exact j.elim|skip
  ·obtain⟨rfl,rfl,i⟩:=j;exact⟨.inl ⟨_,g.1⟩,λe=>⟨g.1,by rw[i e,g.2.1];simp⟩⟩
  ·obtain⟨rfl,rfl,i⟩:=j;exact⟨g.1,by rw[i,g.2.1];simp⟩
  ·obtain⟨rfl,rfl,i⟩:=j;exact⟨.inl ⟨_,g.1⟩,λe=>⟨g.1,by rw[i e,g.2.1];simp⟩⟩
  ·obtain⟨rfl,rfl,i⟩:=j;exact⟨g.1,by rw[i,g.2.1];simp⟩
  ·obtain⟨rfl,rfl,i⟩:=j;refine⟨g.1,λe=>?_⟩;obtain⟨D,C⟩:=i e;obtain⟨A,z⟩:=g.2 D;exact⟨A,by rw[C,z];simp⟩
  ·obtain⟨rfl,rfl,D,C⟩:=j;obtain⟨A,z⟩:=g.2 D;exact⟨A,by rw[C,z];simp⟩
  ·obtain⟨rfl,rfl,i⟩:=j;exact⟨.inl ⟨_,g.1⟩,λe=>⟨g.1,by rw[i e,g.2];simp⟩⟩
  obtain⟨rfl,rfl,i⟩:=j;exact⟨g.1,by rw[i,g.2];simp⟩
 ·rw[n];have:=s.hle;have h1:(l0+n0)*b.w<=es.length*b.w:=Hz _ F;rw[D2]at h1;omega
 intro k u;rw[n]at u;rw[y k u];have h1:(l0+n0)*b.w<=es.length*b.w:=Hz _ F;rw[D2]at h1;have r:=s.hr (l0*b.w+k) (by omega);rw[show o+l0*b.w+k=o+(l0*b.w+k) by omega];cases q<;>cases q'<;>first|exact r|exact j.elim|(obtain⟨rfl,rfl,_⟩:=j;exact r.inn_un)|(obtain⟨rfl,rfl,_⟩:=j;exact r)
section
variable {h0:Ac} {ω0 ω:Nat->W} {ρ:Nat->Nat} {st st1:PS} {us:St} {X:CN}
theorem RS.ev_nobx(R:RS h0 ω0 ω ρ st us X)(x:T_)(p:List Nat):Cs ((x.t7 st.sl).S_ p):=by
 cases x with
 |t t=>exact λi j g=>R.nx (.s t) p i j g
 | c v=>
   intro i j g e;have b:=mK e;simp only[T_.t7]at b;unfold BT at b;split at b<;>simp[PV.i6,PV.borL]at b
theorem RC.scalar{h:Ac}{ω:Nat->W}{m:Md}{v:PV}{u:V}(r:RC h ω m v u)(b:∀a,v≠.fl a):(∀us,u≠.agg us)/\∀us,u≠.f8 us:=by
 cases r with
 |undef=>exact absurd rfl (b _)
 |v=>exact absurd rfl (b _)
 |_=>exact⟨λ_ h=>(by cases h),λ_ h=>(by cases h)⟩
theorem RS.hand1(R:RS h0 ω0 ω ρ st us X0){v:PV}{u:V}{hd:Hd}{p0:List Nat}(n:RC us.hp ω (.at hd p0) v u)(h1:∀cs,v≠.agg cs)(z:∀A,v≠.f8 A)(y:∀a,v≠.fl a)(s:v.qo=false)(C:Cs v):RS h0 ω0 ω ρ st us (X1 v u):=by
 obtain⟨x,t⟩:=n.scalar y;have g:∀p,(v.S_ p=v/\u.S_ p=u)\/v.S_ p= .fl .undef:=by
  intro p;unfold PV.S_;split<;>first|exact .inr rfl|(exact absurd rfl (h1 _))|(exact absurd rfl (z _))|skip
  exact .inl ⟨rfl,FX x t⟩
 refine R.hand (hd:=hd) ?_ (λp=>?_) (λp=>?_) (λp=>?_)
 ·cases v<;>first|exact⟨x,t⟩|exact absurd rfl (h1 _)|exact absurd rfl (z _)|exact absurd rfl (y _)
 ·rcases g p with⟨b,j⟩|e
  ·rw[b,j];exact n.any s
  rw[e];exact .undef _ _
 ·rcases g p with⟨b,j⟩|e
  ·rw[b];exact s
  rw[e];rfl
 rcases g p with⟨b,j⟩|e
 ·rw[b];exact C
 rw[e];exact λi F D=>by simp[PV.q]
theorem Zin(R:RS h0 ω0 ω ρ st us X0){x:T_}{v:PV}(e:Yh (x.t7 st.sl)=some v):Out2 (.z_ x) us h0 ω0 v st:=by
 unfold Yh at e;split at e
 ·rename_i i o n;cases e;obtain⟨hd,_,r⟩:=R.ev_one n (λ_ h=>(by cases h)) (λ_ h=>(by cases h)) (λ_ h=>(by cases h));have r':=r;generalize g:x.ev us.sl=u at r;rw[g]at r';cases r;exact⟨_,_,_,ω,ρ,by simp[Af,g],R.hand1 r' (λ_ h=>(by cases h)) (λ_ h=>(by cases h)) (λ_ h=>(by cases h)) rfl (λi y t=>by simp[PV.q])⟩
 ·rename_i i o n;cases e;obtain⟨hd,_,r⟩:=R.ev_one n (λ_ h=>(by cases h)) (λ_ h=>(by cases h)) (λ_ h=>(by cases h));have r':=r;generalize g:x.ev us.sl=u at r;rw[g]at r';cases r;exact⟨_,_,_,ω,ρ,by simp[Af,g],R.hand1 r' (λ_ h=>(by cases h)) (λ_ h=>(by cases h)) (λ_ h=>(by cases h)) rfl (λi y t=>by simp[PV.q])⟩
 ·rename_i q es j o n;cases e;obtain⟨hd,_,r⟩:=R.ev_one n (λ_ h=>(by cases h)) (λ_ h=>(by cases h)) (λ_ h=>(by cases h));have s:=R.ev_nobx x [0];rw[n]at s;have r':=r;generalize g:x.ev us.sl=u at r;rw[g]at r';cases r with
  | ep _ _ _ _ _ l o1 p b h1 hk hq hc hw hle hr hp=>
    exact⟨_,_,_,ω,ρ,by simp[Af,g],R.hand1 r' (λ_ h=>(by cases h)) (λ_ h=>(by cases h)) (λ_ h=>(by cases h)) rfl s⟩
 cases e
theorem Zg4(R:RS h0 ω0 ω ρ st us X0){off:Nat}{x:T_}{v:PV}(e:XV off (x.t7 st.sl)=some v):Out2 (.f5 off x) us h0 ω0 v st:=by
 unfold XV at e;split at e
 ·rename_i i o g;cases e;obtain⟨hd,_,r⟩:=R.ev_one g (λ_ h=>(by cases h)) (λ_ h=>(by cases h)) (λ_ h=>(by cases h));generalize n:x.ev us.sl=u at r;cases r;exact⟨_,_,_,ω,ρ,by simp[Af,n],R.hand1 (.box (.at hd [0]) i (o+off)) (λ_ h=>(by cases h)) (λ_ h=>(by cases h)) (λ_ h=>(by cases h)) rfl (λi t s=>by simp[PV.q])⟩
 ·rename_i i o g;cases e;obtain⟨hd,_,r⟩:=R.ev_one g (λ_ h=>(by cases h)) (λ_ h=>(by cases h)) (λ_ h=>(by cases h));generalize n:x.ev us.sl=u at r;cases r with
  | ptr _ _ _ _ l hl=>
    exact⟨_,_,_,ω,ρ,by simp[Af,n],R.hand1 (.ptr hd [0] i (o+off) l hl) (λ_ h=>(by cases h)) (λ_ h=>(by cases h)) (λ_ h=>(by cases h)) rfl (λi t s=>by simp[PV.q])⟩
 ·rename_i q es j o g;cases e;obtain⟨hd,_,r⟩:=R.ev_one g (λ_ h=>(by cases h)) (λ_ h=>(by cases h)) (λ_ h=>(by cases h));have y:=R.ev_nobx x [0];rw[g]at y;generalize n:x.ev us.sl=u at r;cases r with
  | ep _ _ _ _ _ l o1 p b h1 hk hq hc hw hle hr hp=>
    refine⟨.ptr l (p+off),us.bx,us.hp,ω,ρ,by simp[Af,n],R.hand1 (hd:=hd) (p0:=[0]) (.ep _ _ _ _ (o+off) _ o1 _ b h1 hk hq hc hw hle hr (by rw[hp];omega)) (λ_ h=>(by cases h)) (λ_ h=>(by cases h)) (λ_ h=>(by cases h)) rfl ?_⟩;intro i t s;have:=y i t s;cases q<;>first|exact this|simp[PV.q]
 cases e
theorem Zgc{x:T_}{l0:Nat}{q q':Ql}{hd:Hd}(e:FK x l0 q=some q')(ht:∀t,x= .t t->hd= .s t):Weak hd [0] q q' l0/\q'.isOwn=false/\∀a p,q'≠.i6 a p true:=by
 cases q with
 |Z_=>simp[FK]at e;subst e;exact⟨trivial,rfl,by simp⟩
 | own=>
   cases x with
   | t n=>
     simp only[FK,Ap]at e;subst e;split
     ·exact⟨⟨(ht n rfl).symm,rfl,‹_›⟩,rfl,by simp⟩
     exact⟨⟨(ht n rfl).symm,rfl,λh=>by cases h⟩,rfl,by simp⟩
   |c v=>simp[FK]at e
 |i5 w=>simp[FK]at e
 | i6 a b t=>
   simp only[FK,Ap]at e;subst e;split
   ·rename_i h;exact⟨⟨rfl,rfl,h.1,h.2⟩,rfl,by simp⟩
   exact⟨⟨rfl,rfl,λh=>by cases h⟩,rfl,by simp⟩
 | pre a b=>
   simp only[FK,Ap]at e;subst e;split
   ·exact⟨⟨rfl,rfl,‹_›⟩,rfl,by simp⟩
   exact⟨⟨rfl,rfl,λh=>by cases h⟩,rfl,by simp⟩
theorem ZgG{x:T_}{q q':Ql}{hd:Hd}(e:FJ x q=some q')(ht:∀t,x= .t t->hd= .s t):Weak hd [0] q q' 0/\q'.isOwn=false:=by
 cases q with
 |Z_=>simp[FJ]at e;subst e;exact⟨trivial,rfl⟩
 | own=>
   cases x with
   |t n=>simp[FJ]at e;subst e;exact⟨⟨(ht n rfl).symm,rfl,λ_=>rfl⟩,rfl⟩
   |c v=>simp[FJ]at e
 |i5 w=>simp[FJ]at e
 |i6 a b t=>simp[FJ]at e;subst e;exact⟨⟨rfl,rfl,λh=>⟨h,rfl⟩⟩,rfl⟩
 |pre a b=>simp[FJ]at e;subst e;exact⟨⟨rfl,rfl,λ_=>rfl⟩,rfl⟩
def Ql.hd:Ql->Option Hd
 |.i6 h _ _=>some h|.pre h _=>some h|_=>none
theorem sA{v:PV}{i:Nat}{g:List Nat}{b:Bool}(h:v.q=some (.i6 (.x i) g b)):(∃q es,v= .sl q es/\q.hd=some (.x i))\/∃q es j o,v= .ep q es j o/\q.hd=some (.x i):=by
 cases v with
 |sl q es=>left;refine⟨q,es,rfl,?_⟩;cases q<;>simp[PV.q]at h<;>simp[Ql.hd,h.1]
 |ep q es j o=>right;refine⟨q,es,j,o,rfl,?_⟩;cases q<;>simp[PV.q]at h<;>simp[Ql.hd,h.1]
 |_=>simp[PV.q]at h
theorem r8(R:RS h0 ω0 ω ρ st us X){x:T_}{q:Ql}{es:List (List PV)}(g:x.t7 st.sl= .sl q es)(i:Nat):q.hd≠some (.x i):=by
 intro h;cases q with
 |i6 a b t=>have:=R.ev_nobx x [0] i b t;rw[g]at this;simp[Ql.hd]at h;subst h;exact this rfl
 |pre a b=>have:=R.ev_nobx x [0] i b true;rw[g]at this;simp[Ql.hd]at h;subst h;exact this rfl
 |_=>simp[Ql.hd]at h
theorem Zis(R:RS h0 ω0 ω ρ st us X){x:T_}{l0:Nat}{q q':Ql}{es:List (List PV)}(g:x.t7 st.sl= .sl q es)(e:FK x l0 q=some q')(i:Nat):q'.hd≠some (.x i):=by
 have:=r8 R g i;cases q with
 |Z_=>simp[FK]at e;subst e;simp[Ql.hd]
 |own=>cases x<;>simp[FK]at e;subst e;split<;>simp[Ql.hd]
 |i5 w=>simp[FK]at e
 |i6 a b t=>simp only[FK,Ap]at e;subst e;split<;>exact this
 |pre a b=>simp only[FK,Ap]at e;subst e;split<;>exact this
theorem Ziz(R:RS h0 ω0 ω ρ st us X){x:T_}{q q':Ql}{es:List (List PV)}(g:x.t7 st.sl= .sl q es)(e:FJ x q=some q')(i:Nat):q'.hd≠some (.x i):=by
 have:=r8 R g i;cases q with
 |Z_=>simp[FJ]at e;subst e;simp[Ql.hd]
 |own=>cases x<;>simp[FJ]at e;subst e;simp[Ql.hd]
 |i5 w=>simp[FJ]at e
 |i6 a b t=>simp[FJ]at e;subst e;exact this
 |pre a b=>simp[FJ]at e;subst e;exact this
theorem Zhl(R:RS h0 ω0 ω ρ st us X0){w:Nat}{x i:T_}{v:PV}(e:Tx w x (x.t7 st.sl) (i.t7 st.sl)=some v):Out2 (.m_ w x i) us h0 ω0 v st:=by
 unfold Tx at e;split at e
 ·rename_i q es k j F hi;split at e
  ·rename_i z;obtain⟨N,c2,M⟩:=z;simp only[Ch]at e;obtain⟨q',G,rfl⟩:=e;obtain⟨hd,ht,r⟩:=R.ev_one F (λ_ h=>(by cases h)) (λ_ h=>(by cases h)) (λ_ h=>(by cases h));have y:=(R.ev_fl hi (by simp)).1;obtain⟨g,t⟩:=ZgG G ht;generalize I:x.ev us.sl=u at r;cases r with
   |nil=>simp at c2;omega
   | sl _ _ _ l o n b h1 hk z f9 hn hw hle hr=>
     subst hn;have s:SR us.hp ω (.at hd [0]) q es l o b:=⟨h1,hk,z,hw,hle,hr⟩;have D:=s.weak (f_:=hd) (p':=[0]) (l0:=0) (n0:=es.length) g (by omega);simp only[Hy,F6,LW,Fg]at D;have A:b.w=w:=by
      have J:(es[j.toNat]'(by omega)).length=b.w:=hw _ (Fc _);rw[<- J];exact(Jl w es).1 M _ (Fc _)
     refine⟨.ptr l (o+j.toNat*w),us.bx,us.hp,ω,ρ,by simp[Af,I,y,N,c2],R.hand1 (u:=.ptr l (o+j.toNat*w)) (hd:=hd) (p0:=[0]) (by have:=D.ep t j.toNat 0;rw[A]at this;exact this) (λ_ h=>(by cases h)) (λ_ h=>(by cases h)) (λ_ h=>(by cases h)) ?_ ?_⟩
     ·rfl
     intro a U O e;rcases sA e with⟨_,_,C,_⟩|⟨q,es,j,o,C,L⟩
     ·cases C
     cases C;exact Ziz R F G a L
  cases e
 cases e
theorem ZiA(R:RS h0 ω0 ω ρ st us X0){w:Nat}{x:T_}{z hi:Option T_}{v:PV}(e:T0 w x (z.map (·.t7 st.sl)) (hi.map (·.t7 st.sl)) (x.t7 st.sl)=some v):Out2 (.slice w x z hi) us h0 ω0 v st:=by
 unfold T0 at e;split at e
 ·rename_i q es I;split at e
  ·rename_i l0 j L O;split at e
   ·rename_i F;obtain⟨c1,c2,c3,Z⟩:=F;simp only[Ch]at e;obtain⟨q',J,rfl⟩:=e;obtain⟨hd,ht,r⟩:=R.ev_one I (λ_ h=>(by cases h)) (λ_ h=>(by cases h)) (λ_ h=>(by cases h));obtain⟨g,i,D⟩:=Zgc J ht;have A:Weak hd [0] q q' l0:=by
     cases z with
     |none=>have:l0=0:=(Di L).symm;subst this;exact g
     |some z=>exact g.any
    generalize N:x.ev us.sl=u at r;cases r with
    |nil=>simp at c3
    | sl _ _ _ l o n b h1 hk F f9 hn hw hle hr=>
      subst hn;have s:SR us.hp ω (.at hd [0]) q es l o b:=⟨h1,hk,F,hw,hle,hr⟩;have M:=s.weak (f_:=hd) (p':=[0]) (l0:=l0) (n0:=j-l0) A (by omega);have y:b.w=w:=by
       have U:(es[0]'c3).length=b.w:=hw _ (Fc _);rw[<- U];exact(Jl w es).1 Z _ (Fc _)
      have t:((es.drop l0).take (j-l0)).length=j-l0:=(by simp;omega);have C:EO us.hp l=some w:=(by simp[EO,h1,y]);refine⟨.slice l (o+l0*w) (j-l0),us.bx,us.hp,ω,ρ,by simp[Af,N,lk R L,lk R O,c1,c2,C],R.hand1 (u:=.slice l (o+l0*w) (j-l0)) (hd:=hd) (p0:=[0]) (by have:=M.sl (λe=>by rcases e with e|⟨a,p,e⟩;(· rw[e]at i;cases i);(· exact absurd e (D a p)));rw[y,t]at this;exact this) (λ_ h=>(by cases h)) (λ_ h=>(by cases h)) (λ_ h=>(by cases h)) ?_ ?_⟩
      ·exact i
      intro a pb tp e;rcases sA e with⟨q,es,G,Y⟩|⟨_,_,_,_,G,_⟩
      ·cases G;exact Zis R I J a Y
      cases G
   cases e
  cases e
 cases e
end
def Ren.seg(a:Hd)(o n:Nat)(b:Hd)(o':Nat):Ren:=λhd p=>match p with
 |[]=>.own hd []|c::r=>if hd=a/\o<=c/\c<o+n then .own b ((c-o+o')::r)else if hd=b/\o'<=c/\c<o'+n then .Z_ else .own hd (c::r)
theorem Ren.seg_ok{a:Hd}{o n:Nat}{b:Hd}{o':Nat}(q:a≠b):(Ren.seg a o n b o').Ok:=by
 refine⟨λhd p f_ p' x c e g=>?_,λhd p=>?_⟩
 ·unfold Ren.seg at e g;split at e
  ·cases e;split at g
   ·cases g;exact⟨rfl,rfl⟩
   split at g
   ·cases g
   split at g<;>cases g
  split at e
  ·rename_i h1;cases e;split at g
   ·cases g
   split at g
   ·rename_i i;simp only[W.own.injEq,GJ,GD]at g;obtain⟨y,rfl⟩:=g;obtain⟨rfl,j,u⟩:=h1;obtain⟨rfl,t,s⟩:=i;refine⟨rfl,?_⟩;congr 1;omega
   split at g
   ·cases g
   rename_i i j;simp only[W.own.injEq,GJ]at g;obtain⟨rfl,rfl,rfl⟩:=g;exact absurd ⟨rfl,by omega,by omega⟩ j
  split at e
  ·cases e
  rename_i h1 i;cases e;split at g
  ·cases g
  split at g
  ·rename_i j;simp only[W.own.injEq,GJ]at g;obtain⟨rfl,rfl,rfl⟩:=g;exact absurd ⟨rfl,by omega,by omega⟩ i
  split at g
  ·cases g
  cases g;exact⟨rfl,rfl⟩
 unfold Ren.seg;split
 ·exact .inr ⟨_,_,rfl⟩
 split
 ·exact .inr ⟨_,_,rfl⟩
 split
 ·exact .inl rfl
 exact .inr ⟨_,_,rfl⟩
theorem Ren.u_{a:Hd}{o n:Nat}{b:Hd}{o':Nat}{c:Hd}(h1:c≠a)(g:c≠b):(Ren.seg a o n b o').still c:=λp=>by
 unfold Ren.seg;split<;>simp[h1,g]
theorem Ren.seg_mv{a:Hd}{o n:Nat}{b:Hd}{o' c:Nat}(h1:o<=c)(g:c<o+n)(r:List Nat):Ren.seg a o n b o' a (c::r)= .own b ((c-o+o')::r):=by simp[Ren.seg,h1,g]
theorem Ren.seg_rest_a{a:Hd}{o n:Nat}{b:Hd}{o' c:Nat}(g:a≠b)(h:¬(o<=c/\c<o+n))(r:List Nat):Ren.seg a o n b o' a (c::r)= .own a (c::r):=by
 simp only[Ren.seg,GD,Ae h];rw[Ae (λh=>g h.1)]
theorem Ren.seg_rest_b{a:Hd}{o n:Nat}{b:Hd}{o' c:Nat}(g:a≠b)(h:¬(o'<=c/\c<o'+n))(r:List Nat):Ren.seg a o n b o' b (c::r)= .own b (c::r):=by
 simp only[Ren.seg,GD,Ae h];rw[Ae (λh=>g h.1.symm)]
theorem fF{a:Hd}{o n:Nat}{b:Hd}{o':Nat}(g:∀i,b≠.h i)(hd:Hd)(p:List Nat)(i:Nat)(q:List Nat)(e:Ren.seg a o n b o' hd p= .own (.h i) q):hd= .h i:=by
 unfold Ren.seg at e;split at e
 ·simp at e;exact e.1
 split at e
 ·simp at e;exact absurd e.1 (g i)
 split at e
 ·cases e
 simp at e;exact e.1
section
variable {h0:Ac} {ω0 ω:Nat->W} {ρ:Nat->Nat} {st st1:PS} {us:St} {X:CN}
theorem RS.f'(R:RS h0 ω0 ω ρ st us X)(x:T_)(i:Nat)(hi:∀p,(X i).1.S_ p= .fl .undef)(u:∀n j,(X j).1.i6 (.s n)=false):∃ω',RS h0 ω0 ω' ρ (Ag.f' x st).2 us (Xs X i (Ag.f' x st).1 (x.ev us.sl)):=by
 cases x with
 |t n=>exact R.take n i hi (u n)
 | c v =>
   obtain⟨h1,y⟩:=pt v us.hp ω (.x i);refine⟨ω,?_⟩;have:=RS.ren (f4:=st) (v_:=us) (X':=Xs X i (BT v) v) R Ren.id_ok (λhd p i q e=>by simp[Ren.id]at e;exact e.1) (λf_ p=>?_) rfl R.sh (λj=>?_) R.lsl R.lbx R.lb R.cb R.ch rfl (λ_=>rfl)
   ·rwa [DF]at this
   ·cases f_ with
    | x j=>
      by_cases g:j=i
      ·subst g;refine .inr ?_;rw[DF];simp only[Ak,Xs,Ad];exact⟨R.ev_nobx (.c v) p,y p⟩
      exact .inl (Bv (by simp[Ak,Xs,g]))
    |s t=>exact .inl (Bv rfl)
    |b t=>exact .inl (Bv rfl)
    |h t=>exact .inl (Bv rfl)
   unfold Xs;split
   ·exact h1
   exact R.shx j
theorem Zkj(n j:Nat):(X0 j).1.i6 (.s n)=false:=rfl
theorem RS.mv0(R:RS h0 ω0 ω ρ st us X0)(x:T_):∃ω',RS h0 ω0 ω' ρ (Ag.f' x st).2 us (X1 (Ag.f' x st).1 (x.ev us.sl)):=R.f' x 0 (λp=>Ba p) Zkj
theorem XL(v:PV)(p:List Nat):v.fz.S_ p=(v.S_ p).fz\/v.fz.S_ p= .fl .undef:=by
 have b:∀(cs:List PV) c,Aa (PV.fzL cs) c=(Aa cs c).fz:=by
  intro cs;induction cs with
  |nil=>intro c;rfl
  | cons x r ih=>intro c;cases c with
    |zero=>rfl
    |succ c=>exact ih c
 cases v with
 | agg cs=>
   match p with
   |[c]=>exact .inl (b cs c)
   |[]=>exact .inr rfl
   |_::_::_=>exact .inr rfl
 | f8 vs=>
   match p with
   | [i,c]=>
     refine .inl ?_;show Aa (Aa (PV.fzL vs) i).cells c=(Aa (Aa vs i).cells c).fz;rw[b];generalize Aa vs i=w;cases w with
     |agg cs=>exact b cs c
     |_=>cases c<;>rfl
   |[]=>exact .inr rfl
   |[_]=>exact .inr rfl
   |_::_::_::_=>exact .inr rfl
 | sl q es=>
   match p with
   |[0]=>exact .inl rfl
   |[]=>exact .inr rfl
   |(_+1)::_=>exact .inr rfl
   |0::_::_=>exact .inr rfl
 | ep q es j o=>
   match p with
   |[0]=>exact .inl rfl
   |[]=>exact .inr rfl
   |(_+1)::_=>exact .inr rfl
   |0::_::_=>exact .inr rfl
 | fl x=>
   match p with
   |[0]=>exact .inl rfl
   |[]=>exact .inr rfl
   |(_+1)::_=>exact .inr rfl
   |0::_::_=>exact .inr rfl
 | box i o=>
   match p with
   |[0]=>exact .inl rfl
   |[]=>exact .inr rfl
   |(_+1)::_=>exact .inr rfl
   |0::_::_=>exact .inr rfl
 | ptr i o=>
   match p with
   |[0]=>exact .inl rfl
   |[]=>exact .inr rfl
   |(_+1)::_=>exact .inr rfl
   |0::_::_=>exact .inr rfl
theorem RC.fzo {h:Ac} {ω ω':Nat->W} {hd f_:Hd} {p p':List Nat} {v:PV} {u:V} (A:∀l,ω l= .Z_->ω' l= .Z_) (C:∀l q,ω l= .own hd q->ω' l= .Z_) (hp:∀l i,ω l= .ptr i->ω' l= .ptr i)
 (r:RC h ω (.at hd p) v u) (t:∀t F D,v.q≠some (.i6 t F D)) (hs:∀cs,v≠.agg cs) (ht:∀cs,v≠.f8 cs):RC h ω' (.at f_ p') v.fz u:=by
 have z:∀ {v:PV} {u:V} {p:List Nat},RC h ω (.inn hd p) v u->RC h ω' .fz v u:=by
  intro v u p r;refine r.map (S:=λm x=>((∃p,m= .inn hd p)\/m= .fz)/\x= .fz) ?_ ?_ (by simp) (by rintro m x ⟨_,rfl⟩ e;cases e) ⟨.inl ⟨p,rfl⟩,rfl⟩
  ·rintro m x q k ⟨⟨p,rfl⟩|rfl,rfl⟩
   ·cases q
    ·exact⟨.inr rfl,rfl⟩
    ·exact⟨.inl ⟨_,rfl⟩,rfl⟩
    ·exact⟨.inl ⟨_,rfl⟩,rfl⟩
    ·exact⟨.inr rfl,rfl⟩
    exact⟨.inr rfl,rfl⟩
   exact⟨.inr rfl,rfl⟩
  rintro m x q l o b ⟨⟨p,rfl⟩|rfl,rfl⟩ t g
  ·cases q with
   |Z_=>exact⟨t,A l g⟩
   |own=>exact⟨t,C l _ g.1⟩
   |i5 w=>exact⟨t,C l _ g.1⟩
   |i6=>exact g.elim
   |pre=>exact g.elim
  exact⟨t,A l g⟩
 have y:∀ {v:PV} {u:V},RC h ω .fz v u->RC h ω' .fz v u:=by
  intro v u r;refine r.map (S:=λm x=>m= .fz/\x= .fz) ?_ ?_ (by simp) (by rintro m x ⟨rfl,rfl⟩ e;exact e) ⟨rfl,rfl⟩
  ·rintro m x q k ⟨rfl,rfl⟩;exact⟨rfl,rfl⟩
  rintro m x q l o b ⟨rfl,rfl⟩ t g;exact⟨t,A l g⟩
 cases r with
 |undef _=>exact .undef _ _
 |v _ _ G=>exact .v _ _ G
 |nil _ q=>exact .nil _ _
 | sl _ q es l o n b h1 s g f9 hn hw hle hr=>
   cases q with
   |i6 a c d=>exact absurd rfl (t a c d)
   |pre a c=>exact absurd rfl (t a c true)
   |Z_=>exact .sl _ _ _ _ _ _ b h1 s (A l g) (λ_ e=>by simp at e) hn hw hle λk s=>y (hr k s)
   |own=>exact .sl _ _ _ _ _ _ b h1 s (C l _ g.1) (λ_ e=>by simp at e) hn hw hle λk s=>z (hr k s)
   |i5 w=>exact .sl _ _ _ _ _ _ b h1 s (C l _ g.1) (λ_ e=>by simp at e) hn hw hle λk s=>z (hr k s)
 | ep _ q es j o' l o p2 b h1 s hqo g hw hle hr hp'=>
   cases q with
   |i6 a c d=>exact absurd rfl (t a c d)
   |pre a c=>exact absurd rfl (t a c true)
   |Z_=>exact .ep _ _ _ _ _ _ _ _ b h1 s rfl (A l g) hw hle (λk s=>y (hr k s)) hp'
   |own=>cases hqo
   |i5 w=>cases hqo
 |box _ i o=>exact .box _ _ _
 |ptr _ _ i o l I=>exact .ptr _ _ _ _ l (hp l i I)
theorem S9{v:PV}(h:v.retok=true)(p:List Nat):(∀n i g,(v.S_ p).q≠some (.i6 n i g))/\(∀cs,v.S_ p≠.agg cs)/\(∀cs,v.S_ p≠.f8 cs):=by
 have s:∀w:PV,w.retc=true->(∀n i g,w.q≠some (.i6 n i g))/\(∀cs,w≠.agg cs)/\(∀cs,w≠.f8 cs):=by
  intro w t;cases w with
  | sl q es=>
    refine⟨λn i g e=>?_,λ_ h=>(by cases h),λ_ h=>(by cases h)⟩;cases q<;>simp[PV.q]at e<;>simp[PV.retc,PV.cell]at t
  |ep q es j o=>simp[PV.retc,PV.cell]at t
  |box=>simp[PV.retc,PV.cell]at t
  |agg=>simp[PV.retc,PV.cell]at t
  |f8=>simp[PV.retc,PV.cell]at t
  |fl x=>exact⟨λ_ _ _ h=>by simp[PV.q]at h,λ_ h=>(by cases h),λ_ h=>(by cases h)⟩
  |ptr=>exact⟨λ_ _ _ h=>by simp[PV.q]at h,λ_ h=>(by cases h),λ_ h=>(by cases h)⟩
 have b:(∀n i g,(PV.fl .undef).q≠some (.i6 n i g))/\(∀cs,PV.fl .undef≠.agg cs)/\(∀cs,PV.fl .undef≠.f8 cs):=⟨λ_ _ _ h=>by simp[PV.q]at h,λ_ h=>(by cases h),λ_ h=>(by cases h)⟩;have y:∀(cs:List PV) c,FI cs=true->(Aa cs c).retc=true\/Aa cs c= .fl .undef:=by
  intro cs;induction cs with
  |nil=>intro c _;exact .inr rfl
  | cons x r ih=>
    intro c u;simp only[FI,Aj]at u;cases c with
    |zero=>exact .inl u.1
    |succ c=>exact ih c u.2
 cases v with
 | agg cs=>
   match p with
   | [c]=>
     rcases y cs c h with h|h
     ·exact s _ h
     show _/\_/\_;simp only[PV.S_,h];exact b
   |[]=>exact b
   |_::_::_=>exact b
 |f8 z=>simp[PV.retok,PV.retc,PV.cell]at h
 | _=>
   match p with
   |[0]=>exact s _ h
   |[]=>exact b
   |(_+1)::_=>exact b
   |0::_::_=>exact b
theorem qR{v:PV}{u:V}(h:A9 v u)(g:v.retok=true):A9 v.fz u:=by
 have n:∀(cs:List PV),(PV.fzL cs).length=cs.length:=by
  intro cs;induction cs with
  |nil=>rfl
  |cons x r b=>simp[PV.fzL,b]
 cases v with
 |agg cs=>obtain⟨ws,h1,i⟩:=h;exact⟨ws,h1,by rw[n];exact i⟩
 |f8 s=>simp[PV.retok,PV.retc,PV.cell]at g
 |sl q es=>exact h
 |ep q es j o=>exact h
 |fl x=>exact h
 |box=>exact h
 |ptr=>exact h
theorem RS.fz0(R:RS h0 ω0 ω ρ st us X0)(x:T_):∃ω',RS h0 ω0 ω' ρ (fzOut x st).2 us (X1 (fzOut x st).1 (x.ev us.sl)):=by
 cases x with
 |c v=>exact R.mv0 (.c v)
 | t n =>
   simp only[fzOut,Zs,T_.ev];split
   ·split
    ·rename_i J D;have y:∀(f_:Hd) (p':List Nat) (p:List Nat),RC us.hp (λl=>Ag.ren (Ren.drop (.s n)) (ω l)) (.at f_ p') ((Aa st.sl n).fz.S_ p) ((get us.sl n).S_ p):=by
      intro f_ p' p;rcases XL (Aa st.sl n) p with e|e
      ·rw[e];obtain⟨h1,F,C⟩:=S9 D p;exact RC.fzo (λl e=>by simp[e,Ag.ren]) (λl q e=>by simp[e,Ag.ren,Ren.drop]) (λl i e=>by simp[e,Ag.ren]) (R.core.rc (.s n) p) h1 F C
      rw[e];exact .undef _ _
     have z:∀p,Cs ((Aa st.sl n).fz.S_ p):=by
      intro p i j g e;rcases XL (Aa st.sl n) p with G|G
      ·rw[G]at e;generalize (Aa st.sl n).S_ p=w at e;cases w<;>simp[PV.fz,PV.q]at e
      rw[G]at e;simp[PV.q]at e
     refine⟨_,RS.ren (X':=X1 (Aa st.sl n).fz (get us.sl n)) R (Ren.drop_ok (.s n)) TS (λf_ p=>?_) rfl (WW R.sh (qR (R.sh n) D)) (λi=>?_) (by simp[F4,Gz,R.lsl]) R.lbx R.lb R.cb R.ch rfl (λ_=>rfl)⟩
     ·cases f_ with
      | x i=>
        by_cases hi:i=0
        ·subst hi;exact .inr ⟨z p,y _ _ p⟩
        exact .inr (A4 (F9 i hi p))
      | s t=>
        simp only[Ak];rcases QY (st:=st) (us:=us) n (Aa st.sl n).fz t R.lsl (get us.sl n)with h|⟨rfl,M,h1,F,C⟩|⟨h1,F,C,N⟩
        ·refine .inr ?_;rw[h];exact Dn (Ba p)
        ·refine .inr ?_;rw[h1];exact⟨z p,y _ _ p⟩
        refine .inl ?_;rw[h1];by_cases u:t=n
        ·subst u;have I:Aa st.sl t= .fl .undef:=GC _ _ (by omega);exact Bm rfl (λe=>by rw[I,Ba]at e;cases e) (λA j g e=>by simp only[I,Ba]at e;simp[PV.q]at e)
        exact Bm rfl (λ_=>Ren.i7 (by simpa using u)) λA j g e L=>Ren.i7 (Ef C e)
      |b t=>exact .inl (Bm rfl (λ_=>Ren.i7 (by simp)) λA j g e=>absurd e (R.nobor_b t p A j g))
      |h t=>exact .inl (Bm rfl (λ_=>Ren.i7 (by simp)) λA j g e=>absurd e (R.nobor_h t p A j g))
     by_cases hi:i=0
     ·subst hi;exact qR (R.sh n) D
     rw[D6 _ _ i hi];exact Bf _
    exact⟨ω,R.hand (hd:=.x 0) (Bf _) (λp=>by rw[Ba];exact .undef _ _) (λp=>by rw[Ba];rfl) (λp i j g=>by rw[Ba];simp[PV.q])⟩
   rename_i J;exact⟨ω,R.hand (hd:=.s n) (R.sh n) (λp=>R.core.rc (.s n) p) (OR (by simpa using J)) (λp i j g=>R.nx (.s n) p i j g)⟩
theorem Zkd(R:RS h0 ω0 ω ρ st us X0){c a b:T_}{t:Bool}(g:c.t7 st.sl= .fl (.bool t)):Out2 (.pick c a b) us h0 ω0 (if t then Ag.f' a st else Ag.f' b st).1 (if t then Ag.f' a st else Ag.f' b st).2:=by
 have e:=(R.ev_fl g (by simp)).1;cases t with
 |true=>obtain⟨ω',h⟩:=R.mv0 a;exact⟨_,_,_,ω',ρ,by simp[Af,e],h⟩
 |false=>obtain⟨ω',h⟩:=R.mv0 b;exact⟨_,_,_,ω',ρ,by simp[Af,e],h⟩
theorem On{v:PV}(h:∀b,v≠.f8 b)(c:Nat):v.S_ [c]=Aa v.cells c:=by
 cases v with
 |agg cs=>rfl
 |f8 b=>exact absurd rfl (h _)
 |_=>cases c<;>rfl
theorem S7{v:V}(h:∀b,v≠.f8 b)(c:Nat):v.S_ [c]=get v.cells c:=by
 cases v with
 |agg cs=>rfl
 |f8 b=>exact absurd rfl (h _)
 |_=>cases c<;>rfl
theorem bA{v:PV}(h:∀b,v≠.f8 b)(p:List Nat):(∃c,p=[c])\/v.S_ p= .fl .undef:=by
 cases v with
 |f8 b=>exact absurd rfl (h _)
 | agg cs=>
   match p with
   |[c]=>exact .inl ⟨c,rfl⟩
   |[]=>exact .inr rfl
   |_::_::_=>exact .inr rfl
 | _=>
   match p with
   |[c]=>exact .inl ⟨c,rfl⟩
   |[]=>exact .inr rfl
   |(_+1)::_::_=>exact .inr rfl
   |0::_::_=>exact .inr rfl
theorem Shp1.shp{v:PV}{u:V}(h:Shp1 v u):A9 v u/\∀b,v≠.f8 b:=by
 cases v with
 |f8 b=>exact h.elim
 |_=>exact⟨h,λ_ h=>(by cases h)⟩
theorem Shp1.notup{v:PV}{u:V}(h:Shp1 v u)(g:v≠.fl .undef):∀b,u≠.f8 b:=by
 cases v with
 |f8 b=>exact h.elim
 |agg cs=>obtain⟨ws,rfl,_⟩:=h;exact λ_ h=>(by cases h)
 |fl x=>cases x<;>first|exact h.2|exact absurd rfl g
 |_=>exact h.2
def Ren.comp(t i:Nat):Ren:=λhd p=>if hd= .s t then (match p with
 |c::r=>if c=i then .own (.x 0) r else .own (.s t) (c::r)|[]=>.own (.s t) [])else if hd= .x 0 then .Z_ else .own hd p
theorem Ren.comp_ok(t i:Nat):(Ren.comp t i).Ok:=by
 refine⟨λhd p f_ p' x c e b=>?_,λhd p=>?_⟩
 ·unfold Ren.comp at e b;split at e
  ·rename_i h1;split at e
   ·split at e
    ·rename_i n;cases e;split at b
     ·rename_i j;split at b
      ·split at b
       ·rename_i q;cases b;exact⟨h1.trans j.symm,by rw[n,q]⟩
       cases b
      cases b
     split at b
     ·cases b
     rename_i g;simp at b;exact absurd b.1 g
    cases e;split at b
    ·rename_i j;split at b
     ·split at b
      ·cases b
      cases b;exact⟨h1.trans j.symm,rfl⟩
     cases b
    split at b
    ·cases b
    rename_i g _;simp at b;exact absurd b.1 g
   cases e;split at b
   ·rename_i j;split at b
    ·split at b
     ·cases b
     cases b
    exact⟨h1.trans j.symm,rfl⟩
   split at b
   ·cases b
   rename_i g _;simp at b;exact absurd b.1 g
  split at e
  ·cases e
  rename_i h1 n;cases e;split at b
  ·split at b
   ·split at b
    ·simp at b;exact absurd b.1.symm n
    simp at b;exact absurd b.1.symm h1
   simp at b;exact absurd b.1.symm h1
  split at b
  ·cases b
  simp at b;exact⟨b.1.symm,b.2.symm⟩
 unfold Ren.comp;split
 ·split
  ·split<;>exact .inr ⟨_,_,rfl⟩
  exact .inr ⟨_,_,rfl⟩
 split
 ·exact .inl rfl
 exact .inr ⟨_,_,rfl⟩
theorem Ren.comp_still{t i:Nat}{c:Hd}(h1:c≠.s t)(b:c≠.x 0):(Ren.comp t i).still c:=λp=>by simp[Ren.comp,h1,b]
theorem ZiX{t i:Nat}(hd:Hd)(p:List Nat)(k:Nat)(q:List Nat)(e:Ren.comp t i hd p= .own (.h k) q):hd= .h k:=by
 unfold Ren.comp at e;split at e
 ·split at e
  ·split at e<;>cases e
  cases e
 split at e
 ·cases e
 simp at e;exact e.1
theorem ZgJ (R:RS h0 ω0 ω ρ st us X0) {t i:Nat} {g:List PV} {v:PV} {st1:PS} (ht:Aa st.sl t= .f8 g) (hi:i<g.length)
 (e:(if (Aa g i).own then (if (Aa g i).i6 (.s t)then none else some (Aa g i,{ st with sl:=clr (.s t) (BW st.sl t (.f8 (BW g i (.fl .undef)))) }))else some (Aa g i,st))=some (v,st1)):Out2 (.extract (.t t) i) us h0 ω0 v st1:=by
 obtain⟨ws,h1,h2,h3,h4⟩:=R.ev_tup ht;have M:Af (.extract (.t t) i) us=some (get ws i,us.bx,us.hp):=by
  have:i<ws.length:=(by omega);simp[Af,T_.ev,h1,CZ,Bc this]
 obtain⟨O,N⟩:=(h3 i).shp;have n:∀p,(∃c,p=[c]/\(Aa g i).S_ p=Aa (Aa g i).cells c/\(get ws i).S_ p=get (get ws i).cells c)\/(Aa g i).S_ p= .fl .undef:=by
  intro p;by_cases hu:Aa g i= .fl .undef
  ·exact .inr (by rw[hu,Ba])
  rcases bA N p with⟨c,rfl⟩|h
  ·exact .inl ⟨c,rfl,On N c,S7 ((h3 i).notup hu) c⟩
  exact .inr h
 have C:∀c,Ak ρ st us X0 (.s t) [i,c]=(Aa (Aa g i).cells c,get (get ws i).cells c):=by
  intro c;simp only[Ak,ht,h1];rfl
 split at e
 ·rename_i Y;split at e
  ·cases e
  rename_i G;cases e;have Z:(Aa g i).i6 (.s t)=false:=(by simpa using G);refine⟨get ws i,us.bx,us.hp,_,ρ,M,RS.ren (X':=X1 (Aa g i) (get ws i)) R (Ren.comp_ok t i) ZiX (λf_ p=>?_) rfl (WW R.sh ?_) (λj=>?_) (by simp[F4,Gz,p_.clears,R.lsl]) R.lbx R.lb R.cb R.ch rfl (λ_=>rfl)⟩
  ·cases f_ with
   | x j =>
     by_cases U:j=0
     ·subst U;rcases n p with⟨c,rfl,z,I⟩|h
      ·refine .inl ⟨.s t,[i,c],?_,λ_ r=>by simp[Ren.comp],λF y u e J=>?_⟩
       ·rw[C,<- z,<- I];rfl
       have:=Ren.comp_still (t:=t) (i:=i) (c:=F) (Ef Z (p:=[c]) e) (J 0);exact⟨λ_=>this,this.soft⟩
      exact .inr (A4 h)
     exact .inr (A4 (F9 j U p))
   | s A=>
     simp only[Ak,p_.clears];rcases QY (st:=st) (us:=us) t (.f8 (BW g i (.fl .undef))) A R.lsl (get us.sl t)with h|⟨rfl,h_,z,I,e3⟩|⟨z,I,e3,e4⟩
     ·refine .inr ?_;rw[h];exact Dn (Ba p)
     ·rw[z]
      match p with
      | [i',c]=>
        by_cases D:i'=i
        ·subst D;refine .inr (Dn ?_);show Aa (Aa (BW g i' _) i').cells c=_;rw[El,Ad ⟨rfl,hi⟩];cases c<;>rfl
        have hv:(PV.f8 (BW g i (.fl .undef))).S_ [i',c]=Aa (Aa g i').cells c:=by
         show Aa (Aa (BW g i _) i').cells c=_;rw[El,Ae (λh=>D h.1)]
        refine .inl ⟨.s A,[i',c],?_,λ_ r=>by simp[Ren.comp,D],λF y u e J=>?_⟩
        ·rw[hv];simp only[Ak,ht,PV.S_]
        have:=Ren.comp_still (t:=A) (i:=i) (c:=F) (Ef e3 (p:=[i',c]) e) (J 0);exact⟨λ_=>this,this.soft⟩
      |[]=>exact .inr (Dn rfl)
      |[_]=>exact .inr (Dn rfl)
      |_::_::_::_=>exact .inr (Dn rfl)
     refine .inl ?_;rw[z];by_cases L:A=t
     ·subst L;have hz:Aa st.sl A= .fl .undef:=GC _ _ (by omega);exact Bm rfl (λe=>by rw[hz,Ba]at e;cases e) (λG y u e=>by simp only[hz,Ba]at e;simp[PV.q]at e)
     exact Bm rfl (λ_=>Ren.comp_still (by simpa using L) (by simp)) λG y u e J=>Ren.comp_still (Ef e3 e) (J 0)
   |b A=>exact .inl (Bm rfl (λ_=>Ren.comp_still (by simp) (by simp)) λG y u e=>absurd e (R.nobor_b A p G y u))
   |h A=>exact .inl (Bm rfl (λ_=>Ren.comp_still (by simp) (by simp)) λG y u e=>absurd e (R.nobor_h A p G y u))
  ·refine⟨ws,h1,by rw[h2,Gz],λk=>?_⟩;rw[El];split
   ·exact trivial
   exact h3 k
  by_cases U:j=0
  ·subst U;exact O
  rw[D6 _ _ j U];exact Bf _
 rename_i Y;cases e;refine⟨_,_,_,ω,ρ,M,R.hand (hd:=.x 0) O (λp=>?_) (OR (by simpa using Y)) (λp=>?_)⟩
 ·rcases n p with⟨c,rfl,z,I⟩|h
  ·rw[z,I];refine(h4 i c).any ?_;rw[<- z];exact OR (by simpa using Y) _
  rw[h];exact .undef _ _
 rcases n p with⟨c,rfl,z,I⟩|h
 ·rw[z];have:=R.nx (.s t) [i,c];rw[C]at this;exact λi y u=>this i y u
 rw[h];exact λi y u=>by simp[PV.q]
end
def PV.sc(v:PV):Prop:=(∀cs,v≠.agg cs)/\∀b,v≠.f8 b
theorem OI:(PV.fl .undef).sc:=⟨λ_ h=>(by cases h),λ_ h=>(by cases h)⟩
theorem Ue{v:PV}(h:v.lay=true):v.sc:=by
 cases v<;>first|(simp[PV.lay]at h;done)|exact⟨λ_ h=>(by cases h),λ_ h=>(by cases h)⟩
theorem RC.vsc{h:Ac}{ω:Nat->W}{m:Md}{v:PV}{u:V}(r:RC h ω m v u)(g:v≠.fl .undef)(hs:v.sc):(∀us,u≠.agg us)/\∀us,u≠.f8 us:=by
 cases r with
 |undef=>exact absurd rfl g
 |v _ _ b=>cases u<;>first|(simp[V.flat]at b;done)|exact⟨λ_ h=>(by cases h),λ_ h=>(by cases h)⟩
 |_=>exact⟨λ_ h=>(by cases h),λ_ h=>(by cases h)⟩
theorem ot{H:Ac}{ω:Nat->W}{m:Nat->Md}{n:Option Nat}{a:List PV}{ws:List V}{v:PV}(e:Ee n a=some v)(j:ws.length=a.length)(hs:∀c,(Aa a c).sc)(q:∀c,RC H ω (m c) (Aa a c) (get ws c)):∃u,CS n ws=some u/\A9 v u/\∀p,(∃c,p=[c]/\v.S_ p=Aa a c/\u.S_ p=get ws c)\/v.S_ p= .fl .undef:=by
 cases n with
 | some n=>
   simp[Ee]at e;subst e;refine⟨.agg ws,rfl,⟨ws,rfl,j⟩,λp=>?_⟩
   match p with
   |[c]=>exact .inl ⟨c,rfl,rfl,rfl⟩
   |[]=>exact .inr rfl
   |_::_::_=>exact .inr rfl
 | none=>
   match a,j with
   |[],_=>simp[Ee]at e
   |_::_::_,_=>simp[Ee]at e
   | [x], j =>
     simp[Ee]at e;subst e
     match ws,j with
     | [u],_=>
       have b:=hs 0;have g:=q 0;simp only[Aa,get]at b g;refine⟨u,rfl,?_,λp=>?_⟩
       ·by_cases i:x= .fl .undef
        ·rw[i];exact Bf _
        have:=g.vsc i b;cases x with
        |agg cs=>exact absurd rfl (b.1 _)
        |f8 cs=>exact absurd rfl (b.2 _)
        |fl y=>cases y<;>first|exact this|exact absurd rfl i
        |_=>exact this
       by_cases i:x= .fl .undef
       ·exact .inr (by rw[i,Ba])
       rcases bA b.2 p with⟨c,rfl⟩|h
       ·refine .inl ⟨c,rfl,?_,?_⟩
        ·rw[On b.2];cases x with
         |agg cs=>exact absurd rfl (b.1 _)
         |_=>rfl
        have:=g.vsc i b;rw[S7 this.2];cases u with
        |agg cs=>exact absurd rfl (this.1 _)
        |_=>rfl
       exact .inr h
theorem RC.brw{h:Ac}{ω:Nat->W}{hd f_:Hd}{p p':List Nat}{v:PV}{u:V}(r:RC h ω (.at hd p) v u):RC h ω (.at f_ p') (Dd hd p v) u:=by
 unfold Dd;split
 ·rename_i es;cases r with
  |nil=>exact .nil _ _
  | sl _ _ _ l o n b h1 hk hc f9 hn hw hle hr=>
    subst hn;have s:SR h ω (.at hd p) .own es l o b:=⟨h1,hk,hc,hw,hle,hr⟩;have g:=s.weak (f_:=f_) (p':=p') (q':=.i6 hd p true) (l0:=0) (n0:=es.length) ⟨rfl,rfl,λ_=>rfl⟩ (by omega);simp only[Hy,F6,LW,Fg]at g;exact g.sl (λ_=>f9 rfl (.inl rfl))
 ·rename_i w es;cases r with
  |nil=>exact .nil _ _
  | sl _ _ _ l o n b h1 hk hc f9 hn hw hle hr=>
    subst hn;have s:SR h ω (.at hd p) (.i5 w) es l o b:=⟨h1,hk,hc,hw,hle,hr⟩;have g:=s.weak (f_:=f_) (p':=p') (q':=.pre hd p) (l0:=0) (n0:=es.length) ⟨rfl,rfl,rfl⟩ (by omega);simp only[Hy,F6,LW,Fg]at g;exact g.sl (by simp)
 rename_i j i;refine r.any ?_;cases v with
 |sl q es=>cases q<;>first|rfl|exact absurd rfl (j _)|exact absurd rfl (i _ _)
 |_=>rfl
theorem Ze{hd:Hd}{p:List Nat}{v:PV}:(Dd hd p v).qo=false:=by
 unfold Dd;split
 ·rfl
 ·rfl
 rename_i g b;cases v with
 |sl q es=>cases q<;>first|rfl|exact absurd rfl (g _)|exact absurd rfl (b _ _)
 |_=>rfl
theorem X8{hd:Hd}{p:List Nat}{v:PV}(b:∀i,hd≠.x i)(n:Cs v):Cs (Dd hd p v):=by
 unfold Dd;split
 ·intro i j g e;simp[PV.q]at e;exact b i e.1
 ·intro i j g e;simp[PV.q]at e;exact b i e.1
 exact n
theorem YJ{hd:Hd}{p:List Nat}{v:PV}(h:v.sc):(Dd hd p v).sc:=by
 unfold Dd;split
 ·exact⟨λ_ h=>(by cases h),λ_ h=>(by cases h)⟩
 ·exact⟨λ_ h=>(by cases h),λ_ h=>(by cases h)⟩
 exact h
theorem Hn(hd:Hd)(c:Nat)(cs:List PV)(k:Nat):Aa (HI hd c cs) k=Dd hd [c+k] (Aa cs k):=by
 induction cs generalizing c k with
 |nil=>simp[HI,Aa,Dd]
 | cons x r ih=>cases k with
   |zero=>rfl
   |succ k=>simp only[HI,Aa];rw[ih (c+1) k,show c+1+k=c+(k+1) by omega]
theorem XJ(hd:Hd)(c:Nat)(cs:List PV):(HI hd c cs).length=cs.length:=by
 induction cs generalizing c with
 |nil=>rfl
 |cons x r b=>simp[HI,b]
theorem QR(cs:List PV)(k:Nat):Aa (Dt cs) k=if (Aa cs k).own then .fl .undef else Aa cs k:=by
 induction cs generalizing k with
 |nil=>simp[Dt,Aa,PV.own]
 | cons x r ih=>cases k with
   |zero=>rfl
   |succ k=>exact ih k
theorem MW(cs:List PV):(Dt cs).length=cs.length:=by
 induction cs with
 |nil=>rfl
 |cons x r b=>simp[Dt,b]
section
variable {h0:Ac} {ω0 ω:Nat->W} {ρ:Nat->Nat} {st st1:PS} {us:St} {X:CN}
theorem RS.handL (R:RS h0 ω0 ω ρ st us X0) {hd:Hd} {n:Option Nat} {a:List PV} {ws:List V} {v:PV} (e:Ee n a=some v) (y:ws.length=a.length) (hs:∀c,(Aa a c).sc) (s:∀c,RC us.hp ω (.at hd [c]) (Aa a c) (get ws c))
 (x:∀c,(Aa a c).qo=false) (t:∀c,Cs (Aa a c)):∃u,CS n ws=some u/\RS h0 ω0 ω ρ st us (X1 v u):=by
 obtain⟨u,h1,z,g⟩:=ot e y hs s;refine⟨u,h1,R.hand (hd:=hd) z (λp=>?_) (λp=>?_) (λp=>?_)⟩
 ·rcases g p with⟨c,rfl,b,j⟩|h
  ·rw[b,j];exact s c
  rw[h];exact .undef _ _
 ·rcases g p with⟨c,rfl,b,j⟩|h
  ·rw[b];exact x c
  rw[h];rfl
 rcases g p with⟨c,rfl,b,j⟩|h
 ·rw[b];exact t c
 rw[h];exact λi C A=>by simp[PV.q]
theorem ZiS(R:RS h0 ω0 ω ρ st us X0){off:Nat}{n:Option Nat}{x:T_}{v:PV}(e:TT off n x (x.t7 st.sl)=some v):Out2 (.field off n x) us h0 ω0 v st:=by
 unfold TT at e;split at e
 ·rename_i cs g;split at e
  ·rename_i t;split at e
   ·rename_i j;simp only[T_.t7]at g;obtain⟨hd,ws,ht,h1,F,A⟩:=R.ev_agg (x:=.t t) g;have:=ht t rfl;subst this;have b:∀c,(Aa cs c).sc:=λc=>by
     have:=A c;generalize Aa cs c=v at this;generalize get ws c=u at this;cases this<;>exact⟨λ_ h=>(by cases h),λ_ h=>(by cases h)⟩
    refine(λ⟨u,D,C⟩=>⟨u,us.bx,us.hp,ω,ρ,by simp only[Af,h1];rw[Ad (by omega),D];rfl,C⟩:_->_) (R.handL (hd:=.s t) (ws:=(ws.drop off).take (n.getD 1)) e (by rw[XJ,F3 j];simp;omega) (λc=>?_) (λc=>?_) (λc=>?_) (λc=>?_))
    ·rw[Hn];refine YJ ?_;rw[DY];split
     ·exact b _
     exact OI
    ·rw[Hn,DY,H6];split
     ·exact(A (off+c)).brw
     exact .undef _ _
    ·rw[Hn];exact Ze
    rw[Hn,DY];split
    ·refine X8 (by simp) ?_;have:=R.nx (.s t) [off+c];simp only[Ak,g]at this;exact λi z y=>this i z y
    exact λi z y=>by simp[Dd,PV.q]
   cases e
  cases e
 cases e
theorem Zjl{v:PV}(hd:Hd)(h:v.sc):JM hd v=Dd hd [0] v:=by
 cases v with
 |agg cs=>exact absurd rfl (h.1 _)
 |f8 b=>exact absurd rfl (h.2 _)
 |_=>rfl
theorem Zi9{hd:Hd}{p:List Nat}{v:PV}(h:v.qo=false):Dd hd p v=v:=by
 cases v with
 |sl q es=>cases q<;>first|rfl|cases h
 |_=>rfl
theorem br(hd:Hd)(v:PV)(p:List Nat):(JM hd v).S_ p=Dd hd p (v.S_ p)\/(JM hd v).S_ p= .fl .undef:=by
 have g:∀v:PV,(∀cs,v≠.agg cs)->(∀n,v≠.f8 n)->JM hd v=Dd hd [0] v/\((Dd hd [0] v).S_ p=Dd hd p (v.S_ p)\/(Dd hd [0] v).S_ p= .fl .undef):=by
  intro v h1 s;refine⟨Zjl hd ⟨h1,s⟩,?_⟩;have b:=YJ (hd:=hd) (p:=[0]) (v:=v) ⟨h1,s⟩
  match p with
  | [0]=>
    left;rw[Jg b.1 b.2,Jg h1 s]
  |[]=>right;generalize Dd hd [0] v=w at b;cases w<;>first|rfl|exact absurd rfl (b.1 _)|exact absurd rfl (b.2 _)
  |(_+1)::_=>right;generalize Dd hd [0] v=w at b;cases w<;>first|rfl|exact absurd rfl (b.1 _)|exact absurd rfl (b.2 _)
  |0::_::_=>right;generalize Dd hd [0] v=w at b;cases w<;>first|rfl|exact absurd rfl (b.1 _)|exact absurd rfl (b.2 _)
 cases v with
 | agg cs=>
   match p with
   |[c]=>left;show Aa (HI hd 0 cs) c=Dd hd [c] (Aa cs c);rw[Hn,BJ]
   |[]=>right;rfl
   |_::_::_=>right;rfl
 | f8 n=>
   simp only[JM];split
   ·right;rw[Ba]
   rename_i t;left;exact(Zi9 (OR (v:=.f8 n) (by simpa [PV.own]using t) p)).symm
 |fl x=>(have h:=g (.fl x) (λ_ h=>(by cases h)) (λ_ h=>(by cases h)));rw[h.1];exact h.2
 |sl q es=>(have h:=g (.sl q es) (λ_ h=>(by cases h)) (λ_ h=>(by cases h)));rw[h.1];exact h.2
 |ep q es j o=>(have h:=g (.ep q es j o) (λ_ h=>(by cases h)) (λ_ h=>(by cases h)));rw[h.1];exact h.2
 |box i o=>(have h:=g (.box i o) (λ_ h=>(by cases h)) (λ_ h=>(by cases h)));rw[h.1];exact h.2
 |ptr i o=>(have h:=g (.ptr i o) (λ_ h=>(by cases h)) (λ_ h=>(by cases h)));rw[h.1];exact h.2
theorem Zhz{hd:Hd}{v:PV}{u:V}(h:A9 v u):A9 (JM hd v) u:=by
 cases v with
 |agg cs=>obtain⟨ws,h1,b⟩:=h;exact⟨ws,h1,by rw[b,XJ]⟩
 | f8 vs=>
   simp only[JM];split
   ·exact Bf _
   exact h
 |sl q es=>cases q<;>exact h
 |fl x=>exact h
 |ep q es j o=>exact h
 |box i o=>exact h
 |ptr i o=>exact h
theorem RS.bw0(R:RS h0 ω0 ω ρ st us X0)(x:T_):∃ω',RS h0 ω0 ω' ρ (Nt x st).2 us (X1 (Nt x st).1 (x.ev us.sl)):=by
 cases x with
 |c v=>exact R.mv0 (.c v)
 | t n =>
   refine⟨ω,R.hand (v:=JM (.s n) (Aa st.sl n)) (u:=get us.sl n) (hd:=.s n) (Zhz (R.sh n)) (λp=>?_) (λp=>?_) (λp=>?_)⟩
   ·rcases br (.s n) (Aa st.sl n) p with h|h
    ·rw[h];exact(R.core.rc (.s n) p).brw
    rw[h];exact .undef _ _
   ·rcases br (.s n) (Aa st.sl n) p with h|h
    ·rw[h];exact Ze
    rw[h];rfl
   rcases br (.s n) (Aa st.sl n) p with h|h
   ·rw[h];exact X8 (by simp) λi g b=>R.nx (.s n) p i g b
   rw[h];exact λi g b=>by simp[PV.q]
theorem Zlm(R:RS h0 ω0 ω ρ st us X0)(m:Bool)(x:T_):Out2 (.mv x) us h0 ω0 (if m then Nt x st else Ag.f' x st).1 (if m then Nt x st else Ag.f' x st).2:=by
 cases m with
 |true=>obtain⟨ω',h⟩:=R.bw0 x;exact⟨_,_,_,ω',ρ,rfl,h⟩
 |false=>obtain⟨ω',h⟩:=R.mv0 x;exact⟨_,_,_,ω',ρ,rfl,h⟩
theorem ZkY(R:RS h0 ω0 ω ρ st us X)(i c:Nat):Cs (Aa (Ao st.bx i) c):=λ_ _ _ e=>C3 (R.cb i c) _ _ _ e
theorem Zlo(R:RS h0 ω0 ω ρ st us X)(i c:Nat):Cs (Aa (Ao st.hp i) c):=λ_ _ _ e=>C3 (R.ch i c) _ _ _ e
theorem RS.ev_box(R:RS h0 ω0 ω ρ st us X){x:T_}{i o:Nat}(b:x.t7 st.sl= .box i o):x.ev us.sl= .box i o:=by
 obtain⟨hd,_,r⟩:=R.ev_one b (λ_ h=>(by cases h)) (λ_ h=>(by cases h)) (λ_ h=>(by cases h));generalize x.ev us.sl=u at r;cases r;rfl
theorem RS.ev_ptr(R:RS h0 ω0 ω ρ st us X){x:T_}{i o:Nat}(b:x.t7 st.sl= .ptr i o):x.ev us.sl= .ptr (ρ i) o/\i<st.hp.length:=by
 obtain⟨hd,_,r⟩:=R.ev_one b (λ_ h=>(by cases h)) (λ_ h=>(by cases h)) (λ_ h=>(by cases h));generalize x.ev us.sl=u at r;cases r with
 | ptr _ _ _ _ l hl=>
   have hi:=R.bdp l i hl;rw[R.core.injp l (ρ i) i hl (R.hp i hi).1];exact⟨rfl,hi⟩
theorem RS.loadmv (R:RS h0 ω0 ω ρ st us X) (hX0:∀p,(X 0).1.S_ p= .fl .undef) (hXb:∀j hd,(X j).1.i6 hd=false) {hd:Hd} {f4:PS} {cs:List PV} {ws:List V} {n:Option Nat} {o:Nat} {v:PV} (hx:∀i,hd≠.x i) (Z:∀t,hd≠.s t)
 (z:∀p,Ak ρ st us X hd p=Be cs ws p) (D:∀p,Ak ρ f4 us X hd p=Be (AY cs o (Dt (s_ cs o (n.getD 1)))) ws p) (J:∀f_ p,f_≠hd->(∀t,f_≠.s t)->Ak ρ f4 us X f_ p=Ak ρ st us X f_ p)
 (C:f4.sl=clr hd st.sl) (hlen:ws.length=cs.length) (y:o+n.getD 1<=cs.length) (q:∀c,(Aa cs c).lay=true)
 (l2:f4.bx.length=us.bx.length) (l3:∀i,(Ao f4.bx i).length=(A3 us.bx i).length) (c1:∀i c,(Aa (Ao f4.bx i) c).lay=true) (c2:∀i c,(Aa (Ao f4.hp i) c).lay=true)
 (l4:f4.hp.length=st.hp.length) (l5:∀i,(Ao f4.hp i).length=(Ao st.hp i).length)
 (e:Ee n (s_ cs o (n.getD 1))=some v):∃u ω',CS n ((ws.drop o).take (n.getD 1))=some u/\RS h0 ω0 ω' ρ f4 us (Xs X 0 v u)/\∀l c p,c<n.getD 1->ω l= .own hd ((o+c)::p)->ω' l= .own (.x 0) (c::p):=by
 have M:∀c,RC us.hp ω (.at hd [c]) (Aa cs c) (get ws c):=λc=>by have:=R.core.rc hd [c];rw[z]at this;exact this
 have hsg:∀c,RC us.hp ω (.at hd [o+c]) (Aa (s_ cs o (n.getD 1)) c) (get ((ws.drop o).take (n.getD 1)) c):=λc=>by
  rw[DY,H6];split
  ·exact M _
  exact .undef _ _
 obtain⟨u,h1,h2,h3⟩:=ot (m:=λc=>.at hd [o+c]) e (by rw[F3 y];simp;omega) (λc=>by
  rw[DY];split
  ·exact Ue (q _)
  exact OI) hsg
 refine⟨u,_,h1,RS.ren (X':=Xs X 0 v u) R (Ren.seg_ok (a:=hd) (o:=o) (n:=n.getD 1) (b:=.x 0) (o':=0) (hx 0)) (fF (by simp)) (λf_ p=>?_) rfl (λt=>?_) (λi=>?_) (by rw[C,F4];exact R.lsl) l2 l3 c1 c2 l4 l5,λl c p I e=>by
  show Ag.ren _ (ω l)=_;rw[e];show Ren.seg hd o (n.getD 1) (.x 0) 0 hd ((o+c)::p)=_;rw[Ren.seg_mv (by omega) (by omega)];simp⟩
 ·cases f_ with
  | x i =>
    by_cases hi:i=0
    ·subst hi;rcases h3 p with⟨c,rfl,e1,e2⟩|h
     ·by_cases I:c<n.getD 1
      ·rw[DY,Ad I]at e1;rw[H6,Ad I]at e2;have Y:Ak ρ f4 us (Xs X 0 v u) (.x 0) [c]=(v.S_ [c],u.S_ [c]):=rfl;rw[Y,e1,e2];refine .inl ⟨hd,[o+c],by rw[z];rfl,λ_ r=>?_,λA G F g=>absurd g (C3 (q _) _ _ _)⟩;simp only[Dz,CL];rw[Ren.seg_mv (by omega) (by omega)];simp
      refine .inr (A4 ?_);show v.S_ [c]=_;rw[e1,DY,Ae I]
     exact .inr (A4 h)
    have U:Ak ρ f4 us (Xs X 0 v u) (.x i) p=Ak ρ st us X (.x i) p:=(by simp[Ak,Xs,hi]);refine .inl (Bm U (λ_=>Ren.u_ (λh=>hx i h.symm) (by simpa using hi)) λA G F e L=>Ren.u_ ?_ (L 0));rw[U]at e;exact Ef (hXb i hd) e
  | s t=>
    simp only[Ak,C,Fa];split
    ·exact .inr (Dn (Ba p))
    rename_i A;have A:(Aa st.sl t).i6 hd=false:=(by simpa using A);exact .inl (Bm rfl (λ_=>Ren.u_ (λh=>Z t h.symm) (by simp)) λhb' G F g L=>Ren.u_ (Ef (v:=Aa st.sl t) A (p:=p) g) (L 0))
  | b i =>
    by_cases O:Hd.b i=hd
    ·subst O;have:Ak ρ f4 us (Xs X 0 v u) (.b i) p=Be (AY cs o (Dt (s_ cs o (n.getD 1)))) ws p:=D p;rw[this]
     match p with
     |[]=>exact .inr (A4 rfl)
     |_::_::_=>exact .inr (A4 rfl)
     | [c] =>
       simp only[Be];rw[Jh _ _ _ _ (by rw[MW,F3 y];exact y),MW,F3 y];split
       ·rename_i I;rw[QR,DY,Ad (show c-o<n.getD 1 by omega),show o+(c-o)=c by omega];split
        ·exact .inr (Dn rfl)
        rename_i ho;refine .inr ⟨λ_ _ _ g=>C3 (q c) _ _ _ g,?_⟩;have N:(Aa cs c).qo=false:=Bool.eq_false_iff.2 λg=>ho (QJ g);exact(M c).tr (Tr.of_ren _ _ _) (λg=>by rw[N]at g;cases g) (λA G F g=>absurd g (C3 (q c) _ _ _))
       rename_i I;refine .inl ⟨.b i,[c],by rw[z];rfl,λ_ r=>?_,λA G F g=>absurd g (C3 (q c) _ _ _)⟩;exact Ren.seg_rest_a (by simp) I r
    have:Ak ρ f4 us (Xs X 0 v u) (.b i) p=Ak ρ st us X (.b i) p:=J (.b i) p O (by simp);rw[this];exact .inl (Bm rfl (λ_=>Ren.u_ O (by simp)) λA G F g=>absurd g (R.nobor_b i p A G F))
  | h i =>
    by_cases O:Hd.h i=hd
    ·subst O;have:Ak ρ f4 us (Xs X 0 v u) (.h i) p=Be (AY cs o (Dt (s_ cs o (n.getD 1)))) ws p:=D p;rw[this]
     match p with
     |[]=>exact .inr (A4 rfl)
     |_::_::_=>exact .inr (A4 rfl)
     | [c] =>
       simp only[Be];rw[Jh _ _ _ _ (by rw[MW,F3 y];exact y),MW,F3 y];split
       ·rename_i I;rw[QR,DY,Ad (show c-o<n.getD 1 by omega),show o+(c-o)=c by omega];split
        ·exact .inr (Dn rfl)
        rename_i ho;refine .inr ⟨λ_ _ _ g=>C3 (q c) _ _ _ g,?_⟩;have N:(Aa cs c).qo=false:=Bool.eq_false_iff.2 λg=>ho (QJ g);exact(M c).tr (Tr.of_ren _ _ _) (λg=>by rw[N]at g;cases g) (λA G F g=>absurd g (C3 (q c) _ _ _))
       rename_i I;refine .inl ⟨.h i,[c],by rw[z];rfl,λ_ r=>?_,λA G F g=>absurd g (C3 (q c) _ _ _)⟩;exact Ren.seg_rest_a (by simp) I r
    have:Ak ρ f4 us (Xs X 0 v u) (.h i) p=Ak ρ st us X (.h i) p:=J (.h i) p O (by simp);rw[this];exact .inl (Bm rfl (λ_=>Ren.u_ O (by simp)) λA G F g=>absurd g (R.nobor_h i p A G F))
 ·rw[C,Fa];split
  ·exact Bf _
  exact R.sh t
 unfold Xs;split
 ·exact h2
 exact R.shx i
theorem oW (R : RS h0 ω0 ω ρ st us X0) {m:Bool} {i:Nat} {n:Option Nat} {a:T_} {v:PV} (e:Jq m i n (a.t7 st.sl) st=some (v,st1)):∃u bx hp ω' ρ',Af (.d6 i n a) us=some (u,bx,hp)/\RS h0 ω0 ω' ρ' st1 ⟨(p_.d6 i n a).clears us.sl,bx,hp⟩ (X1 v u) /\
 (m=true->∀o,a.t7 st.sl= .box i o->∀l c p,c<n.getD 1->ω l= .own (.b i) ((o+c)::p)->ω' l= .own (.x 0) (c::p)):=by
 unfold Jq at e;split at e
 ·rename_i j o J;have A:=R.ev_box J;split at e
  ·rename_i M;obtain⟨rfl,g⟩:=M;have y:i=i/\o+n.getD 1<=(A3 us.bx i).length:=⟨rfl,by rw[<- R.lb i];exact g⟩;split at e
   ·simp only [Ch]at e;obtain⟨v',e,G⟩:=e;cases G;have hi:i<st.bx.length\/n.getD 1=0:=by
     rcases Bz i st.bx.length with h|h
     ·exact .inl h
     right;rw[Dx,BR h]at g;simp at g;exact g.2
    have D:∀k,Ao (Cf st.bx i (AY (Ao st.bx i) o (Dt (s_ (Ao st.bx i) o (n.getD 1))))) k=if k=i then AY (Ao st.bx i) o (Dt (s_ (Ao st.bx i) o (n.getD 1)))else Ao st.bx k:=by
     intro k;rw[J4];by_cases C:k=i
     ·subst C;rcases Bz k st.bx.length with h|h
      ·simp[h]
      rw[Ae (by omega),Ad rfl];have:Ao st.bx k=[]:=(by rw[Dx,BR h];rfl);rw[this];generalize Dt (s_ [] o (n.getD 1))=q;cases q<;>rfl
     simp[C]
    obtain⟨u,ω',h1,I,N⟩:=R.loadmv (λp=>Ba p) (λ_ _=>rfl) (f4:={ st with sl:=clr (.b i) st.sl,bx:=Cf st.bx i (AY (Ao st.bx i) o (Dt (s_ (Ao st.bx i) o (n.getD 1)))) }) (hd:=.b i) (cs:=Ao st.bx i) (ws:=A3 us.bx i) (by simp) (by simp)
     (λp => rfl) (λp=>by simp only[Ak,D,Ad]) (λf_ p h h'=>by
      cases f_ with
      |b k=>simp only[Ak,D];rw[Ae (λI=>h (by rw[I]))]
      |s t=>exact absurd rfl (h' t)
      | _ => rfl) rfl (R.lb i).symm g (R.cb i) (by rw[HY];exact R.lbx) (λk=>by
        simp only[D];split
        ·rename_i C;rw[C,HW];exact R.lb i
        ·exact R.lb k) (λk c=>by
        simp only[D];split
        ·rw[Jh _ _ _ _ (by rw[MW,F3 g];exact g)];split
         ·rw[QR];split
          ·rfl
          rw[DY];split
          ·exact R.cb i _
          rfl
         exact R.cb i c
        exact R.cb k c) R.ch rfl (λ_=>rfl) e
    exact⟨u,us.bx,us.hp,ω',ρ,by simp only[Af,A,GD];rw[Ad y.2,h1];rfl,I,λ_ o' z=>by rw[J]at z;cases z;exact N⟩
   rename_i hm;simp only[Ch]at e;obtain⟨v',e,G⟩:=e;cases G;have F:∀c,RC us.hp ω (.at (.b i) [c]) (Aa (Ao st.bx i) c) (get (A3 us.bx i) c):=λc=>R.core.rc (.b i) [c];have L:=y.2;refine(λ⟨u,U,O⟩=>⟨u,us.bx,us.hp,ω,ρ,by simp only[Af,A,GD];rw[Ad y.2,U];rfl,O,λh=>absurd h hm⟩:_->_) (R.handL (hd:=.b i) (ws:=((A3 us.bx i).drop o).take (n.getD 1)) e (by rw[XJ,F3 g];simp;omega) (λc=>?_) (λc=>?_) (λc=>?_) (λc=>?_))
   ·rw[Hn];refine YJ ?_;rw[DY];split
    ·exact Ue (R.cb i _)
    exact OI
   ·rw[Hn,DY,H6];split
    ·exact(F (o+c)).brw
    exact .undef _ _
   ·rw[Hn];exact Ze
   rw[Hn,DY];split
   ·exact X8 (by simp) (ZkY R i _)
   exact λi Z Y=>by simp[Dd,PV.q]
  cases e
 cases e
theorem Zja(R:RS h0 ω0 ω ρ st us X0){m:Bool}{i:Nat}{n:Option Nat}{a:T_}{v:PV}(e:Jq m i n (a.t7 st.sl) st=some (v,st1)):Out2 (.d6 i n a) us h0 ω0 v st1:=by
 obtain⟨u,bx,hp,ω',ρ',h1,b,_⟩:=oW R e;exact⟨u,bx,hp,ω',ρ',h1,b⟩
end
theorem Core.renh {h h':Ac} {ω:Nat->W} {A A':JO} (c:Core h ω A) {f:Ren} (s:f.Ok) (ht:∀l,(∀i,ω l≠.ptr i)->h'[l]?=h[l]?) (L:∀l i,ω l= .ptr i->∃b,h'[l]?=some b/\b.k= .own) (n:h'.length=h.length)
 (M:∀hd p,sn f A (A' hd p) hd p\/RC h' (λl=>Ag.ren f (ω l)) (.at hd p) (A' hd p).1 (A' hd p).2):
 Core h' (λl=>Ag.ren f (ω l)) A'/\Tr h ω h' (λl=>Ag.ren f (ω l)) f (λ_=>False):=by
 have t:Tr h ω h' (λl=>Ag.ren f (ω l)) f (λ_=>False):=
  ⟨λl e=>⟨by simp[e,Ag.ren],ht l (λi=>by simp[e])⟩,λl hd p e _=>⟨by simp[e,Ag.ren],ht l (λi=>by simp[e])⟩,λl i e=>by simp[e,Ag.ren]⟩
 refine⟨⟨λhd p=>?_,λl l' hd p e D=>?_,λl l' i e D=>c.injp l l' i (Ez s e) (Ez s D),λl e=>?_,λl e=>?_⟩,t⟩
 ·rcases M hd p with⟨x,p0,g,F,j⟩|J
  ·rw[g]at F j ⊢;exact(c.rc x p0).tr t (λe=>⟨λ_ _ _=>id,λr=>F e r⟩) (λy I G e=>⟨λ_ _ _=>id,j y I G e⟩)
  exact J
 ·obtain⟨a,q,g,N⟩:=D0 e;obtain⟨O,q',C,z⟩:=D0 D;obtain⟨rfl,rfl⟩:=s.inj a q O q' hd p N z;exact c.inj l l' a q g C
 ·rcases e with⟨hd,p,e⟩|⟨i,e⟩
  ·obtain⟨a,q,g,_⟩:=D0 e;obtain⟨b,j,u⟩:=c.kind l (.inl ⟨a,q,g⟩);exact⟨b,by rw[ht l (λi=>by simp[g])];exact j,u⟩
  exact L l i (Ez s e)
 rw[n];cases g:ω l with
 |own a q=>obtain⟨b,j,_⟩:=c.kind l (.inl ⟨a,q,g⟩);exact BB j
 |Z_=>exact c.lt l g
 |_=>rw[g]at e;simp[Ag.ren]at e
section
variable {h0:Ac} {ω0 ω:Nat->W} {ρ:Nat->Nat} {st f4 st1:PS} {us v_:St} {X X':CN}
theorem RS.renh (R:RS h0 ω0 ω ρ st us X) {f:Ren} (z:f.Ok) (M:∀l a q i r,ω l= .own a q->f a q= .own (.h i) r->i<f4.hp.length)
 (ht:∀l,(∀i,ω l≠.ptr i)->v_.hp[l]?=us.hp[l]?) (L:∀l i,ω l= .ptr i->∃b,v_.hp[l]?=some b/\b.k= .own) (g:v_.hp.length=us.hp.length)
 (A:∀hd p,YF f (Ak ρ st us X) (Ak ρ f4 v_ X' hd p) hd p\/Cs (Ak ρ f4 v_ X' hd p).1/\RC v_.hp (λl=>Ag.ren f (ω l)) (.at hd p) (Ak ρ f4 v_ X' hd p).1 (Ak ρ f4 v_ X' hd p).2)
 (hs:∀t,A9 (Aa f4.sl t) (get v_.sl t)) (J:∀i,A9 (X' i).1 (X' i).2) (I:f4.sl.length=v_.sl.length) (G:f4.bx.length=v_.bx.length)
 (D:∀i,(Ao f4.bx i).length=(A3 v_.bx i).length) (c1:∀i c,(Aa (Ao f4.bx i) c).lay=true) (c2:∀i c,(Aa (Ao f4.hp i) c).lay=true)
 (x:f4.hp.length=st.hp.length) (C:∀i,i<st.hp.length->(A6 v_.hp (ρ i)).length=(Ao f4.hp i).length):RS h0 ω0 (λl=>Ag.ren f (ω l)) ρ f4 v_ X':=by
 obtain⟨N,_⟩:=R.core.renh (A':=Ak ρ f4 v_ X') z ht L g λhd p=>by
  rcases A hd p with⟨a,b,e,h1,U⟩|h
  ·refine .inl ⟨a,b,e,h1,λO n j s=>U O n j s ?_⟩;rintro i rfl;rw[e]at s;exact R.nx a b i n j s
  exact .inr h.2
 refine⟨N,hs,J,I,G,D,c1,c2,λi hi=>?_,λl i e=>?_,λl i p e=>?_,?_,λhd p i n j=>?_⟩
 ·rw[x]at hi;exact⟨by simp[(R.hp i hi).1,Ag.ren],C i hi⟩
 ·rw[x];exact R.bdp l i (Ez z e)
 ·obtain⟨a,q,Z,Y⟩:=D0 e;exact M l a q i p Z Y
 ·have F:=R.fr.ren f;refine⟨by rw[g];exact F.len,λl y e=>?_,F.new,F.ptr⟩;obtain⟨a,b⟩:=F.old l y e;refine⟨?_,b⟩;rw[ht l,a];intro i s;obtain⟨_,u⟩:=R.fr.old l y e;rw[s]at u;rcases e with e|e<;>rw[e]at u<;>cases u
 rcases A hd p with⟨a,b,e,_⟩|h
 ·rw[e];exact R.nx a b i n j
 exact h.1 i n j
theorem Gy{cs:List PV}(h:BV cs=true)(c:Nat):(Aa cs c).lay=true/\(c<cs.length->(Aa cs c).cell=true):=by
 induction cs generalizing c with
 |nil=>exact⟨rfl,λh=>by simp at h⟩
 | cons x r ih=>
   simp only[BV,Aj]at h;cases c with
   | zero=>
     refine⟨?_,λ_=>h.1⟩;simp only[Aa];cases x with
     |sl q es=>cases q<;>first|rfl|(simp[PV.cell]at h)
     |fl=>rfl
     |_=>simp[PV.cell]at h
   |succ c=>exact⟨(ih h.2 c).1,λb=>(ih h.2 c).2 (by simpa using b)⟩
theorem Zkm{H:Ac}{ω:Nat->W}{m:Md}{v:PV}{u:V}(r:RC H ω m v u)(h:v.cell=true):u.cell=true:=by
 cases r with
 |undef=>simp[PV.cell,V.flat]at h
 |v _ _ b=>cases u<;>first|rfl|simp[V.flat]at b
 |nil=>rfl
 |sl=>rfl
 |ep=>simp[PV.cell]at h
 |box=>simp[PV.cell]at h
 |ptr=>simp[PV.cell]at h
theorem mL{v:PV}{u:V}(h:A9 v u)(g:BV v.cells=true):u.cells.length=v.cells.length/\(∀b,v≠.f8 b)/\∀b,u≠.f8 b:=by
 cases v with
 |agg cs=>obtain⟨ws,rfl,i⟩:=h;exact⟨i,λ_ h=>(by cases h),λ_ h=>(by cases h)⟩
 |f8 b=>simp[PV.cells,BV,PV.cell]at g
 | fl x=>
   cases x<;>first|(simp[PV.cells,BV,PV.cell,V.flat]at g;done)|skip
   all_goals
    refine⟨?_,λ_ h=>(by cases h),h.2⟩;cases u<;>first|rfl|exact absurd rfl (h.1 _)|exact absurd rfl (h.2 _)
 | _=>
   refine⟨?_,λ_ h=>(by cases h),h.2⟩;cases u<;>first|rfl|exact absurd rfl (h.1 _)|exact absurd rfl (h.2 _)
theorem RS.hand_cells{i:Nat}{v:PV}{u:V}(R:RS h0 ω0 ω ρ st us X)(e:X i=(v,u))(n:BV v.cells=true):u.cells.length=v.cells.length/\u.cells.all V.cell=true/\(∀c,RC us.hp ω (.at (.x i) [c]) (Aa v.cells c) (get u.cells c))/\∀c,Ak ρ st us X (.x i) [c]=(Aa v.cells c,get u.cells c):=by
 have hs:=R.shx i;rw[e]at hs;obtain⟨h1,t,s⟩:=mL hs n;have j:∀c,Ak ρ st us X (.x i) [c]=(Aa v.cells c,get u.cells c):=λc=>by
  simp only[Ak,e,On t,S7 s]
 have g:∀c,RC us.hp ω (.at (.x i) [c]) (Aa v.cells c) (get u.cells c):=λc=>by
  have:=R.core.rc (.x i) [c];rw[j]at this;exact this
 refine⟨h1,?_,g,j⟩;rw[DE];intro w q;obtain⟨c,b,rfl⟩:=Ik q;have:=Zkm (g c) ((Gy n c).2 (by simp only at h1 ⊢;omega));rw[CZ,Bc b]at this;exact this
theorem RS.storemv {v:PV} {u:V} (R:RS h0 ω0 ω ρ st us (X1 v u)) {hd:Hd} {cs:List PV} {ws:List V} {o:Nat} (hx:∀i,hd≠.x i) (hsl:∀t,hd≠.s t) (hhd:∀i,hd= .h i->i<f4.hp.length)
 (hc:BV v.cells=true) (I:∀p,Ak ρ st us (X1 v u) hd p=Be cs ws p) (G:∀p,Ak ρ f4 v_ X0 hd p=Be (AY cs o v.cells) (e_ ws o u.cells) p)
 (A:∀f_ p,f_≠hd->(∀t,f_≠.s t)->(∀i,f_≠.x i)->Ak ρ f4 v_ X0 f_ p=Ak ρ st us (X1 v u) f_ p\/(Ak ρ f4 v_ X0 f_ p).1= .fl .undef) (F:v_.sl=us.sl)
 (j:f4.sl=if PV.ownL (s_ cs o v.cells.length)||v.own then clr hd st.sl else st.sl) (hlen:ws.length=cs.length) (hle:o+v.cells.length<=cs.length) (M:∀c,(Aa cs c).lay=true)
 (ht:∀l,(∀i,ω l≠.ptr i)->v_.hp[l]?=us.hp[l]?) (hk:∀l i,ω l= .ptr i->∃b,v_.hp[l]?=some b/\b.k= .own) (Z:v_.hp.length=us.hp.length)
 (l2:f4.bx.length=v_.bx.length) (l3:∀i,(Ao f4.bx i).length=(A3 v_.bx i).length) (c1:∀i c,(Aa (Ao f4.bx i) c).lay=true) (c2:∀i c,(Aa (Ao f4.hp i) c).lay=true)
 (U:f4.hp.length=st.hp.length) (l5:∀i,i<st.hp.length->(A6 v_.hp (ρ i)).length=(Ao f4.hp i).length):∃ω',RS h0 ω0 ω' ρ f4 v_ X0:=by
 obtain⟨k1,k2,k3,k4⟩:=R.hand_cells (i:=0) (v:=v) (u:=u) rfl hc;have hrc:∀c,RC us.hp ω (.at hd [c]) (Aa cs c) (get ws c):=λc=>by have:=R.core.rc hd [c];rw[I]at this;exact this
 have J:∀c,Be (AY cs o v.cells) (e_ ws o u.cells) [c]=if o<=c/\c<o+v.cells.length then (Aa v.cells (c-o),get u.cells (c-o))else (Aa cs c,get ws c):=by
  intro c;simp only[Be];rw[Jh _ _ _ _ hle,W3 _ _ _ _ (by omega),k1];split<;>rfl
 have hc1:∀p,(∃c,p=[c])\/(Be (AY cs o v.cells) (e_ ws o u.cells) p).1= .fl .undef:=by
  intro p
  match p with
  |[c]=>exact .inl ⟨c,rfl⟩
  |[]=>exact .inr rfl
  |_::_::_=>exact .inr rfl
 cases ho:(PV.ownL (s_ cs o v.cells.length)||v.own)with
 | true=>
   rw[ho,Ad rfl]at j;refine⟨_,RS.renh (f4:=f4) (v_:=v_) (X':=X0) R (Ren.seg_ok (a:=.x 0) (o:=0) (n:=v.cells.length) (b:=hd) (o':=o) (λh=>hx 0 h.symm)) (λl a q i r e0 e=>?_) ht hk Z (λf_ p=>?_) (λt=>?_) (λi=>Bf _) (by rw[j,F4,F];exact R.lsl) l2 l3 c1 c2 U l5⟩
   ·unfold Ren.seg at e;split at e
    ·cases e;rw[U];exact R.bdh l i _ e0
    split at e
    ·cases e;exact hhd i rfl
    split at e
    ·cases e
    cases e;rw[U];exact R.bdh l i _ e0
   ·by_cases L:f_=hd
    ·subst L;rw[G p];rcases hc1 p with⟨c,rfl⟩|h
     ·rw[J c];split
      ·rename_i O;refine .inl ⟨.x 0,[c-o],(k4 _).symm,λ_ r=>?_,λz D C y=>absurd y (C3 (Gy hc _).1 _ _ _)⟩;simp only[Dz,CL];rw[Ren.seg_mv (by omega) (by omega)];rw[show c-o-0+o=c by omega]
      rename_i O;refine .inl ⟨f_,[c],by rw[I];rfl,λ_ r=>?_,λz D C y=>absurd y (C3 (M c) _ _ _)⟩;exact Ren.seg_rest_b (λh=>hx 0 h.symm) (by omega) r
     exact .inr (A4 h)
    cases f_ with
    |x i=>exact .inr (A4 (GK i p))
    | s t=>
      simp only[Ak,j,Fa,F];split
      ·exact .inr (Dn (Ba p))
      rename_i z;have z:(Aa st.sl t).i6 hd=false:=(by simpa using z);exact .inl (Bm rfl (λ_=>Ren.u_ (by simp) (λh=>hsl t h.symm)) λhb' D C y N=>Ren.u_ (N 0) (Ef (v:=Aa st.sl t) z (p:=p) y))
    | b i=>
      refine(A (.b i) p L (by simp) (by simp)).elim (λg=>?_) (λg=>.inr (A4 g));rw[g];exact .inl (Bm rfl (λ_=>Ren.u_ (by simp) L) λz D C y=>absurd y (R.nobor_b i p z D C))
    | h i=>
      refine(A (.h i) p L (by simp) (by simp)).elim (λg=>?_) (λg=>.inr (A4 g));rw[g];exact .inl (Bm rfl (λ_=>Ren.u_ (by simp) L) λz D C y=>absurd y (R.nobor_h i p z D C))
   rw[j,Fa,F];split
   ·exact Bf _
   exact R.sh t
 | false =>
   rw[ho]at j;simp only[AZ,A5]at j;simp only[Cl]at ho;refine⟨_,RS.renh (f4:=f4) (v_:=v_) (X':=X0) R (Ren.drop_ok (.x 0)) (λl a q i r e0 e=>?_) ht hk Z (λf_ p=>?_) (λt=>?_) (λi=>Bf _) (by rw[j,F];exact R.lsl) l2 l3 c1 c2 U l5⟩
   ·have:=TS a q i r e;subst this;rw[U];exact R.bdh l i q e0
   ·have t:Tr us.hp ω v_.hp (λl=>Ag.ren (Ren.drop (.x 0)) (ω l)) (Ren.drop (.x 0)) (λ_=>False):=
     ⟨λl e=>⟨by simp[e,Ag.ren],ht l (λi=>by simp[e])⟩,λl hd p e _=>⟨by simp[e,Ag.ren],ht l (λi=>by simp[e])⟩,λl i e=>by simp[e,Ag.ren]⟩
    by_cases L:f_=hd
    ·subst L;rw[G p];rcases hc1 p with⟨c,rfl⟩|h
     ·rw[J c];split
      ·rename_i O;have Y:=(Gy hc (c-o)).1;have hov:(Aa v.cells (c-o)).qo=false:=by
        have hnt:∀vs,v≠.f8 vs:=(mL (R.shx 0) hc).2.1;have:=OR ho.2 [c-o];rw[On hnt]at this;exact this
       exact .inr ⟨λ_ _ _ y=>C3 Y _ _ _ y,(k3 _).tr t (λy=>by rw[hov]at y;cases y) (λz D C y=>absurd y (C3 Y _ _ _))⟩
      rename_i O;exact .inl ⟨f_,[c],by rw[I];rfl,λ_ r=>Ren.i7 (hx 0) _,λz D C y=>absurd y (C3 (M c) _ _ _)⟩
     exact .inr (A4 h)
    cases f_ with
    |x i=>exact .inr (A4 (GK i p))
    | s t'=>
      simp only[Ak,j,F];exact .inl (Bm rfl (λ_=>Ren.i7 (by simp)) λhb' D C y N=>Ren.i7 (N 0))
    | b i=>
      refine(A (.b i) p L (by simp) (by simp)).elim (λg=>?_) (λg=>.inr (A4 g));rw[g];exact .inl (Bm rfl (λ_=>Ren.i7 (by simp)) λz D C y=>absurd y (R.nobor_b i p z D C))
    | h i=>
      refine(A (.h i) p L (by simp) (by simp)).elim (λg=>?_) (λg=>.inr (A4 g));rw[g];exact .inl (Bm rfl (λ_=>Ren.i7 (by simp)) λz D C y=>absurd y (R.nobor_h i p z D C))
   rw[j,F];exact R.sh t
theorem mg{cs b:List PV}{o:Nat}(h1:∀c,(Aa cs c).lay=true)(i:∀c,(Aa b c).lay=true)(g:o+b.length<=cs.length)(c:Nat):(Aa (AY cs o b) c).lay=true:=by
 rw[Jh _ _ _ _ g];split
 ·exact i _
 exact h1 _
theorem Zhh(x:T_)(st:PS):(Ag.f' x st).2.bx=st.bx/\(Ag.f' x st).2.hp=st.hp/\(Ag.f' x st).2.sl.length=st.sl.length:=by
 cases x with
 |c v=>exact⟨rfl,rfl,rfl⟩
 | t n=>
   simp only[Ag.f',Gm];split
   ·split
    ·exact⟨rfl,rfl,rfl⟩
    exact⟨rfl,rfl,by simp[F4,Gz]⟩
   exact⟨rfl,rfl,rfl⟩
theorem bX{o:p_}{g:List (List V)}{b:Ac}(j:Af o us=some (.undef,g,b)){ω':Nat->W}(h:RS h0 ω0 ω' ρ st1 ⟨o.clears us.sl,g,b⟩ X0):Out2 o us h0 ω0 (.fl .undef) st1:=by
 refine⟨.undef,g,b,ω',ρ,j,?_⟩;have:=h.hand (v:=.fl .undef) (u:=.undef) (hd:=.x 0) (Bf _) (λp=>by rw[Ba];exact .undef _ _) (λp=>by rw[Ba];rfl) (λp i s n=>by rw[Ba];simp[PV.q]);exact this
theorem Zh8(R:RS h0 ω0 ω ρ st us X0){i n:Nat}{a x:T_}{v:PV}(e:TA i n a x st=some (v,st1)):Out2 (.U_ i n a x) us h0 ω0 v st1:=by
 unfold TA at e;obtain⟨ω1,g⟩:=R.mv0 x;obtain⟨A,y,q⟩:=Zhh x st;generalize Ag.f' x st=mo at e g A y q;obtain⟨w,s⟩:=mo;simp only at e g A y q;split at e
 ·rename_i j o O;have F:=R.ev_box O;split at e
  ·rename_i z;obtain⟨rfl,L,c2,J,I⟩:=z;cases e;obtain⟨N,M,k3,k4⟩:=g.hand_cells (i:=0) (v:=w) (u:=x.ev us.sl) rfl I;have C:∀k,Ao (Cf s.bx i (AY (Ao s.bx i) o w.cells)) k=if k=i then AY (Ao s.bx i) o w.cells else Ao s.bx k:=by
    intro k;rw[J4];simp[L]
   have G:∀k,A3 (C6 us.bx i (e_ (A3 us.bx i) o (x.ev us.sl).cells)) k=if k=i then e_ (A3 us.bx i) o (x.ev us.sl).cells else A3 us.bx k:=by
    intro k;rw[nI,<- g.lbx];simp[L]
   subst c2;have D:Af (.U_ i w.cells.length a x) us=some (.undef,C6 us.bx i (e_ (A3 us.bx i) o (x.ev us.sl).cells),us.hp):=by
    simp only[Af,F];rw[Ad ⟨trivial,by rw[<- g.lbx];exact L,N,by rw[<- g.lb i];exact J,M⟩]
   obtain⟨ω',h⟩:=g.storemv (f4:={ s with sl:=if PV.ownL (s_ (Ao s.bx i) o w.cells.length)||w.own then clr (.b i) s.sl else s.sl,bx:=Cf s.bx i (AY (Ao s.bx i) o w.cells) })
    (v_:={ us with bx:=C6 us.bx i (e_ (A3 us.bx i) o (x.ev us.sl).cells) }) (hd:=.b i) (cs:=Ao s.bx i) (ws:=A3 us.bx i) (o:=o) (by simp) (by simp) (by simp) I (λp=>rfl) (λp=>by simp only[Ak,C,G,Ad])
    (λf_ p h1 Z Y=>by
     cases f_ with
     |b k=>left;simp only[Ak,C,G];rw[Ae (λh=>h1 (by rw[h])),Ae (λh=>h1 (by rw[h]))]
     |s t=>exact absurd rfl (Z t)
     |x k=>exact absurd rfl (Y k)
     | h k=>exact .inl rfl) rfl rfl (g.lb i).symm J (g.cb i) (λ_ _=>rfl) (λl i e=>g.core.kind l (.inr ⟨i,e⟩)) rfl (by simp only[HY,nK];exact g.lbx) (λk=>by
       simp only[C,G];split
       ·rw[HW,Hf];exact g.lb i
       ·exact g.lb k) (λk c=>by
       simp only[C];split
       ·exact mg (g.cb i) (λc=>(Gy I c).1) J c
       exact g.cb k c) g.ch rfl (λk U=>(g.hp k U).2)
   exact bX D h
  cases e
 cases e
end
theorem qH{c:V}(i:c.flat=true)(h:Ac)(ω:Nat->W)(m:Md):RC h ω m (BT c) c/\(BT c).cell=true/\(∀j g b,(BT c).q≠some (.i6 j g b)):=by
 cases c<;>first|(simp[V.flat]at i;done)|exact⟨.v _ _ rfl,rfl,λ_ _ _ h=>by simp[BT,PV.q]at h⟩|exact⟨.nil _ _,rfl,λ_ _ _ h=>by simp[BT,PV.q]at h⟩
theorem QK:∀ {b:List V},b.all V.flat=true->BV (b.map BT)=true
 |[],_=>rfl
 | z::r,h=>by
   simp only[F7,Aj]at h;simp only[Cm,BV,Aj];exact⟨(qH h.1 [] (λ_=>.none) .fz).2.1,QK h.2⟩
theorem Zhc{b:List V}(c:Nat)(hc:c<b.length):Aa (b.map BT) c=BT (b[c]'hc)/\get b c=b[c]'hc:=by
 rw[D1,CZ,Im,Bc hc];exact⟨rfl,rfl⟩
theorem pS{b:List V}(s:b.all V.flat=true)(h:Ac)(ω:Nat->W)(m:Md)(c:Nat):RC h ω m (Aa (b.map BT) c) (get b c)/\Cs (Aa (b.map BT) c):=by
 rcases Bz c b.length with g|g
 ·obtain⟨x,u⟩:=Zhc c g;rw[x,u];obtain⟨h1,_,t⟩:=qH (DE.1 s _ (Fc g)) h ω m;exact⟨h1,λi n j=>t _ n j⟩
 rw[GC _ _ (by simpa using g)];exact⟨.undef _ _,λi n j=>by simp[PV.q]⟩
section
variable {h0:Ac} {ω0 ω:Nat->W} {ρ:Nat->Nat} {st f4 st1:PS} {us v_:St} {X X':CN}
theorem RS.handx(R:RS h0 ω0 ω ρ st us X0){v:PV}{u:V}(hs:A9 v u)(j:∀p,RC us.hp ω (.at (.x 0) p) (v.S_ p) (u.S_ p))(g:∀p,Cs (v.S_ p)):RS h0 ω0 ω ρ st us (X1 v u):=by
 have:=RS.ren (f4:=st) (v_:=us) (X':=X1 v u) R Ren.id_ok (λhd p i q e=>by simp[Ren.id]at e;exact e.1) (λf_ p=>?_) rfl R.sh (λi=>?_) R.lsl R.lbx R.lb R.cb R.ch rfl (λ_=>rfl)
 ·rwa [DF]at this
 ·cases f_ with
  | x i=>
    refine .inr ?_;rw[DF];by_cases hi:i=0
    ·subst hi;exact⟨g p,j p⟩
    exact A4 (F9 i hi p)
  |s t=>exact .inl (Bv rfl)
  |b t=>exact .inl (Bv rfl)
  |h t=>exact .inl (Bv rfl)
 by_cases hi:i=0
 ·subst hi;exact hs
 rw[D6 v u i hi];exact Bf _
theorem RS.handz(R:RS h0 ω0 ω ρ st us X0){b:List V}(g:b.all V.flat=true):RS h0 ω0 ω ρ st us (X1 (.agg (b.map BT)) (.agg b)):=by
 refine R.handx ⟨b,rfl,by simp⟩ (λp=>?_) (λp=>?_)
 ·match p with
  |[c]=>exact(pS g _ _ _ c).1
  |[]=>exact .undef _ _
  |_::_::_=>exact .undef _ _
 match p with
 |[c]=>exact(pS g us.hp ω .fz c).2
 |[]=>exact λi n j=>by simp[PV.S_,PV.q]
 |_::_::_=>exact λi n j=>by simp[PV.S_,PV.q]
theorem RS.newbox{v:PV}{u:V}(R:RS h0 ω0 ω ρ st us (X1 v u))(i:Nat)(hi:i<st.bx.length)(M:BV v.cells=true):∃ω',RS h0 ω0 ω' ρ { st with sl:=clr (.b i) (Hl i st.sl),bx:=Cf st.bx i v.cells } { us with sl:=r_ i us.sl,bx:=C6 us.bx i u.cells } (X1 (.box i 0) (.box i 0)):=by
 obtain⟨k1,k2,k3,Z⟩:=R.hand_cells (i:=0) (v:=v) (u:=u) rfl M;have N:∀k,Ao (Cf st.bx i v.cells) k=if k=i then v.cells else Ao st.bx k:=by
  intro k;rw[J4];simp[hi]
 have U:∀k,A3 (C6 us.bx i u.cells) k=if k=i then u.cells else A3 us.bx k:=by
  intro k;rw[nI,<- R.lbx];simp[hi]
 have g:∀t,Aa (clr (.b i) (Hl i st.sl)) t= .fl .undef\/(Aa (clr (.b i) (Hl i st.sl)) t=Aa st.sl t/\get (r_ i us.sl) t=get us.sl t/\(Aa st.sl t).i6 (.b i)=false):=by
  intro t;rw[Fa,Zcq,kO];by_cases I:Aa st.sl t= .fl .undef
  ·left;rw[I];rfl
  cases D : (Aa st.sl t).isBox i with
  |true=>left;rfl
  | false =>
    simp only[AZ,A5];cases hbb:(Aa st.sl t).i6 (.b i)with
    |true=>left;rfl
    | false =>
      right;refine⟨rfl,?_,rfl⟩;have f9:(get us.sl t).isBox i=false:=by
       have z:=λp=>R.core.rc (.s t) p;simp only[Ak]at z;have hs:=R.sh t;generalize Aa st.sl t=w at I D z hs;generalize get us.sl t=x at z hs;cases w with
       |agg cs=>obtain⟨ws,rfl,_⟩:=hs;rfl
       |f8 cs=>obtain⟨ws,rfl,_⟩:=hs;rfl
       | fl a=>
         have A:(∀v_,x≠.agg v_)/\∀v_,x≠.f8 v_:=by
          cases a<;>first|exact hs|exact absurd rfl I
         have r:=z [0];rw[Jg (λ_ h=>(by cases h)) (λ_ h=>(by cases h)),FX A.1 A.2]at r;cases r with
         |undef=>exact absurd rfl I
         |v _ _ J=>cases x<;>first|rfl|simp[V.flat]at J
       | box j o=>
         have r:=z [0];rw[Jg (λ_ h=>(by cases h)) (λ_ h=>(by cases h)),FX hs.1 hs.2]at r;cases r;exact D
       | _=>
         have r:=z [0];rw[Jg (λ_ h=>(by cases h)) (λ_ h=>(by cases h)),FX hs.1 hs.2]at r;cases r<;>rfl
      rw[f9];rfl
 refine⟨_,RS.ren (X':=X1 (.box i 0) (.box i 0)) R (Ren.mv_ok (.x 0) (.b i)) (Y9 (by simp)) (λf_ p=>?_) rfl (λt=>?_) (λj=>?_) (by simp[F4,ZcQ,Zc4,R.lsl]) (by simp[HY,nK,R.lbx]) (λk=>?_) (λk c=>?_) R.ch rfl (λ_=>rfl)⟩
 ·cases f_ with
  | x j =>
    refine .inr ?_;by_cases C:j=0
    ·subst C;have hq:∀p,((PV.box i 0).S_ p= .box i 0/\(V.box i 0).S_ p= .box i 0)\/(PV.box i 0).S_ p= .fl .undef:=by
      intro p
      match p with
      |[0]=>exact .inl ⟨rfl,rfl⟩
      |[]=>exact .inr rfl
      |(_+1)::_=>exact .inr rfl
      |0::_::_=>exact .inr rfl
     show Cs ((PV.box i 0).S_ p)/\RC _ _ _ ((PV.box i 0).S_ p) ((V.box i 0).S_ p);rcases hq p with⟨e1,e2⟩|e
     ·rw[e1,e2];exact⟨λi y n=>by simp[PV.q],.box _ _ _⟩
     rw[e];exact⟨λi y n=>by simp[PV.q],.undef _ _⟩
    exact A4 (F9 j C p)
  | s t=>
    simp only[Ak];rcases g t with h|⟨h1,O,Y⟩
    ·refine .inr ?_;rw[h];exact Dn (Ba p)
    rw[h1,O];exact .inl (Bm rfl (λ_=>Ren.l_ (by simp) (by simp)) λF y n e J=>Ren.l_ (J 0) (Ef (v:=Aa st.sl t) Y (p:=p) e))
  | b k=>
    simp only[Ak,N,U];by_cases L:k=i
    ·subst L;simp only[Ad]
     match p with
     |[]=>exact .inr (A4 rfl)
     |_::_::_=>exact .inr (A4 rfl)
     |[c]=>exact .inl ⟨.x 0,[c],(Z c).symm,λ_ r=>by simp[Ren.mv],λF y n G=>absurd G (C3 (Gy M c).1 _ _ _)⟩
    simp only[Ae L];exact .inl (Bm rfl (λ_=>Ren.l_ (by simp) (by simpa using L)) λF y n G=>absurd G (R.nobor_b k p F y n))
  |h k=>exact .inl (Bm rfl (λ_=>Ren.l_ (by simp) (by simp)) λF y n G=>absurd G (R.nobor_h k p F y n))
 ·simp only;rcases g t with h|⟨h1,O,Y⟩
  ·rw[h];exact Bf _
  rw[h1,O];exact R.sh t
 ·by_cases C:j=0
  ·subst C;exact⟨λ_ h=>(by cases h),λ_ h=>(by cases h)⟩
  rw[D6 _ _ j C];exact Bf _
 ·simp only[N,U];split
  ·exact k1.symm
  exact R.lb k
 simp only[N];split
 ·exact(Gy M c).1
 exact R.cb k c
theorem ZjO (R:RS h0 ω0 ω ρ st us X0) {i n:Nat} {x:T_} {v:PV}
 (e:(match Ag.f' x st with|(v,st)=>if i<st.bx.length/\v.cells.length=n/\BV v.cells=true then some (PV.box i 0,{ st with sl:=clr (.b i) (Hl i st.sl),bx:=Cf st.bx i v.cells })else none)=some (v,st1)):Out2 (.boxB i n x) us h0 ω0 v st1:=by
 obtain⟨ω1,g⟩:=R.mv0 x;generalize Ag.f' x st=mo at e g;obtain⟨w,s⟩:=mo;simp only at e g;split at e
 ·rename_i z;obtain⟨q,c2,j⟩:=z;cases e;obtain⟨y,t,_,_⟩:=g.hand_cells (i:=0) (v:=w) (u:=x.ev us.sl) rfl j;obtain⟨ω',h⟩:=g.newbox i q j;exact⟨_,_,_,ω',ρ,by simp only[Af];rw[Ad ⟨by rw[<- g.lbx];exact q,by rw[y,c2],t⟩],h⟩
 cases e
theorem QB{b:List V}(h:b.all V.flat=true):b.all V.cell=true:=by
 rw[DE]at h ⊢;intro x g;have:=h x g;cases x<;>first|rfl|simp[V.flat]at this
theorem Zg2(R:RS h0 ω0 ω ρ st us X0){i:Nat}{g:List V}(hi:i<st.bx.length)(j:g.all V.flat=true):Out2 (.d7 i g) us h0 ω0 (.box i 0) { st with sl:=clr (.b i) (Hl i st.sl),bx:=Cf st.bx i (g.map BT) }:=by
 obtain⟨ω',h⟩:=(R.handz j).newbox i hi (QK j);exact⟨_,_,_,ω',ρ,by simp only[Af];rw[Ad ⟨by rw[<- R.lbx];exact hi,QB j⟩];rfl,h⟩
end
theorem RC.und{h:Ac}{ω:Nat->W}{hd f_:Hd}{p p':List Nat}{q:Ql}{k:Nat}{v:PV}{u:V}(z:q.isOwn=false)(r:RC h ω (Md.sub (.at hd p) q k) v u):RC h ω (.at f_ p') (Ml q v) u:=by
 cases q with
 |own=>cases z
 |i5 w=>cases z
 | Z_=>
   cases r with
   |undef=>exact .undef _ _
   |v _ _ y=>exact .v _ _ y
   |nil=>exact .nil _ _
   |sl _ q es l o n b h1 t x A s i g j=>exact .sl _ _ _ _ _ _ b h1 t x (λ_ e=>by simp at e) s i g j
   |ep=>exact .undef _ _
   |box=>exact .undef _ _
 | i6 a c d=>
   cases r with
   |undef=>exact .undef _ _
   |v _ _ y=>exact .v _ _ y
   |nil _ q=>cases q<;>first|exact .nil _ _|exact .undef _ _
   | sl _ q es l o n b h1 t x A s i g j=>
     cases q with
     |own=>exact .sl _ _ _ _ _ _ b h1 t ⟨x,λe=>by cases e⟩ (λ_ e=>by simp at e) s i g j
     |i5 w=>exact .sl _ _ _ _ _ _ b h1 t ⟨x,λe=>by cases e⟩ (λ_ e=>by simp at e) s i g j
     |Z_=>exact .sl _ _ _ _ _ _ b h1 t x (λ_ e=>by simp at e) s i g j
     |i6=>exact .undef _ _
     |pre=>exact .undef _ _
   |ep _ q=>cases q<;>exact .undef _ _
   |box=>exact .undef _ _
 | pre a c=>
   cases r with
   |undef=>exact .undef _ _
   |v _ _ y=>exact .v _ _ y
   |nil _ q=>cases q<;>first|exact .nil _ _|exact .undef _ _
   | sl _ q es l o n b h1 t x A s i g j=>
     cases q with
     |own=>exact .sl _ _ _ _ _ _ b h1 t ⟨x,λe=>by cases e⟩ (λ_ e=>by simp at e) s i g j
     |i5 w=>exact .sl _ _ _ _ _ _ b h1 t ⟨x,λe=>by cases e⟩ (λ_ e=>by simp at e) s i g j
     |Z_=>exact .sl _ _ _ _ _ _ b h1 t x (λ_ e=>by simp at e) s i g j
     |i6=>exact .undef _ _
     |pre=>exact .undef _ _
   |ep _ q=>cases q<;>exact .undef _ _
   |box=>exact .undef _ _
theorem fQ{q:Ql}{v:PV}(j:∀i,q.hd≠some (.x i)):(Ml q v).sc/\(Ml q v).qo=false/\Cs (Ml q v):=by
 have z:∀(hd:Hd) (es:List (List PV)),q.hd=some hd->(PV.sl (.i6 hd [] false) es).sc/\(PV.sl (.i6 hd [] false) es).qo=false/\Cs (PV.sl (.i6 hd [] false) es):=by
  intro hd es e;refine⟨⟨λ_ h=>(by cases h),λ_ h=>(by cases h)⟩,rfl,λi g b h=>?_⟩;simp[PV.q]at h;exact j i (by rw[e,h.1])
 have y:∀es,(PV.sl .Z_ es).sc/\(PV.sl .Z_ es).qo=false/\Cs (PV.sl .Z_ es):=λes=>⟨⟨λ_ h=>(by cases h),λ_ h=>(by cases h)⟩,rfl,λi g b=>by simp[PV.q]⟩;have x:∀a,(PV.fl a).sc/\(PV.fl a).qo=false/\Cs (PV.fl a):=λa=>⟨⟨λ_ h=>(by cases h),λ_ h=>(by cases h)⟩,rfl,λi g b=>by simp[PV.q]⟩;unfold Ml;split<;>first|exact x _|exact y _|exact z _ _ rfl
theorem pc(q:Ql)(cs:List PV)(k:Nat):Aa (Gk q cs) k=Ml q (Aa cs k)\/(cs.length<=k/\Aa (Gk q cs) k= .fl .undef):=by
 induction cs generalizing k with
 |nil=>exact .inr ⟨by simp,rfl⟩
 | cons x r ih=>cases k with
   |zero=>exact .inl rfl
   | succ k=>
     rcases ih k with h|⟨h1,b⟩
     ·exact .inl h
     exact .inr ⟨by simp;omega,b⟩
theorem oC(q:Ql)(cs:List PV):(Gk q cs).length=cs.length:=by
 induction cs with
 |nil=>rfl
 |cons x r b=>simp[Gk,b]
section
variable {h0:Ac} {ω0 ω:Nat->W} {ρ:Nat->Nat} {st f4 st1:PS} {us v_:St} {X X':CN}
theorem RS.Y_(R:RS h0 ω0 ω ρ st us X){i:Nat}(hi:i<st.hp.length):∃b,us.hp[ρ i]?=some b/\b.k= .own/\A6 us.hp (ρ i)=b.cs:=by
 obtain⟨b,h1,g⟩:=R.core.kind (ρ i) (.inr ⟨i,(R.hp i hi).1⟩);exact⟨b,h1,g,by simp[A6,h1]⟩
theorem pR (R:RS h0 ω0 ω ρ st us X0){m:Bool}{n:Option Nat}{a:T_}{v:PV}(e:Jp m n (a.t7 st.sl) st=some (v,st1)):Out2 (.g9 n a) us h0 ω0 v st1:=by
 unfold Jp at e;split at e
 ·rename_i i o M;obtain⟨G,_⟩:=R.ev_ptr M;split at e
  ·rename_i hc;obtain⟨hi,y⟩:=hc;obtain⟨b,hb1,hb2,L⟩:=R.Y_ hi;have C:(A6 us.hp (ρ i)).length=(Ao st.hp i).length:=(R.hp i hi).2;have A:rd us.hp (ρ i) o (n.getD 1)=some (((A6 us.hp (ρ i)).drop o).take (n.getD 1)):=by
    simp[rd,hb1,hb2,L];rw[<- L,C];exact y
   split at e
   ·simp only [Ch]at e;obtain⟨v',e,J⟩:=e;cases J;have N:∀k,Ao (Cf st.hp i (AY (Ao st.hp i) o (Dt (s_ (Ao st.hp i) o (n.getD 1))))) k=if k=i then AY (Ao st.hp i) o (Dt (s_ (Ao st.hp i) o (n.getD 1)))else Ao st.hp k:=by
     intro k;rw[J4];simp[hi]
    obtain⟨u,ω',h1,h2,_⟩:=R.loadmv (λp=>Ba p) (λ_ _=>rfl) (f4:={ st with sl:=clr (.h i) st.sl,hp:=Cf st.hp i (AY (Ao st.hp i) o (Dt (s_ (Ao st.hp i) o (n.getD 1)))) }) (hd:=.h i) (cs:=Ao st.hp i) (ws:=A6 us.hp (ρ i)) (by simp) (by simp)
     (λp => rfl) (λp=>by simp only[Ak,N,Ad]) (λf_ p h h'=>by
      cases f_ with
      |h k=>simp only[Ak,N];rw[Ae (λh2=>h (by rw[h2]))]
      |s t=>exact absurd rfl (h' t)
      | _ => rfl) rfl C y (R.ch i) R.lbx R.lb R.cb (λk c=>by
        simp only[N];split
        ·rw[Jh _ _ _ _ (by rw[MW,F3 y];exact y)];split
         ·rw[QR];split
          ·rfl
          rw[DY];split
          ·exact R.ch i _
          rfl
         exact R.ch i c
        ·exact R.ch k c) (by simp[HY]) (λk=>by
        simp only[N];split
        ·rename_i Y;rw[Y,HW]
        rfl) e
    exact⟨u,us.bx,us.hp,ω',ρ,by simp only[Af,G,A,Jn,h1],h2⟩
   simp only[Ch]at e;obtain⟨v',e,J⟩:=e;cases J;have O:∀c,RC us.hp ω (.at (.h i) [c]) (Aa (Ao st.hp i) c) (get (A6 us.hp (ρ i)) c):=λc=>R.core.rc (.h i) [c];refine(λ⟨u,e1,e2⟩=>⟨u,us.bx,us.hp,ω,ρ,by simp only[Af,G,A,Jn,e1],e2⟩:_->_) (R.handL (hd:=.h i) (ws:=((A6 us.hp (ρ i)).drop o).take (n.getD 1)) e (by rw[XJ,F3 y];simp;omega) (λc=>?_) (λc=>?_) (λc=>?_) (λc=>?_))
   ·rw[Hn];refine YJ ?_;rw[DY];split
    ·exact Ue (R.ch i _)
    exact OI
   ·rw[Hn,DY,H6];split
    ·exact(O (o+c)).brw
    exact .undef _ _
   ·rw[Hn];exact Ze
   rw[Hn,DY];split
   ·exact X8 (by simp) (Zlo R i _)
   exact λi pb tp=>by simp[Dd,PV.q]
  cases e
 ·rename_i q es j o M;split at e
  ·rename_i hc;obtain⟨c1,c2,c3⟩:=hc;simp only[Ch]at e;obtain⟨v',e,J⟩:=e;cases J;obtain⟨hd,_,r⟩:=R.ev_one M (λ_ h=>(by cases h)) (λ_ h=>(by cases h)) (λ_ h=>(by cases h));have U:=R.ev_nobx a [0];rw[M]at U;have D:∀i,q.hd≠some (.x i):=by
    intro i h;cases q with
    |i6 a b t=>simp[Ql.hd]at h;subst h;exact U i b t rfl
    |pre a b=>simp[Ql.hd]at h;subst h;exact U i b true rfl
    |_=>simp[Ql.hd]at h
   generalize hu:a.ev us.sl=u at r;cases r with
   | ep _ _ _ _ _ l o1 p b h1 Y hq hcc hw y hr hp=>
     have I:=Yp hw c1;rw[I]at c2;have Z:(j+1)*b.w<=es.length*b.w:=Hz _ c1;rw[D2,FF]at Z;have A:rd us.hp l p (n.getD 1)=some ((b.cs.drop p).take (n.getD 1)):=by
      rw[rd,h1];simp only;rw[Ad ⟨Y,by omega⟩]
     have z:(s_ (Bs es j) o (n.getD 1)).length=n.getD 1:=F3 (by rw[I];exact c2);have g:∀c,(c<n.getD 1/\Aa (Gk q (s_ (Bs es j) o (n.getD 1))) c=Ml q (Aa es.flatten (j*b.w+(o+c)))/\get ((b.cs.drop p).take (n.getD 1)) c=get b.cs (o1+(j*b.w+(o+c)))/\j*b.w+(o+c)<es.length*b.w)\/Aa (Gk q (s_ (Bs es j) o (n.getD 1))) c= .fl .undef:=by
      intro c;by_cases F:c<n.getD 1
      ·refine .inl ⟨F,?_,?_,by omega⟩
       ·rcases pc q (s_ (Bs es j) o (n.getD 1)) c with h|⟨h,_⟩
        ·rw[h,DY,Ad F,<- LQ hw j (o+c) (by omega)]
        rw[z]at h;omega
       rw[H6,Ad F,hp];congr 1;omega
      rcases pc q (s_ (Bs es j) o (n.getD 1)) c with h|⟨_,h⟩
      ·exact .inr (by rw[GC _ _ (by rw[oC,z];omega)])
      exact .inr h
     refine(λ⟨u,e1,e2⟩=>⟨u,us.bx,us.hp,ω,ρ,by simp only[Af,hu,A,Jn,e1],e2⟩:_->_) (R.handL (hd:=.x 0) (ws:=(b.cs.drop p).take (n.getD 1)) e (by rw[oC,z];simp;omega) (λc=>?_) (λc=>?_) (λc=>?_) (λc=>?_))
     ·rcases g c with⟨_,h,_⟩|h
      ·rw[h];exact(fQ D).1
      rw[h];exact OI
     ·rcases g c with⟨_,h,h',h''⟩|h
      ·rw[h,h'];exact(hr _ h'').und hq
      rw[h];exact .undef _ _
     ·rcases g c with⟨_,h,_⟩|h
      ·rw[h];exact(fQ D).2.1
      rw[h];rfl
     rcases g c with⟨_,h,_⟩|h
     ·rw[h];exact(fQ D).2.2
     rw[h];exact λi pb tp=>by simp[PV.q]
  cases e
 cases e
theorem Zgo (R:RS h0 ω0 ω ρ st us X0) {n:Nat} {a x:T_} {v w:PV} {s:PS} {i o:Nat} (O:Ag.f' x st=(w,s)) (hx:a.t7 s.sl= .ptr i o)
 (e:(if i<s.hp.length/\w.cells.length=n/\o+n<=(Ao s.hp i).length/\BV w.cells=true then
  some (PV.fl V.undef,{ s with sl:=if PV.ownL (s_ (Ao s.hp i) o n)||w.own then clr (.h i) s.sl else s.sl,hp:=Cf s.hp i (AY (Ao s.hp i) o w.cells) })else none)=some (v,st1)):Out2 (.f6 n a x) us h0 ω0 v st1:=by
 obtain⟨ω1,g⟩:=R.mv0 x;rw[O]at g;obtain⟨L,_⟩:=g.ev_ptr hx;split at e
 ·rename_i D;obtain⟨hi,c2,Y,U⟩:=D;cases e;subst c2;obtain⟨Z,k2,k3,k4⟩:=g.hand_cells (i:=0) (v:=w) (u:=x.ev us.sl) rfl U;obtain⟨b,A,F,M⟩:=g.Y_ hi;have y:(A6 us.hp (ρ i)).length=(Ao s.hp i).length:=(g.hp i hi).2;have J:o+(x.ev us.sl).cells.length<=b.cs.length:=by
   have:=y;rw[M]at this;rw[Z,this];exact Y
  have I:wr us.hp (ρ i) o (x.ev us.sl).cells=some (us.hp.set (ρ i) { b with cs:=e_ b.cs o (x.ev us.sl).cells }):=by
   rw[wr,A];simp only;rw[Ad ⟨F,J⟩]
  have G:∀k,Ao (Cf s.hp i (AY (Ao s.hp i) o w.cells)) k=if k=i then AY (Ao s.hp i) o w.cells else Ao s.hp k:=by
   intro k;rw[J4];simp[hi]
  have h_:ρ i<us.hp.length:=BB A;have q:∀l,(us.hp.set (ρ i) { b with cs:=e_ b.cs o (x.ev us.sl).cells })[l]?=if l=ρ i then some { b with cs:=e_ b.cs o (x.ev us.sl).cells }else us.hp[l]?:=by
   intro l;rw[Hw];by_cases h:ρ i=l
   ·subst h;simp[h_]
   rw[Ae h,Ae (λh'=>h h'.symm)]
  have N:∀k,k<s.hp.length->A6 (us.hp.set (ρ i) { b with cs:=e_ b.cs o (x.ev us.sl).cells }) (ρ k)=if k=i then e_ (A6 us.hp (ρ i)) o (x.ev us.sl).cells else A6 us.hp (ρ k):=by
   intro k z;simp only[A6,q];by_cases h:k=i
   ·subst h;simp[A]
   have:ρ k≠ρ i:=by
    intro e;have h1:=(g.hp k z).1;rw[e,(g.hp i hi).1]at h1;cases h1;exact h rfl
   rw[Ae this,Ae h]
  obtain⟨ω',h⟩:=g.storemv (f4:={ s with sl:=if PV.ownL (s_ (Ao s.hp i) o w.cells.length)||w.own then clr (.h i) s.sl else s.sl,hp:=Cf s.hp i (AY (Ao s.hp i) o w.cells) })
   (v_:={ us with hp:=us.hp.set (ρ i) { b with cs:=e_ b.cs o (x.ev us.sl).cells } }) (hd:=.h i) (cs:=Ao s.hp i) (ws:=A6 us.hp (ρ i)) (o:=o) (by simp) (by simp) (λk z=>by cases z;simp only[HY];exact hi) U (λp=>rfl)
   (λp=>by simp only[Ak,G,Ad];rw[N i hi,Ad rfl])
   (λf_ p h1 h2 h3=>by
    cases f_ with
    |b k=>exact .inl rfl
    |s t=>exact absurd rfl (h2 t)
    |x k=>exact absurd rfl (h3 k)
    | h k=>
      have C:k≠i:=λh=>h1 (by rw[h]);simp only[Ak,G,Ae C];rcases Bz k s.hp.length with z|z
      ·left;rw[N k z,Ae C]
      right;have hz:Ao s.hp k=[]:=(by rw[Dx,BR z];rfl);rw[hz];unfold Be;split<;>rfl) rfl rfl y Y (g.ch i) (λl hl=>by
    simp only[q];rw[Ae (λh=>hl i (by rw[h];exact(g.hp i hi).1))]) (λl j e=>by
    simp only[q];split
    ·exact⟨_,rfl,F⟩
    ·exact g.core.kind l (.inr ⟨j,e⟩)) (by simp) g.lbx g.lb g.cb (λk c=>by
    simp only[G];split
    ·exact mg (g.ch i) (λc=>(Gy U c).1) Y c
    ·exact g.ch k c) (by simp[HY]) (λk z=>by
    simp only[G];rw[N k z];split
    ·rw[Hf,HW];exact y
    exact(g.hp k z).2)
  exact bX (o:=.f6 w.cells.length a x) (by simp only[Af,L];rw[Ad ⟨Z,k2⟩,I];rfl) h
 cases e
end
end
end Go.Ag
