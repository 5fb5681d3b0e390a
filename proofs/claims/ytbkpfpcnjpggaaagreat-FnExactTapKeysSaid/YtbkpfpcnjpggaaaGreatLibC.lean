/- Part 3 of what FnExactTapKeys needs. No conditions. -/
import Derived.Test.YtbkpfpcnjpggaaaGreatLibB
namespace Go.Ag
set_option linter.unusedSimpArgs false
set_option linter.unusedVariables false
noncomputable section
section
variable {h0:Ac} {ω0 ω:Nat->W} {ρ ρ':Nat->Nat} {st f4 st1:PS} {us v_:St} {X X':CN}
def Co(f:Ren)(n:Nat)(w0:W)(T:Nat->Bool)(ω:Nat->W):Nat->W:=λl=>if l=n then w0 else if T l then .none else ren f (ω l)
def fm(f:Ren)(ω:Nat->W)(T:Nat->Bool)(A:JO)(g:PV×V)(f_:Hd)(p':List Nat):Prop:=
 ∃hd p,g=A hd p/\(g.1.qo=true->(∀l r,ω l= .own hd (p++r)->T l=false)/\∀r,f hd (p++r)= .own f_ (p'++r)) /\
   ∀b n j,g.1.q=some (.i6 b n j)->(∀i,b≠.x i)->(∀l q,ω l= .own b q->T l=false)/\(j=true->f.still b)/\f.soft b
theorem eB {h:Ac} {ω:Nat->W} {f:Ren} {w0:W} {T:Nat->Bool} {h1:Ac} {Y_:Blk} (x:h1.length=h.length) (q:∀l,T l=false->h1[l]?=h[l]?)
 (t:∀l,T l=true->∃hd p,ω l= .own hd p) (s:∀l,ω l≠.none->l<h.length):Tr h ω (h1++[Y_]) (Co f h.length w0 T ω) f (λl=>T l=true):=by
 have g:∀l,ω l≠.none->T l=false->(h1++[Y_])[l]?=h[l]?/\Co f h.length w0 T ω l=ren f (ω l):=by
  intro l u ht;have:=s l u;refine⟨by rw[Bp (by omega),q l ht],?_⟩;unfold Co;rw[Ae (by omega),Ae (by simp[ht])]
 have j:∀l,(∀hd p,ω l≠.own hd p)->T l=false:=by
  intro l n;cases ht:T l with
  |false=>rfl
  |true=>obtain⟨hd,p,e⟩:=t l ht;exact absurd e (n hd p)
 refine⟨λl e=>?_,λl hd p e ht=>?_,λl i e=>?_⟩
 ·obtain⟨a,b⟩:=g l (by simp[e]) (j l (by simp[e]));exact⟨by rw[b,e];rfl,a⟩
 ·obtain⟨a,b⟩:=g l (by simp[e]) (by simpa using ht);exact⟨by rw[b,e];rfl,a⟩
 obtain⟨a,b⟩:=g l (by simp[e]) (j l (by simp[e]));rw[b,e];rfl
theorem Core.notNone{h:Ac}{ω:Nat->W}{A:JO}(c:Core h ω A)(l:Nat)(e:ω l≠.none):l<h.length:=by
 cases g:ω l with
 |none=>exact absurd g e
 |Z_=>exact c.lt l g
 |own a q=>obtain⟨b,j,_⟩:=c.kind l (.inl ⟨a,q,g⟩);exact BB j
 |ptr i=>obtain⟨b,j,_⟩:=c.kind l (.inr ⟨i,g⟩);exact BB j
theorem RS.push (R:RS h0 ω0 ω ρ st us X) {f:Ren} (N:f.Ok) {w0:W} {T:Nat->Bool} {h1:Ac} {Y_:Blk} (hbk:Y_.k= .own) (Y:h1.length=us.hp.length) (Z:∀l,T l=false->h1[l]?=us.hp[l]?) (s:v_.hp=h1++[Y_])
 (hT:∀l,T l=true->∃hd p,ω l= .own hd p) (hw0:(∃hd p,w0= .own hd p)\/∃i,w0= .ptr i) (j:∀l,T l=false->Ag.ren f (ω l)≠w0)
 (hA:∀hd p,fm f ω T (Ak ρ st us X) (Ak ρ' f4 v_ X' hd p) hd p\/Cs (Ak ρ' f4 v_ X' hd p).1/\RC v_.hp (Co f us.hp.length w0 T ω) (.at hd p) (Ak ρ' f4 v_ X' hd p).1 (Ak ρ' f4 v_ X' hd p).2)
 (hs:∀t,A9 (Aa f4.sl t) (get v_.sl t)) (hx:∀i,A9 (X' i).1 (X' i).2) (l1:f4.sl.length=v_.sl.length) (l2:f4.bx.length=v_.bx.length)
 (l3:∀i,(Ao f4.bx i).length=(A3 v_.bx i).length) (c1:∀i c,(Aa (Ao f4.bx i) c).lay=true) (c2:∀i c,(Aa (Ao f4.hp i) c).lay=true)
 (l4:∀i,i<f4.hp.length->Co f us.hp.length w0 T ω (ρ' i)= .ptr i/\(A6 v_.hp (ρ' i)).length=(Ao f4.hp i).length)
 (l5:∀l i,Co f us.hp.length w0 T ω l= .ptr i->i<f4.hp.length) (l6:∀l i p,Co f us.hp.length w0 T ω l= .own (.h i) p->i<f4.hp.length):
 RS h0 ω0 (Co f us.hp.length w0 T ω) ρ' f4 v_ X':=by
 have t:=eB (h:=us.hp) (ω:=ω) (f:=f) (w0:=w0) (T:=T) (Y_:=Y_) Y Z hT R.core.notNone;have n:∀l,(l=us.hp.length/\Co f us.hp.length w0 T ω l=w0)\/(l≠us.hp.length/\T l=true/\Co f us.hp.length w0 T ω l= .none)\/(l≠us.hp.length/\T l=false/\Co f us.hp.length w0 T ω l=Ag.ren f (ω l)):=by
  intro l;unfold Co;by_cases h:l=us.hp.length
  ·exact .inl ⟨h,by rw[Ad h]⟩
  rw[Ae h];cases ht:T l with
  |true=>exact .inr (.inl ⟨h,rfl,rfl⟩)
  |false=>exact .inr (.inr ⟨h,rfl,rfl⟩)
 have I:∀l l',(∀hd p,Co f us.hp.length w0 T ω l= .own hd p->Co f us.hp.length w0 T ω l'= .own hd p->l=l')/\∀i,Co f us.hp.length w0 T ω l= .ptr i->Co f us.hp.length w0 T ω l'= .ptr i->l=l':=by
  intro l l';rcases n l with⟨a,b⟩|⟨a,b,c⟩|⟨a,b,c⟩
  ·rcases n l' with⟨G,u⟩|⟨G,u,c'⟩|⟨G,u,c'⟩
   ·exact⟨λ_ _ _ _=>(by rw[a,G]),λ_ _ _=>(by rw[a,G])⟩
   ·exact⟨λ_ _ _ e=>(by rw[c']at e;cases e),λ_ _ e=>(by rw[c']at e;cases e)⟩
   refine⟨λhd p e g=>?_,λi e g=>?_⟩
   ·rw[b]at e;rw[c']at g;exact absurd (g.trans e.symm) (j l' u)
   rw[b]at e;rw[c']at g;exact absurd (g.trans e.symm) (j l' u)
  ·exact⟨λ_ _ e=>(by rw[c]at e;cases e),λ_ e=>(by rw[c]at e;cases e)⟩
  rcases n l' with⟨G,u⟩|⟨G,u,c'⟩|⟨G,u,c'⟩
  ·refine⟨λhd p e g=>?_,λi e g=>?_⟩
   ·rw[c]at e;rw[u]at g;exact absurd (e.trans g.symm) (j l b)
   rw[c]at e;rw[u]at g;exact absurd (e.trans g.symm) (j l b)
  ·exact⟨λ_ _ _ e=>(by rw[c']at e;cases e),λ_ _ e=>(by rw[c']at e;cases e)⟩
  refine⟨λhd p e g=>?_,λi e g=>?_⟩
  ·rw[c]at e;rw[c']at g;obtain⟨x,q,F,e2⟩:=D0 e;obtain⟨x',q',e1',e2'⟩:=D0 g;obtain⟨rfl,rfl⟩:=N.inj x q x' q' hd p e2 e2';exact R.core.inj l l' x q F e1'
  rw[c]at e;rw[c']at g;exact R.core.injp l l' i (Ez N e) (Ez N g)
 have C:v_.hp.length=us.hp.length+1:=by rw[s];simp[Y]
 have M:∀l,ω l≠.none->T l=false->v_.hp[l]?=us.hp[l]?:=by
  intro l f9 ht;have:=R.core.notNone l f9;rw[s,Bp (by omega),Z l ht]
 refine⟨⟨λhd p=>?_,λl l' hd p=>(I l l').1 hd p,λl l' i=>(I l l').2 i,λl e=>?_,λl e=>?_⟩,hs,hx,l1,l2,l3,c1,c2,l4,l5,l6,⟨?_,λl D e=>?_,λl D e=>?_,λl i e=>?_⟩,λhd p i L J=>?_⟩
 ·rcases hA hd p with⟨a,b,e,O,hb⟩|h
  ·have U:=R.nx a b;rw[e]at O hb ⊢;rw[s];exact(R.core.rc a b).tr t (λg=>⟨λl r h=>by simp[(O g).1 l r h],(O g).2⟩) (λhb' L J g=>by
    obtain⟨x,y,z⟩:=hb hb' L J g (λi h=>by subst h;exact U i L J g);exact⟨λl q h=>by simp[x l q h],y,z⟩)
  exact h.2
 ·rcases n l with⟨a,b⟩|⟨a,b,c⟩|⟨a,b,c⟩
  ·exact⟨Y_,by rw[s,a,<- Y];simp,hbk⟩
  ·rw[c]at e;rcases e with⟨_,_,e⟩|⟨_,e⟩<;>cases e
  rw[c]at e;have:(∃hd p,ω l= .own hd p)\/∃i,ω l= .ptr i:=by
   rcases e with⟨hd,p,e⟩|⟨i,e⟩
   ·obtain⟨x,q,F,_⟩:=D0 e;exact .inl ⟨x,q,F⟩
   exact .inr ⟨i,Ez N e⟩
  obtain⟨u,h1',h2'⟩:=R.core.kind l this;exact⟨u,by rw[M l (by rcases this with⟨_,_,h⟩|⟨_,h⟩<;>simp[h]) b];exact h1',h2'⟩
 ·rw[C];rcases n l with⟨a,b⟩|⟨a,b,c⟩|⟨a,b,c⟩
  ·omega
  ·rw[c]at e;cases e
  have:ω l≠.none:=(by intro h;rw[c,h]at e;cases e);have:=R.core.notNone l this;omega
 ·rw[C];have:=R.fr.len;omega
 ·obtain⟨a,b⟩:=R.fr.old l D e;have h_:l<us.hp.length:=(by have:=R.fr.len;omega);have A:T l=false:=by
   cases ht:T l with
   |false=>rfl
   | true=>
     obtain⟨hd,p,g⟩:=hT l ht;rw[g]at b;rcases e with e|e<;>rw[e]at b<;>cases b
  refine⟨by rw[s,Bp (by omega),Z l A,a],?_⟩;unfold Co;rw[Ae (by omega),Ae (by simp[A]),b];rcases e with e|e<;>rw[e]<;>rfl
 ·have h_:l<us.hp.length:=(by have:=R.fr.len;omega);unfold Co at e;rw[Ae (by omega)]at e;split at e
  ·cases e
  exact(R.fr.ren f).new l D e
 ·have F:=R.fr.ptr l i e;have h_:=R.core.notNone l (by rw[F];simp);have A:T l=false:=by
   cases ht:T l with
   |false=>rfl
   |true=>obtain⟨hd,p,g⟩:=hT l ht;rw[F]at g;cases g
  unfold Co;rw[Ae (by omega),Ae (by simp[A]),F];rfl
 rcases hA hd p with⟨a,b,e,_⟩|h
 ·rw[e];exact R.nx a b i L J
 exact h.1 i L J
def JR:Nat->Bool:=λ_=>false
theorem LM {f:Ren} {A:JO} {s:PV×V} {hd:Hd} {p:List Nat} {T:Nat->Bool} (e:s=A hd p) (t:∀l q,ω l= .own hd q->T l=false) (h:s.1.qo=true->f.still hd)
 (b:∀b n j,s.1.q=some (.i6 b n j)->(∀i,b≠.x i)->(∀l q,ω l= .own b q->T l=false)/\f.still b):fm f ω T A s hd p:=
 ⟨hd,p,e,λe=>⟨λl r=>t l _,λ_=>h e _⟩,λg n j e h'=>⟨(b g n j e h').1,λ_=>(b g n j e h').2,(b g n j e h').2.soft⟩⟩
theorem RS.newptr{v:PV}{u:V}(R:RS h0 ω0 ω ρ st us (X1 v u))(N:BV v.cells=true):∃ω' ρ',RS h0 ω0 ω' ρ' { st with sl:=clr (.h st.hp.length) st.sl,hp:=st.hp++[v.cells] } { us with hp:=us.hp++[⟨.own,1,u.cells⟩] } (X1 (.ptr st.hp.length 0) (.ptr us.hp.length 0)):=by
 obtain⟨k1,k2,k3,k4⟩:=R.hand_cells (i:=0) (v:=v) (u:=u) rfl N;have G:∀k,Ao (st.hp++[v.cells]) k=if k=st.hp.length then v.cells else Ao st.hp k:=by
  intro k;rw[Dx,Dx];by_cases h:k=st.hp.length
  ·subst h;simp
  rw[Ae h];rcases Bz k st.hp.length with h1|h1
  ·rw[Bp h1]
  rw[BR (by simp;omega),BR h1]
 have U:∀k,k<st.hp.length->ρ k<us.hp.length:=λk L=>by obtain⟨b,h,_⟩:=R.Y_ L;exact BB h
 have Y:∀k,k<st.hp.length->A6 (us.hp++[(⟨.own,1,u.cells⟩:Blk)]) (ρ k)=A6 us.hp (ρ k):=λk L=>by simp only[A6];rw[Bp (U k L)]
 have Z:A6 (us.hp++[(⟨.own,1,u.cells⟩:Blk)]) us.hp.length=u.cells:=by simp[A6]
 have n:∀l,JR l=false->Ag.ren (Ren.mv (.x 0) (.h st.hp.length)) (ω l)≠.ptr st.hp.length:=λl _ e=>by
  have:=R.bdp l _ (Ez (Ren.mv_ok _ _) e);omega
 have J:∀l,l≠us.hp.length->Co (Ren.mv (.x 0) (.h st.hp.length)) us.hp.length (.ptr st.hp.length) JR ω l=Ag.ren (Ren.mv (.x 0) (.h st.hp.length)) (ω l):=λl h=>by simp[Co,h,JR]
 refine⟨_,upd ρ st.hp.length us.hp.length,RS.push (X':=X1 (.ptr st.hp.length 0) (.ptr us.hp.length 0)) R (Ren.mv_ok (.x 0) (.h st.hp.length)) (w0:=.ptr st.hp.length) (T:=JR) (h1:=us.hp) (Y_:=⟨.own,1,u.cells⟩) rfl rfl (λ_ _=>rfl) rfl (λl h=>by cases h) (.inr ⟨_,rfl⟩) n (λf_ p=>?_) (λt=>?_) (λj=>?_) (by simp[F4,R.lsl]) R.lbx R.lb R.cb (λk c=>?_) (λi hi=>?_) (λl i e=>?_) (λl i p e=>?_)⟩
 ·cases f_ with
  | x j =>
    refine .inr ?_;by_cases D:j=0
    ·subst D;have hq:∀p,((PV.ptr st.hp.length 0).S_ p= .ptr st.hp.length 0/\(V.ptr us.hp.length 0).S_ p= .ptr us.hp.length 0)\/(PV.ptr st.hp.length 0).S_ p= .fl .undef:=by
      intro p
      match p with
      |[0]=>exact .inl ⟨rfl,rfl⟩
      |[]=>exact .inr rfl
      |(_+1)::_=>exact .inr rfl
      |0::_::_=>exact .inr rfl
     show Cs ((PV.ptr st.hp.length 0).S_ p)/\RC _ _ _ ((PV.ptr st.hp.length 0).S_ p) ((V.ptr us.hp.length 0).S_ p);rcases hq p with⟨O,y⟩|e
     ·rw[O,y];exact⟨λi A z=>by simp[PV.q],.ptr _ _ _ _ _ (by simp[Co])⟩
     rw[e];exact⟨λi A z=>by simp[PV.q],.undef _ _⟩
    exact A4 (F9 j D p)
  | s t=>
    simp only[Ak,Fa];split
    ·exact .inr (Dn (Ba p))
    rename_i g;have g:(Aa st.sl t).i6 (.h st.hp.length)=false:=(by simpa using g);exact .inl (LM rfl (λ_ _ _=>rfl) (λ_=>Ren.l_ (by simp) (by simp)) λF A z e hx=>⟨λ_ _ _=>rfl,Ren.l_ (hx 0) (Ef (v:=Aa st.sl t) g (p:=p) e)⟩)
  |b i=>exact .inl (LM rfl (λ_ _ _=>rfl) (λ_=>Ren.l_ (by simp) (by simp)) λF A z I=>absurd I (R.nobor_b i p F A z))
  | h i =>
    by_cases hi:i=st.hp.length
    ·subst hi;have:Ak (upd ρ st.hp.length us.hp.length) { st with sl:=clr (.h st.hp.length) st.sl,hp:=st.hp++[v.cells] } { us with hp:=us.hp++[⟨.own,1,u.cells⟩] } (X1 (.ptr st.hp.length 0) (.ptr us.hp.length 0)) (.h st.hp.length) p=Be v.cells u.cells p:=by
      simp only[Ak,G,Ad,CR,Z]
     rw[this]
     match p with
     |[]=>exact .inr (A4 rfl)
     |_::_::_=>exact .inr (A4 rfl)
     |[c]=>exact .inl ⟨.x 0,[c],(k4 c).symm,λ_=>⟨λ_ _ _=>rfl,λr=>by simp[Ren.mv]⟩,λF A z I=>absurd I (C3 (Gy N c).1 _ _ _)⟩
    rcases Bz i st.hp.length with C|M
    ·have:Ak (upd ρ st.hp.length us.hp.length) { st with sl:=clr (.h st.hp.length) st.sl,hp:=st.hp++[v.cells] } { us with hp:=us.hp++[⟨.own,1,u.cells⟩] } (X1 (.ptr st.hp.length 0) (.ptr us.hp.length 0)) (.h i) p=Ak ρ st us (X1 v u) (.h i) p:=by
      simp only[Ak,G,Ae hi,DX _ _ _ _ hi,Y i C]
     rw[this];exact .inl (LM rfl (λ_ _ _=>rfl) (λ_=>Ren.l_ (by simp) (by simpa using hi)) λF A z I=>absurd I (R.nobor_h i p F A z))
    refine .inr (A4 ?_);have hz:Ao st.hp i=[]:=(by rw[Dx,BR M];rfl);simp only[Ak,G,Ae hi,hz];unfold Be;split<;>rfl
 ·simp only[Fa];split
  ·exact Bf _
  exact R.sh t
 ·by_cases D:j=0
  ·subst D;exact⟨λ_ h=>(by cases h),λ_ h=>(by cases h)⟩
  rw[D6 _ _ j D];exact Bf _
 ·simp only[G];split
  ·exact(Gy N c).1
  exact R.ch k c
 ·simp only[CM,A0,A7]at hi;simp only[G];by_cases h:i=st.hp.length
  ·subst h;rw[CR,Ad rfl,Z];exact⟨by simp[Co],k1⟩
  have C:i<st.hp.length:=(by omega);rw[DX _ _ _ _ h,Ae h,Y i C,J _ (by have:=U i C;omega),(R.hp i C).1];exact⟨rfl,(R.hp i C).2⟩
 ·simp only[CM,A0,A7];by_cases h:l=us.hp.length
  ·subst h;simp[Co]at e;omega
  rw[J l h]at e;have:=R.bdp l i (Ez (Ren.mv_ok _ _) e);omega
 simp only[CM,A0,A7];by_cases h:l=us.hp.length
 ·subst h;simp[Co]at e
 rw[J l h]at e;obtain⟨a,q,O,y⟩:=D0 e;unfold Ren.mv at y;split at y
 ·simp at y;omega
 split at y
 ·cases y
 simp at y;have:=R.bdh l i q (by rw[O,y.1]);omega
end
theorem Zgm{cs:List PV}(h:BV cs=true)(hd:Hd):PV.borL hd cs=false:=by
 cases e:PV.borL hd cs with
 |false=>rfl
 | true=>
   obtain⟨c,b⟩:=(XK hd cs).1 e;have:=(Gy h c).1;generalize Aa cs c=v at b this;cases v with
   |sl q es=>cases q<;>first|(simp[PV.i6]at b;done)|(simp[PV.lay]at this;done)
   |fl=>simp[PV.i6]at b
   |_=>simp[PV.lay]at this
theorem Zgk{cs:List PV}:BV cs=true↔∀c,c<cs.length->(Aa cs c).cell=true:=by
 induction cs with
 |nil=>simp[BV]
 | cons x r ih=>
   simp only[BV,Aj,ih];constructor
   ·rintro⟨h1,g⟩ c b;cases c with
    |zero=>exact h1
    |succ c=>exact g c (by simpa using b)
   exact λh=>⟨h 0 (by simp),λc b=>h (c+1) (by simpa using b)⟩
theorem Zdn{cs b:List PV}{o:Nat}(h1:BV cs=true)(j:BV b=true)(g:o+b.length<=cs.length):BV (AY cs o b)=true:=by
 rw[Zgk]at h1 j ⊢;intro c i;rw[HW]at i;rw[Jh _ _ _ _ g];split
 ·exact j _ (by omega)
 exact h1 _ i
def Ren.deep:Ren:=λhd p=>if hd= .x 0 then (match p with|[]=>.Z_|c::r=>.own (.x 0) (0::c::r))else .own hd p
theorem Ren.deep_ok:Ren.deep.Ok:=by
 refine⟨λhd p f_ p' x c e b=>?_,λhd p=>?_⟩
 ·unfold Ren.deep at e b;split at e
  ·rename_i h1;split at e
   ·cases e
   cases e;split at b
   ·rename_i g;split at b
    ·cases b
    simp at b;exact⟨h1.trans g.symm,by rw[b.1,b.2]⟩
   rename_i g;simp at b;exact absurd b.1 g
  rename_i h1;cases e;split at b
  ·split at b
   ·cases b
   simp at b;exact absurd b.1.symm h1
  simp at b;exact⟨b.1.symm,b.2.symm⟩
 unfold Ren.deep;split
 ·split
  ·exact .inl rfl
  exact .inr ⟨_,_,rfl⟩
 exact .inr ⟨_,_,rfl⟩
theorem Ren.deep_still{c:Hd}(h:c≠.x 0):Ren.deep.still c:=λp=>by simp[Ren.deep,h]
section
variable {h0:Ac} {ω0 ω:Nat->W} {ρ ρ':Nat->Nat} {st f4 st1:PS} {us v_:St} {X X':CN}
theorem ZhN(R:RS h0 ω0 ω ρ st us X0){b:List V}(g:b.all V.flat=true):Out2 (.allocH b) us h0 ω0 (.ptr st.hp.length 0) { st with sl:=clr (.h st.hp.length) st.sl,hp:=st.hp++[b.map BT] }:=by
 obtain⟨ω',ρ',h⟩:=(R.handz g).newptr (QK g);exact⟨_,_,_,ω',ρ',by simp only[Af];rw[Ad (QB g)];rfl,h⟩
theorem Zkl (R:RS h0 ω0 ω ρ st us X0) {n:Nat} {x:T_} {v:PV}
 (e:(match Ag.f' x st with|(v,st)=>if v.cells.length=n/\BV v.cells=true then some (PV.ptr st.hp.length 0,{ st with sl:=clr (.h st.hp.length) st.sl,hp:=st.hp++[v.cells] })else none)=some (v,st1)):Out2 (.boxH n x) us h0 ω0 v st1:=by
 obtain⟨ω1,b⟩:=R.mv0 x;generalize Ag.f' x st=mo at e b;obtain⟨w,s⟩:=mo;simp only at e b;split at e
 ·rename_i t;obtain⟨c2,g⟩:=t;cases e;obtain⟨q,j,_,_⟩:=b.hand_cells (i:=0) (v:=w) (u:=x.ev us.sl) rfl g;obtain⟨ω',ρ',h⟩:=b.newptr g;exact⟨_,_,_,ω',ρ',by simp only[Af];rw[Ad ⟨by rw[q,c2],j⟩],h⟩
 cases e
theorem RS.part{cs:List PV}{ws:List V}(R:RS h0 ω0 ω ρ st us (X1 (.agg cs) (.agg ws)))(M:BV cs=true)(x:T_){off size:Nat}(h1:(Ag.f' x st).1.cells.length=size)(Y:off+size<=cs.length)(D:BV (Ag.f' x st).1.cells=true):(x.ev us.sl).cells.length=size/\off+size<=ws.length/\(x.ev us.sl).cells.all V.cell=true /\
  ∃ω',RS h0 ω0 ω' ρ (Ag.f' x st).2 us (X1 (.agg (AY cs off (Ag.f' x st).1.cells)) (.agg (e_ ws off (x.ev us.sl).cells))):=by
 obtain⟨ω1,g⟩:=R.f' x 1 (λp=>by rw[D6 _ _ 1 (by simp)];exact Ba p) (λn j=>by
  by_cases q:j=0
  ·subst q;exact Zgm M _
  rw[D6 _ _ j q];rfl)
 generalize Ag.f' x st=mo at g h1 D ⊢;obtain⟨w,s⟩:=mo;simp only at g h1 D ⊢;obtain⟨J,U,Z,O⟩:=g.hand_cells (i:=1) (v:=w) (u:=x.ev us.sl) (by simp[Xs]) D;have G:ws.length=cs.length:=by
  have:=g.shx 0;simp only[Xs]at this;obtain⟨N,e,G⟩:=this;cases e;exact G
 subst h1;have F:∀c,Ak ρ s us (Xs (X1 (.agg cs) (.agg ws)) 1 w (x.ev us.sl)) (.x 0) [c]=(Aa cs c,get ws c):=λc=>rfl;refine⟨J,by omega,U,_,RS.ren (X':=X1 (.agg (AY cs off w.cells)) (.agg (e_ ws off (x.ev us.sl).cells))) g (Ren.seg_ok (a:=.x 1) (o:=0) (n:=w.cells.length) (b:=.x 0) (o':=off) (by simp)) (fF (by simp)) (λf_ p=>?_) rfl g.sh (λj=>?_) g.lsl g.lbx g.lb g.cb g.ch rfl (λ_=>rfl)⟩
 ·cases f_ with
  | x j =>
    by_cases q:j=0
    ·subst q
     match p with
     |[]=>exact .inr (A4 rfl)
     |_::_::_=>exact .inr (A4 rfl)
     | [c]=>
       have:Ak ρ s us (X1 (.agg (AY cs off w.cells)) (.agg (e_ ws off (x.ev us.sl).cells))) (.x 0) [c]=(Aa (AY cs off w.cells) c,get (e_ ws off (x.ev us.sl).cells) c):=rfl;rw[this,Jh _ _ _ _ Y,W3 _ _ _ _ (by omega),J];split
       ·rename_i I;refine .inl ⟨.x 1,[c-off],(O _).symm,λ_ r=>?_,λC A z y=>absurd y (C3 (Gy D _).1 _ _ _)⟩;simp only[Dz,CL];rw[Ren.seg_mv (by omega) (by omega),show c-off-0+off=c by omega]
       rename_i I;refine .inl ⟨.x 0,[c],(F c).symm,λ_ r=>?_,λC A z y=>absurd y (C3 (Gy M _).1 _ _ _)⟩;exact Ren.seg_rest_b (by simp) (by omega) r
    exact .inr (A4 (F9 j q p))
  |s t=>exact .inl (Bm rfl (λ_=>Ren.u_ (by simp) (by simp)) λC A z e L=>Ren.u_ (L 1) (L 0))
  |b i=>exact .inl (Bm rfl (λ_=>Ren.u_ (by simp) (by simp)) λC A z y=>absurd y (g.nobor_b i p C A z))
  |h i=>exact .inl (Bm rfl (λ_=>Ren.u_ (by simp) (by simp)) λC A z y=>absurd y (g.nobor_h i p C A z))
 by_cases q:j=0
 ·subst q;exact⟨_,rfl,by rw[Hf,HW];exact G⟩
 rw[D6 _ _ j q];exact Bf _
theorem bu:∀(i:List (Nat×Nat×T_)) {ω:Nat->W} {st st1:PS} {cs b:List PV} {ws:List V},RS h0 ω0 ω ρ st us (X1 (.agg cs) (.agg ws))->BV cs=true->EX cs i st=some (b,st1) ->
 ∃g ω',D4 us.sl ws i=some g/\BV b=true/\RS h0 ω0 ω' ρ st1 us (X1 (.agg b) (.agg g))
 | [],ω,st,st1,cs,b,ws,R,hc,e=>by
   simp only[EX,Ap,Aq]at e;obtain⟨rfl,rfl⟩:=e;exact⟨ws,ω,rfl,hc,R⟩
 | (off,size,x)::r,ω,st,st1,cs,b,ws,R,hc,e=>by
   simp only[EX]at e;split at e
   ·rename_i h;obtain⟨h1,n,j⟩:=h;obtain⟨z,y,u,ω',A⟩:=R.part hc x h1 n j;obtain⟨g,ω'',t,s,q⟩:=bu r A (Zdn hc j (by omega)) e;exact⟨g,ω'',by simp only[D4];rw[Ad ⟨z,y,u⟩];exact t,s,q⟩
   cases e
theorem Zi2 (R:RS h0 ω0 ω ρ st us X0) {b:List V} {g:List (Nat×Nat×T_)} {v:PV}
 (e:(if b.all V.flat=true then (EX (b.map BT) g st).map λ(cs,st)=>(PV.agg cs,st)else none)=some (v,st1)):Out2 (.build b g) us h0 ω0 v st1:=by
 split at e
 ·rename_i i;simp only[Ch]at e;obtain⟨⟨cs,s⟩,t,q⟩:=e;cases q;obtain⟨j,ω',h1,u,n⟩:=bu g (R.handz i) (QK i) t;exact⟨_,_,_,ω',ρ,by simp only[Af];rw[Ad (QB i),h1];rfl,n⟩
 cases e
theorem RS.newslice{cs:List PV}{ws:List V}(R:RS h0 ω0 ω ρ st us (X1 (.agg cs) (.agg ws)))(G:BV cs=true){es:List (List PV)}{w:Nat}(O:es≠[])(D:∀e∈es,e.length=w)(N:∀k,k<es.length*w->Aa es.flatten k=Aa cs k)(hl:es.length*w<=ws.length):∃ω',RS h0 ω0 ω' ρ st { us with hp:=us.hp++[⟨.own,w,ws⟩] } (X1 (.sl .own es) (.slice us.hp.length 0 es.length)):=by
 have Y:∀k,k<st.hp.length->ρ k<us.hp.length:=λk y=>by obtain⟨b,h,_⟩:=R.Y_ y;exact BB h
 have Z:∀k,k<st.hp.length->A6 (us.hp++[(⟨.own,w,ws⟩:Blk)]) (ρ k)=A6 us.hp (ρ k):=λk y=>by simp only[A6];rw[Bp (Y k y)]
 have z:∀l,JR l=false->Ag.ren Ren.deep (ω l)≠.own (.x 0) [0]:=λl _ e=>by
  obtain⟨a,q,_,u⟩:=D0 e;unfold Ren.deep at u;split at u
  ·split at u
   ·cases u
   simp at u
  rename_i h;simp at u;exact h u.1
 have J:∀l,l≠us.hp.length->Co Ren.deep us.hp.length (.own (.x 0) [0]) JR ω l=Ag.ren Ren.deep (ω l):=λl h=>by simp[Co,h,JR]
 have t:=eB (h:=us.hp) (ω:=ω) (f:=Ren.deep) (w0:=.own (.x 0) [0]) (T:=JR) (Y_:=⟨.own,w,ws⟩) (h1:=us.hp) rfl (λ_ _=>rfl) (λl h=>by cases h) R.core.notNone;refine⟨_,RS.push (X':=X1 (.sl .own es) (.slice us.hp.length 0 es.length)) R Ren.deep_ok (w0:=.own (.x 0) [0]) (T:=JR) (h1:=us.hp) (Y_:=⟨.own,w,ws⟩) rfl rfl (λ_ _=>rfl) rfl (λl h=>by cases h) (.inl ⟨_,_,rfl⟩) z (λf_ p=>?_) R.sh (λj=>?_) R.lsl R.lbx R.lb R.cb R.ch (λi hi=>?_) (λl i e=>?_) (λl i p e=>?_)⟩
 ·cases f_ with
  | x j =>
    refine .inr ?_;by_cases F:j=0
    ·subst F
     match p with
     |[]=>exact A4 rfl
     |(_+1)::_=>exact A4 rfl
     |0::_::_=>exact A4 rfl
     | [0] =>
       refine⟨λi C A=>by simp[Ak,X1,PV.S_,PV.q],?_⟩;refine RC.sl _ .own es us.hp.length 0 es.length ⟨.own,w,ws⟩ (by simp) (by simp) ⟨by simp[Co],rfl,rfl⟩ (λ_ _=>O) rfl D (by simpa using hl) λk y=>?_;rw[N k y,BJ];have r:=R.core.rc (.x 0) [k];have r':RC us.hp ω (.at (.x 0) [k]) (Aa cs k) (get ws k):=r;have g:=(Gy G k).1;have r2:RC us.hp ω (.inn (.x 0) [k]) (Aa cs k) (get ws k):=by
        generalize Aa cs k=a at r' g;generalize get ws k=b at r';cases r' with
        |undef=>exact .undef _ _
        |v _ _ L=>exact .v _ _ L
        |nil=>exact .nil _ _
        | sl _ q es' l o n b h1 y G f9 hn D hle hr=>
          cases q with
          |i6=>simp[PV.lay]at g
          |pre=>simp[PV.lay]at g
          |Z_=>exact .sl _ _ _ _ _ _ b h1 y G f9 hn D hle hr
          |own=>exact .sl _ _ _ _ _ _ b h1 y G f9 hn D hle hr
          |i5=>exact .sl _ _ _ _ _ _ b h1 y G f9 hn D hle hr
        |ep=>simp[PV.lay]at g
        |box=>simp[PV.lay]at g
        |ptr=>simp[PV.lay]at g
       exact r2.inn t (λl r _=>by simp[JR]) (λr=>by simp[Ren.deep])
    exact A4 (F9 j F p)
  |s t=>exact .inl (LM rfl (λ_ _ _=>rfl) (λ_=>Ren.deep_still (by simp)) λI C A e L=>⟨λ_ _ _=>rfl,Ren.deep_still (L 0)⟩)
  |b i=>exact .inl (LM rfl (λ_ _ _=>rfl) (λ_=>Ren.deep_still (by simp)) λI C A U=>absurd U (R.nobor_b i p I C A))
  | h i=>
    rcases Bz i st.hp.length with h_|M
    ·have:Ak ρ st { us with hp:=us.hp++[⟨.own,w,ws⟩] } (X1 (.sl .own es) (.slice us.hp.length 0 es.length)) (.h i) p=Ak ρ st us (X1 (.agg cs) (.agg ws)) (.h i) p:=(by simp only[Ak,Z i h_]);rw[this];exact .inl (LM rfl (λ_ _ _=>rfl) (λ_=>Ren.deep_still (by simp)) λI C A U=>absurd U (R.nobor_h i p I C A))
    refine .inr (A4 ?_);have hz:Ao st.hp i=[]:=(by rw[Dx,BR M];rfl);simp only[Ak,hz];unfold Be;split<;>rfl
 ·by_cases F:j=0
  ·subst F;exact⟨λ_ h=>(by cases h),λ_ h=>(by cases h)⟩
  rw[D6 _ _ j F];exact Bf _
 ·rw[J _ (by have:=Y i hi;omega),(R.hp i hi).1,Z i hi];exact⟨rfl,(R.hp i hi).2⟩
 ·by_cases h:l=us.hp.length
  ·subst h;simp[Co]at e
  rw[J l h]at e;exact R.bdp l i (Ez Ren.deep_ok e)
 by_cases h:l=us.hp.length
 ·subst h;simp[Co]at e
 rw[J l h]at e;obtain⟨a,q,e1,u⟩:=D0 e;unfold Ren.deep at u;split at u
 ·split at u<;>simp at u
 simp at u;exact R.bdh l i q (by rw[e1,u.1])
theorem ez{z:List V}(b:z.all V.flat=true):∀n,(DP z n).all V.flat=true
 |0=>rfl
 |n+1=>by rw[DP,List.all_append,b,ez b n];rfl
theorem nS (z:List V):∀n,(DP z n).length=n*z.length
 |0=>by simp[DP]
 |n+1=>by rw[DP,CM,nS z n,D2];omega
theorem oc(z:List V):∀n,(List.replicate n (z.map BT)).flatten=(DP z n).map BT
 |0=>rfl
 |n+1=>by rw[List.replicate_succ,Ig,oc z n,DP,Gb]
theorem ZfU(R:RS h0 ω0 ω ρ st us X0){w:Nat}{z:List V}{b:T_}{n:Int}(C:b.t7 st.sl= .fl (.int .i64 n))(h1:0<=n)(s:z.length=w)(A:0<w)(j:z.all V.flat=true)(y:AE (n.toNat*w)):Out2 (.mkSlice w z b) us h0 ω0 (.sl .own (List.replicate n.toNat (z.map BT))) st:=by
 have g:=(R.ev_fl C (by simp)).1;by_cases x:n=0
 ·subst x;refine⟨.X_,us.bx,us.hp,ω,ρ,by simp only[Af,g];rw[Ad ⟨h1,s,A,QB j,y⟩,Ad trivial],?_⟩;refine R.handx ⟨λ_ h=>(by cases h),λ_ h=>(by cases h)⟩ (λp=>?_) (λp=>?_)
  ·match p with
   |[0]=>exact .nil _ _
   |[]=>exact .undef _ _
   |(_+1)::_=>exact .undef _ _
   |0::_::_=>exact .undef _ _
  match p with
  |[0]=>exact λi u t=>by simp[PV.S_,PV.q]
  |[]=>exact λi u t=>by simp[PV.S_,PV.q]
  |(_+1)::_=>exact λi u t=>by simp[PV.S_,PV.q]
  |0::_::_=>exact λi u t=>by simp[PV.S_,PV.q]
 have F:List.replicate n.toNat (z.map BT)≠[]:=by
  intro h;have:=congrArg List.length h;simp at this;omega
 obtain⟨ω',h⟩:=(R.handz (ez j n.toNat)).newslice (QK (ez j n.toNat)) (es:=List.replicate n.toNat (z.map BT)) (w:=w) F (λe D=>by rw[List.eq_of_mem_replicate D];simpa using s) (λk _=>by rw[oc]) (by rw[nS,s];simp);refine⟨.slice us.hp.length 0 n.toNat,us.bx,us.hp++[(⟨.own,w,DP z n.toNat⟩:Blk)],ω',ρ,by simp only[Af,g];rw[Ad ⟨h1,s,A,QB j,y⟩,Ae x],?_⟩;rw[List.length_replicate]at h;exact h
theorem Xe(w:Nat):∀(n:Nat) (cs:List PV),(ET w n cs).length=n
 |0,_=>rfl
 |n+1,cs=>by simp[ET,Xe w n]
theorem nP(w:Nat):∀(n:Nat) (cs:List PV),cs.length=n*w->∀e∈ET w n cs,e.length=w
 |0,_,_=>by simp[ET]
 | n+1,cs,h=>by
   rw[D2,FF]at h;simp only[ET,CE];rintro e (rfl|b)
   ·simp;omega
   exact nP w n _ (by simp;omega) e b
theorem kW(w:Nat):∀(n:Nat) (cs:List PV),cs.length=n*w->(ET w n cs).flatten=cs
 | 0,cs,h=>by
   have:cs=[]:=Dq (by simpa using h);subst this;rfl
 | n+1,cs,h=>by
   rw[D2,FF]at h;simp only[ET,Ig];rw[kW w n _ (by simp;omega),List.take_append_drop]
theorem mD:∀(g:List (Nat×Nat×T_)) {st st1:PS} {cs b:List PV},EX cs g st=some (b,st1)->b.length=cs.length
 |[],st,st1,cs,b,e=>by simp only[EX,Ap,Aq]at e;rw[e.1]
 | (off,size,x)::r,st,st1,cs,b,e=>by
   simp only[EX]at e;split at e
   ·rw[mD r e,HW]
   cases e
theorem mX{s:List V}:∀(g:List (Nat×Nat×T_)) {cs b:List V},D4 s cs g=some b->b.length=cs.length
 |[],cs,b,e=>by simp only[D4,Ap]at e;rw[e]
 | (off,size,x)::r,cs,b,e=>by
   simp only[D4]at e;split at e
   ·rw[mX r e,Hf]
   cases e
theorem Zeg (R:RS h0 ω0 ω ρ st us X0) {w n:Nat} {u:List V} {g:List (Nat×Nat×T_)} {v:PV}
 (e:(if n=0 then some (PV.sl .own [],st)else if u.all V.flat=true/\u.length=n*w/\0<w then (EX (u.map BT) g st).map λ(cs,st)=>(PV.sl .own (ET w n cs),st)else none)=some (v,st1)):Out2 (.d4 w n u g) us h0 ω0 v st1:=by
 split at e
 ·rename_i A;cases e;refine⟨.X_,us.bx,us.hp,ω,ρ,by simp only[Af];rw[Ad A],?_⟩;refine R.handx ⟨λ_ h=>(by cases h),λ_ h=>(by cases h)⟩ (λp=>?_) (λp=>?_)
  ·match p with
   |[0]=>exact .nil _ _
   |[]=>exact .undef _ _
   |(_+1)::_=>exact .undef _ _
   |0::_::_=>exact .undef _ _
  match p with
  |[0]=>exact λi y x=>by simp[PV.S_,PV.q]
  |[]=>exact λi y x=>by simp[PV.S_,PV.q]
  |(_+1)::_=>exact λi y x=>by simp[PV.S_,PV.q]
  |0::_::_=>exact λi y x=>by simp[PV.S_,PV.q]
 rename_i A;split at e
 ·rename_i j;obtain⟨j,C,F⟩:=j;simp only[Ch]at e;obtain⟨⟨cs,s⟩,D,L⟩:=e;cases L;obtain⟨b,ω1,h1,I,G⟩:=bu g (R.handz j) (QK j) D;have t:cs.length=n*w:=(by rw[mD g D];simpa using C);have z:b.length=n*w:=(by rw[mX g h1];exact C);have J:ET w n cs≠[]:=by
   intro h;have:=congrArg List.length h;rw[Xe]at this;simp at this;omega
  obtain⟨ω',h⟩:=G.newslice I (es:=ET w n cs) (w:=w) J (nP w n cs t) (λk _=>by rw[kW w n cs t]) (by rw[Xe,z];exact BN _);rw[Xe]at h;refine⟨.slice us.hp.length 0 n,us.bx,us.hp++[(⟨.own,w,b⟩:Blk)],ω',ρ,?_,h⟩;simp only[Af];rw[Ae A,Ad ⟨QB j,C,F⟩,h1];rfl
 cases e
end
theorem ZgO{cs:List PV}(h:Is cs=true)(c:Nat)(b:c<cs.length):∃x,Aa cs c= .fl x/\x.flat=true:=by
 induction cs generalizing c with
 |nil=>simp at b
 | cons v r ih=>
   simp only[Is,Aj]at h;cases c with
   | zero=>
     have h1:=h.1;simp only[Aa];cases v<;>first|exact⟨_,rfl,h1⟩|simp[PV.flatc]at h1
   |succ c=>exact ih h.2 c (by simpa using b)
theorem ZeG{es:List (List PV)}(h:Kq es=true):Is es.flatten=true:=by
 induction es with
 |nil=>rfl
 | cons e r g=>
   simp only[Kq,Aj]at h;have app:∀a b:List PV,Is a=true->Is b=true->Is (a++b)=true:=by
    intro a b;induction a with
    |nil=>intro _ h;exact h
    |cons x s g=>intro h1 i;simp only[Is,Aj,Dz]at h1 ⊢;exact⟨h1.1,g h1.2 i⟩
   rw[Ig];exact app _ _ h.1 (g h.2)
theorem Zjv{x:V}(h:x.flat=true):x≠.undef:=by rintro rfl;simp[V.flat]at h
def Ren.app(m:Nat):Ren:=λhd p=>match hd,p with
 |.x 0,0::k::r=>if k<m then .own (.x 0) (0::k::r)else .Z_|.x 1,0::k::r=>.own (.x 0) (0::(m+k)::r)|.x _,_=>.Z_|hd,p=>.own hd p
theorem Ren.app_still{m:Nat}{c:Hd}(h:∀i,c≠.x i):(Ren.app m).still c:=λp=>by
 cases c with
 |x i=>exact absurd rfl (h i)
 |_=>rfl
theorem Ren.app_x{m i:Nat}{p:List Nat}:(∃k r,i=0/\p=0::k::r/\k<m/\Ren.app m (.x i) p= .own (.x 0) (0::k::r))\/(∃k r,i=1/\p=0::k::r/\Ren.app m (.x i) p= .own (.x 0) (0::(m+k)::r))\/Ren.app m (.x i) p= .Z_:=by
 unfold Ren.app;split
 ·rename_i k r e;cases e;split
  ·exact .inl ⟨k,r,rfl,rfl,‹_›,rfl⟩
  exact .inr (.inr rfl)
 ·rename_i k r e;cases e;exact .inr (.inl ⟨k,r,rfl,rfl,rfl⟩)
 ·exact .inr (.inr rfl)
 rename_i h _ _;exact(h _ rfl).elim
theorem Ren.app_ok(m:Nat):(Ren.app m).Ok:=by
 refine⟨λhd p f_ p' x c e b=>?_,λhd p=>?_⟩
 ·have st:∀(a:Hd) (q:List Nat),(∀i,a≠.x i)->Ren.app m a q= .own a q:=λa q h=>Ren.app_still h q;cases hd with
  | x i =>
    rcases Ren.app_x (m:=m) (i:=i) (p:=p)with⟨k,r,rfl,rfl,s,h⟩|⟨k,r,rfl,rfl,h⟩|h
    ·rw[h]at e;cases e;cases f_ with
     | x j=>
       rcases Ren.app_x (m:=m) (i:=j) (p:=p')with⟨g,r',rfl,rfl,n,h'⟩|⟨g,r',rfl,rfl,h'⟩|h'
       ·rw[h']at b;simp at b;exact⟨rfl,by rw[b.1,b.2]⟩
       ·rw[h']at b;simp at b;omega
       rw[h']at b;cases b
     |_=>rw[st _ _ (by simp)]at b;cases b
    ·rw[h]at e;cases e;cases f_ with
     | x j=>
       rcases Ren.app_x (m:=m) (i:=j) (p:=p')with⟨g,r',rfl,rfl,n,h'⟩|⟨g,r',rfl,rfl,h'⟩|h'
       ·rw[h']at b;simp at b;omega
       ·rw[h']at b;simp at b;exact⟨rfl,by rw[b.1,b.2]⟩
       rw[h']at b;cases b
     |_=>rw[st _ _ (by simp)]at b;cases b
    rw[h]at e;cases e
  | _ =>
    rw[st _ _ (by simp)]at e;cases e;cases f_ with
    | x j=>
      rcases Ren.app_x (m:=m) (i:=j) (p:=p')with⟨g,r',rfl,rfl,n,h'⟩|⟨g,r',rfl,rfl,h'⟩|h'<;>rw[h']at b<;>cases b
    |_=>rw[st _ _ (by simp)]at b;first|(cases b;done)|(cases b;exact⟨rfl,rfl⟩)
 cases hd with
 |x i=>rcases Ren.app_x (m:=m) (i:=i) (p:=p)with⟨k,r,_,_,_,h⟩|⟨k,r,_,_,h⟩|h<;>rw[h]<;>first|exact .inl rfl|exact .inr ⟨_,_,rfl⟩
 |_=>exact .inr ⟨_,_,rfl⟩
theorem Zkh{m:Nat}(hd:Hd)(p:List Nat)(i:Nat)(q:List Nat)(e:Ren.app m hd p= .own (.h i) q):hd= .h i:=by
 cases hd with
 |x j=>rcases Ren.app_x (m:=m) (i:=j) (p:=p)with⟨k,r,_,_,_,h⟩|⟨k,r,_,_,h⟩|h<;>rw[h]at e<;>cases e
 |_=>first|(cases e;done)|(cases e;rfl)
section
variable {h0:Ac} {ω0 ω:Nat->W} {ρ ρ':Nat->Nat} {st f4 st1:PS} {us v_:St} {X X':CN}
def M4(h:Ac)(ω:Nat->W)(i:PV)(w:Nat)(b:List (List PV))(g:List V):Prop:=(∀e∈b,e.length=w)/\g.length=b.length*w/\((i= .sl .own b/\∀k,k<b.length*w->RC h ω (.inn (.x 1) [0,k]) (Aa b.flatten k) (get g k))\/(i= .fl .undef/\∀k,k<b.length*w->∃x,x.flat=true/\Aa b.flatten k= .fl x/\get g k=x))
def X2(v:PV)(u:V)(b:PV)(g:V):CN:=Xs (Xs X0 1 b g) 0 v u
theorem RS.appK {v0:PV} {J:V} {vy:PV} {M:V} (R:RS h0 ω0 ω ρ st us (X2 v0 J vy M)) {w:Nat} {es g:List (List PV)} {u:List V} (hN:M4 us.hp ω vy w g u) (y:0<g.length) (hw0:0<w) (z:AE ((es.length+g.length)*w))
 (h0':(J= .X_/\es=[])\/∃q l b,v0= .sl q es/\J= .slice l 0 es.length/\us.hp[l]?=some b/\b.k= .own/\b.w=w/\ω l= .own (.x 0) [0]/\es.length*w<=b.cs.length/\(∀e∈es,e.length=w)/\∀k,k<es.length*w->RC us.hp ω (.inn (.x 0) [0,k]) (Aa es.flatten k) (get b.cs k))
 (hy:DZ us.hp w M=some (u,g.length)):
 ∃ω' ur h',Ag.app us.hp w J M=some (ur,h')/\RS h0 ω0 ω' ρ st { us with hp:=h' } (X1 (.sl .own (es++g)) ur):=by
 obtain⟨n1,n2,n3⟩:=hN;have hw:∀e∈es,e.length=w:=by
  rcases h0' with⟨_,rfl⟩|⟨q,l,b,_,_,_,_,_,_,_,h,_⟩
  ·simp
  exact h
 have A:es.flatten.length=es.length*w:=oL hw;have key:∃(T:Nat->Bool) (h1:Ac) (n:List V),(∀l,T l=true->ω l= .own (.x 0) [0])/\h1.length=us.hp.length/\(∀l,T l=false->h1[l]?=us.hp[l]?)/\n.length=es.length*w /\
  (∀k,k<es.length*w->RC us.hp ω (.inn (.x 0) [0,k]) (Aa es.flatten k) (get n k))/\Ag.app us.hp w J M=some (.slice us.hp.length 0 (es.length+g.length),h1++[⟨.own,w,n++u⟩]):=by
  rcases h0' with⟨rfl,rfl⟩|⟨q,l,b,_,rfl,L,hbk,hbw,U,hle,_,hr⟩
  ·refine⟨JR,us.hp,[],λl h=>(by cases h),rfl,λ_ _=>rfl,by simp,λk y=>(by simp at y),?_⟩;simp only[Ag.app,hy];rw[Ae (by omega),Ad (by simpa using z)];simp
  refine⟨λl'=>l' == l,us.hp.set l ⟨.dead,w,[]⟩,b.cs.take (es.length*w),λl' h=>?_,by simp,λl' h=>?_,by simp;omega,λk y=>?_,?_⟩
  ·have:l'=l:=(by simpa using h);rw[this];exact U
  ·have:l'≠l:=(by simpa using h);rw[List.getElem?_set_ne (Ic this)]
  ·have:=hr k y;have e:get (b.cs.take (es.length*w)) k=get b.cs k:=by
    have:=H6 b.cs 0 (es.length*w) k;simp only[Hy,BJ]at this;rw[this,Ad y]
   rw[e];exact this
  simp only[Ag.app,hy];rw[Ae (by omega),L];simp only;rw[Ad ⟨hbk,hbw,trivial,hle,z⟩]
 obtain⟨T,h1,n,t1,t2,t3,t4,t5,t6⟩:=key;have hTo:∀l,T l=true->∃hd p,ω l= .own hd p:=λl h=>⟨_,_,t1 l h⟩;have hρ:∀k,k<st.hp.length->ρ k<us.hp.length:=λk y=>by obtain⟨b,h,_⟩:=R.Y_ y;exact BB h
 have nT:∀l,(∀r,ω l≠.own (.x 0) r)->T l=false:=λl h=>by
  cases e:T l with
  |false=>rfl
  |true=>exact absurd (t1 l e) (h _)
 have D:∀l a q,ω l= .own a q->(∀i,a≠.x i)->T l=false:=λl a q e h=>nT l λr C=>by rw[e]at C;cases C;exact h 0 rfl
 have G:∀l,T l=false->Ag.ren (Ren.app (es.length*w)) (ω l)≠.own (.x 0) [0]:=λl _ e=>by
  obtain⟨a,q,_,e2⟩:=D0 e;cases a with
  |x i=>rcases Ren.app_x (m:=es.length*w) (i:=i) (p:=q)with⟨k,r,_,_,_,h⟩|⟨k,r,_,_,h⟩|h<;>rw[h]at e2<;>cases e2
  |_=>cases e2
 have hV:∀k,k<st.hp.length->A6 (h1++[(⟨.own,w,n++u⟩:Blk)]) (ρ k)=A6 us.hp (ρ k):=λk y=>by
  simp only[A6];rw[Bp (by rw[t2];exact hρ k y),t3 _ (nT _ λr e=>by rw[(R.hp k y).1]at e;cases e)]
 have t:=eB (h:=us.hp) (ω:=ω) (f:=Ren.app (es.length*w)) (w0:=.own (.x 0) [0]) (T:=T) (Y_:=⟨.own,w,n++u⟩) (h1:=h1) t2 t3 hTo R.core.notNone;have pw:∀l,l≠us.hp.length->T l=false->Co (Ren.app (es.length*w)) us.hp.length (.own (.x 0) [0]) T ω l=Ag.ren (Ren.app (es.length*w)) (ω l):=λl h h'=>by simp[Co,h,h']
 have hlw:∀e∈es++g,e.length=w:=by
  intro e Z;rcases CI.1 Z with Z|Z
  ·exact hw e Z
  exact n1 e Z
 have I:(h1++[(⟨.own,w,n++u⟩:Blk)])[us.hp.length]?=some ⟨.own,w,n++u⟩:=by rw[<- t2];simp
 refine⟨_,_,_,t6,RS.push (X':=X1 (.sl .own (es++g)) (.slice us.hp.length 0 (es.length+g.length))) R (Ren.app_ok (es.length*w)) (w0:=.own (.x 0) [0]) (T:=T) (h1:=h1) (Y_:=⟨.own,w,n++u⟩) rfl t2 t3 rfl hTo (.inl ⟨_,_,rfl⟩) G (λf_ p=>?_) R.sh (λj=>?_) R.lsl R.lbx R.lb R.cb R.ch (λi hi=>?_) (λl i e=>?_) (λl i p e=>?_)⟩
 ·cases f_ with
  | x j =>
    refine .inr ?_;by_cases Y:j=0
    ·subst Y
     match p with
     |[]=>exact A4 rfl
     |(_+1)::_=>exact A4 rfl
     |0::_::_=>exact A4 rfl
     | [0] =>
       refine⟨λi O N=>by simp[Ak,X1,PV.S_,PV.q],?_⟩;refine RC.sl _ .own (es++g) us.hp.length 0 (es.length+g.length) ⟨.own,w,n++u⟩ I (by simp) ⟨by simp[Co],rfl,rfl⟩ (λ_ _ h=>by simp at h;rw[h.2]at y;simp at y) (by simp) hlw (by simp only[CM,BJ,t4,n2,D2];exact BN _) λk hk'=>?_;rw[BJ,List.flatten_append];simp only[CM,D2]at hk';by_cases F:k<es.length*w
       ·rw[Z7 _ _ _ (by rw[A];exact F),jq _ _ _ (by rw[t4];exact F)];exact(t5 k F).inn t (λl r e=>by
         have:T l=false:=by
          cases C:T l with
          |false=>rfl
          |true=>have:=t1 l C;rw[e]at this;simp at this
         simp[this]) (λr=>by simp[Ren.app,F])
       rw[ZR _ _ _ (by rw[A];omega),wQ _ _ _ (by rw[t4];omega),A,t4];rcases n3 with⟨_,hr⟩|⟨_,hf⟩
       ·have r:=hr (k-es.length*w) (by omega);refine r.inn t (λl r e=>?_) (λr=>?_)
        ·rw[nT l (λr' C=>by rw[e]at C;cases C)];simp
        simp only[Ren.app,Dz,CL,Md.sub];rw[show es.length*w+(k-es.length*w)=k by omega]
       obtain⟨x,hx1,hx2,hx3⟩:=hf (k-es.length*w) (by omega);rw[hx2,hx3];exact .v _ _ hx1
    exact A4 (F9 j Y p)
  |s t'=>exact .inl (LM rfl (λl q e=>D l _ q e (by simp)) (λ_=>Ren.app_still (by simp)) λL O N e hx=>⟨λl q e=>D l _ q e hx,Ren.app_still hx⟩)
  |b i=>exact .inl (LM rfl (λl q e=>D l _ q e (by simp)) (λ_=>Ren.app_still (by simp)) λL O N C=>absurd C (R.nobor_b i p L O N))
  | h i=>
    rcases Bz i st.hp.length with h_|hge
    ·have:Ak ρ st { us with hp:=h1++[⟨.own,w,n++u⟩] } (X1 (.sl .own (es++g)) (.slice us.hp.length 0 (es.length+g.length))) (.h i) p=Ak ρ st us (X2 v0 J vy M) (.h i) p:=(by simp only[Ak,hV i h_]);rw[this];exact .inl (LM rfl (λl q e=>D l _ q e (by simp)) (λ_=>Ren.app_still (by simp)) λL O N C=>absurd C (R.nobor_h i p L O N))
    refine .inr (A4 ?_);have hz:Ao st.hp i=[]:=(by rw[Dx,BR hge];rfl);simp only[Ak,hz];unfold Be;split<;>rfl
 ·by_cases Y:j=0
  ·subst Y;exact⟨λ_ h=>(by cases h),λ_ h=>(by cases h)⟩
  rw[D6 _ _ j Y];exact Bf _
 ·have hnT:T (ρ i)=false:=nT _ λr e=>(by rw[(R.hp i hi).1]at e;cases e);rw[pw _ (by have:=hρ i hi;omega) hnT,(R.hp i hi).1,hV i hi];exact⟨rfl,(R.hp i hi).2⟩
 ·by_cases h:l=us.hp.length
  ·subst h;simp[Co]at e
  cases hT:T l with
  |true=>simp[Co,h,hT]at e
  |false=>rw[pw l h hT]at e;exact R.bdp l i (Ez (Ren.app_ok _) e)
 by_cases h:l=us.hp.length
 ·subst h;simp[Co]at e
 cases hT:T l with
 |true=>simp[Co,h,hT]at e
 | false=>
   rw[pw l h hT]at e;obtain⟨a,q,e1,e2⟩:=D0 e;have:=Zkh a q i p e2;subst this;exact R.bdh l i q e1
theorem RS.handU(R:RS h0 ω0 ω ρ st us X0)(i:Nat)(u:V):RS h0 ω0 ω ρ st us (Xs X0 i (.fl .undef) u):=by
 have:=RS.ren (f4:=st) (v_:=us) (X':=Xs X0 i (.fl .undef) u) R Ren.id_ok (λhd p i q e=>by simp[Ren.id]at e;exact e.1) (λf_ p=>?_) rfl R.sh (λj=>?_) R.lsl R.lbx R.lb R.cb R.ch rfl (λ_=>rfl)
 ·rwa [DF]at this
 ·cases f_ with
  |x j=>exact .inr (A4 (by by_cases g:j=i<;>simp[Ak,Xs,g,X0,Ba]))
  |s t=>exact .inl (Bv rfl)
  |b t=>exact .inl (Bv rfl)
  |h t=>exact .inl (Bv rfl)
 by_cases g:j=i<;>simp[Xs,g,X0]<;>exact Bf _
theorem ZfS(R:RS h0 ω0 ω ρ st us X0){w:Nat}{y:T_}{A:List (List PV)}(hw0:0<w)(e:FG w y st=some (A,f4)):∃ω' vy g,RS h0 ω0 ω' ρ f4 us (Xs X0 1 vy (y.ev us.sl))/\(∀hd,vy.i6 hd=false)/\M4 us.hp ω' vy w A g/\DZ us.hp w (y.ev us.sl)=some (g,A.length):=by
 have U:∀ {l o:Nat} {b:Blk} {es:List (List PV)},us.hp[l]?=some b->b.k≠.dead->(es≠[]->b.w=w)->o+es.length*b.w<=b.cs.length->DZ us.hp w (.slice l o es.length)=some ((b.cs.drop o).take (es.length*w),es.length)/\((b.cs.drop o).take (es.length*w)).length=es.length*w:=by
  intro l o b es h1 F J D;have O:o+es.length*w<=b.cs.length:=by
   by_cases L:es=[]
   ·subst L;simp at D ⊢;exact D
   rw[<- J L];exact D
  exact⟨by simp only[DZ,rd,h1];rw[Ad ⟨F,O⟩];rfl,SV O⟩
 have i:∀ {q:Ql} {es:List (List PV)},y.t7 st.sl= .sl q es->C4 w es=true->Kq es=true->∃ω' vy g,RS h0 ω0 ω' ρ st us (Xs X0 1 vy (y.ev us.sl))/\(∀hd,vy.i6 hd=false)/\M4 us.hp ω' vy w es g/\DZ us.hp w (y.ev us.sl)=some (g,es.length):=by
  intro q es G Y hfl;have C:=(Jl w es).1 Y;obtain⟨hd,_,r⟩:=R.ev_one G (λ_ h=>(by cases h)) (λ_ h=>(by cases h)) (λ_ h=>(by cases h));refine(λ⟨g,a,b⟩=>⟨ω,.fl .undef,g,R.handU 1 _,λ_=>rfl,a,b⟩:_->_) (?_:∃g,M4 us.hp ω (.fl .undef) w es g/\DZ us.hp w (y.ev us.sl)=some (g,es.length));generalize y.ev us.sl=u at r;cases r with
  |nil=>exact⟨[],⟨by simp,by simp,.inr ⟨rfl,λk F=>by simp at F⟩⟩,rfl⟩
  | sl _ _ _ l o n b h1 F N f9 hn Z D hr=>
    subst hn;have J:es≠[]->b.w=w:=λh=>by
     obtain⟨e0,M⟩:=Ro _ h;rw[<- Z e0 M];exact C e0 M
    obtain⟨a1,a2⟩:=U h1 F J D;refine⟨_,⟨C,a2,.inr ⟨rfl,λk I=>?_⟩⟩,a1⟩;have L:es≠[]:=(by rintro rfl;simp at I);obtain⟨x,hx1,hx2⟩:=ZgO (ZeG hfl) k (by rw[oL C];exact I);have r:=hr k (by rw[J L];exact I);rw[hx1]at r;refine⟨x,hx2,hx1,?_⟩;rw[H6,Ad I];generalize get b.cs (o+k)=z at r;generalize Md.sub (.at hd [0]) q k=mm at r;cases r with
    |undef=>exact absurd rfl (Zjv hx2)
    |v=>rfl
 unfold FG at e;split at e
 ·rename_i s G;split at e
  ·rename_i Z;cases e;subst Z;rw[(R.ev_fl G (by simp)).1];refine⟨ω,.fl .undef,s.map λb=>.int .u8 b.toNat,R.handU 1 _,λ_=>rfl,⟨by simp,by simp,.inr ⟨rfl,λk F=>?_⟩⟩,by simp[DZ]⟩;simp only[Bh,Uc]at F;have:=LQ (w:=1) (es:=s.map λb=>[PV.fl (.int .u8 b.toNat)]) (by simp) k 0 (by omega);simp only[Uc,Fg]at this;rw[this,Rj,CZ,Im,Im,Bc F];exact⟨_,rfl,rfl,rfl⟩
  cases e
 ·rename_i es G;split at e
  ·rename_i N;cases e;exact i G N.1 N.2
  cases e
 ·rename_i hd p t es G;split at e
  ·rename_i N;cases e;exact i G N.1 N.2
  cases e
 ·rename_i hd p es G;split at e
  ·rename_i N;cases e;exact i G N.1 N.2
  cases e
 ·rename_i es G;split at e
  ·rename_i Y;cases e;have C:=(Jl w A).1 Y;obtain⟨ω1,R1⟩:=R.f' y 1 (λp=>Ba p) (λn j=>rfl);have hmo:(Ag.f' y st).1= .sl .own A:=by
    cases y with
    |c v=>exact G
    | t n=>
      simp only[T_.t7]at G;simp only[Ag.f',G,Gm,PV.own,PV.i6,AX,AZ,A5]
   rw[hmo]at R1;have r:=R1.core.rc (.x 1) [0];have hs:=R1.shx 1;refine⟨ω1,.sl .own A,?_⟩;refine(λ⟨g,a,b⟩=>⟨g,R1,λ_=>rfl,a,b⟩:_->_) (?_:∃g,M4 us.hp ω1 (.sl .own A) w A g/\DZ us.hp w (y.ev us.sl)=some (g,A.length));have hs':(∀v_,y.ev us.sl≠.agg v_)/\∀v_,y.ev us.sl≠.f8 v_:=by
    have:A9 (.sl .own A) (y.ev us.sl):=hs;exact this
   have r':RC us.hp ω1 (.at (.x 1) [0]) (.sl .own A) (y.ev us.sl):=by
    have:RC us.hp ω1 (.at (.x 1) [0]) (.sl .own A) ((y.ev us.sl).S_ [0]):=r;rwa [FX hs'.1 hs'.2]at this
   generalize y.ev us.sl=u at r';cases r' with
   |nil=>exact⟨[],⟨by simp,by simp,.inl ⟨rfl,λk F=>by simp at F⟩⟩,rfl⟩
   | sl _ _ _ l o n b h1 F N f9 hn Z D hr=>
     subst hn;have L:=f9 rfl (.inl rfl);obtain⟨e0,M⟩:=Ro _ L;have J:b.w=w:=(by rw[<- Z e0 M];exact C e0 M);obtain⟨a1,a2⟩:=U h1 F (λ_=>J) D;refine⟨_,⟨C,a2,.inl ⟨rfl,λk I=>?_⟩⟩,a1⟩;have r:=hr k (by rw[J];exact I);rw[H6,Ad I];simpa [Md.sub]using r
  cases e
 ·rename_i w' G;cases e;obtain⟨hd,_,r⟩:=R.ev_one G (λ_ h=>(by cases h)) (λ_ h=>(by cases h)) (λ_ h=>(by cases h));refine(λa=>⟨ω,.fl .undef,[],R.handU 1 _,λ_=>rfl,⟨by simp,by simp,.inr ⟨rfl,λk F=>by simp at F⟩⟩,a⟩:_->_) (?_:DZ us.hp w (y.ev us.sl)=some ([],0));generalize y.ev us.sl=u at r;cases r with
  |nil=>rfl
  | sl _ _ _ l o n b h1 F N f9 hn Z D hr=>
    subst hn;have:=(U (es:=[]) h1 F (λh=>absurd rfl h) D).1;simpa using this
 cases e
end
section
variable {h0:Ac} {ω0 ω:Nat->W} {ρ ρ':Nat->Nat} {st f4 st1:PS} {us v_:St} {X X':CN}
theorem Tu(R:RS h0 ω0 ω ρ st us X){hd:Hd}{c:Nat}{qh:Ql}{eh:List (List PV)}(g:Df st hd [c]= .sl qh eh){v:PV}(O:v= .fl .undef\/∃q es,v= .sl q es)(hl:v.lay=true):(∀f_ p,(∀i,f_≠.x i)->(Ak ρ (y_ st v hd [c]) us X' f_ p).1= .fl .undef\/(f_=hd/\p=[c]/\(Ak ρ (y_ st v hd [c]) us X' f_ p)=(v,(Ak ρ st us X hd [c]).2)) \/
  (Ak ρ (y_ st v hd [c]) us X' f_ p=Ak ρ st us X f_ p/\¬(f_=hd/\p=[c])/\∀n z y,(Ak ρ st us X f_ p).1.q=some (.i6 n z y)->n≠hd)) /\
 (∀t,A9 (Aa (y_ st v hd [c]).sl t) (get us.sl t))/\(y_ st v hd [c]).sl.length=st.sl.length/\(y_ st v hd [c]).bx.length=st.bx.length/\(∀i,(Ao (y_ st v hd [c]).bx i).length=(Ao st.bx i).length) /\
 (∀i c',(Aa (Ao (y_ st v hd [c]).bx i) c').lay=true)/\(∀i c',(Aa (Ao (y_ st v hd [c]).hp i) c').lay=true)/\(y_ st v hd [c]).hp.length=st.hp.length/\(∀i,(Ao (y_ st v hd [c]).hp i).length=(Ao st.hp i).length) /\
 (∀i,hd≠.x i)/\Ak ρ st us X hd [c]=(.sl qh eh,(Ak ρ st us X hd [c]).2)/\∀p,(Ak ρ st us X hd p).1= .fl .undef\/∃c',p=[c']:=by
 have Z:∀(cs:List PV) (ws:List V) p,(Be cs ws p).1= .fl .undef\/∃c',p=[c']:=by
  intro cs ws p
  match p with
  |[c']=>exact .inr ⟨c',rfl⟩
  |[]=>exact .inl rfl
  |_::_::_=>exact .inl rfl
 have G:∀(F:List PV) (t:Nat) (p:List Nat) (hd:Hd),F=clr hd st.sl->(Aa F t).S_ p= .fl .undef\/((Aa F t).S_ p=(Aa st.sl t).S_ p/\∀n z y,((Aa st.sl t).S_ p).q=some (.i6 n z y)->n≠hd):=by
  rintro F t p hd rfl;rw[Fa];cases n:(Aa st.sl t).i6 hd with
  |true=>left;exact Ba p
  |false=>right;exact⟨rfl,λhb' z y e=>Ef n e⟩
 cases hd with
 |x i=>cases g
 | b i =>
   simp only[Df]at g;have hi:i<st.bx.length:=by
    rcases Bz i st.bx.length with h|h
    ·exact h
    rw[Dx,BR h]at g;cases g
   have hc:c<(Ao st.bx i).length:=by
    rcases Bz c (Ao st.bx i).length with h|h
    ·exact h
    rw[GC _ _ h]at g;cases g
   have C:∀k,Ao (Cf st.bx i (BW (Ao st.bx i) c v)) k=if k=i then BW (Ao st.bx i) c v else Ao st.bx k:=by intro k;rw[J4];simp[hi]
   refine⟨λf_ p M=>?_,λt=>?_,by simp[y_,F4],by simp[y_,HY],λk=>?_,λk c'=>?_,R.ch,rfl,λ_=>rfl,by simp,by simp only[Ak,Be,g],Z _ _⟩
   ·cases f_ with
    |x j=>exact absurd rfl (M j)
    | s t=>
      rcases G _ t p (.b i) rfl with h|⟨h1,J⟩
      ·left;exact h
      right;right;refine⟨?_,by simp,J⟩;simp only[Ak,y_];rw[h1]
    |h j=>right;right;exact⟨rfl,by simp,λn z y e=>absurd e (R.nobor_h j p n z y)⟩
    | b j =>
      by_cases I:j=i
      ·subst I
       match p with
       |[]=>left;rfl
       |_::_::_=>left;rfl
       | [c']=>
         by_cases u:c'=c
         ·subst u;right;left;refine⟨rfl,rfl,?_⟩;simp only[Ak,y_,C,Ad,Be,El,hc,and_self]
         right;right;refine⟨?_,by simp[u],λn z y e=>absurd e (R.nobor_b j _ n z y)⟩;simp only[Ak,y_,C,Ad,Be,El,u,false_and,A5]
      right;right;refine⟨?_,by simp[I],λn z y e=>absurd e (R.nobor_b j p n z y)⟩;simp only[Ak,y_,C,Ae I]
   ·simp only[y_,Fa];split
    ·exact Bf _
    exact R.sh t
   ·simp only[y_,C];split
    ·rename_i h;rw[h,Gz]
    rfl
   simp only[y_,C];split
   ·rw[El];split
    ·exact hl
    exact R.cb i c'
   exact R.cb k c'
 | h i =>
   simp only[Df]at g;have hi:i<st.hp.length:=by
    rcases Bz i st.hp.length with h|h
    ·exact h
    rw[Dx,BR h]at g;cases g
   have hc:c<(Ao st.hp i).length:=by
    rcases Bz c (Ao st.hp i).length with h|h
    ·exact h
    rw[GC _ _ h]at g;cases g
   have C:∀k,Ao (Cf st.hp i (BW (Ao st.hp i) c v)) k=if k=i then BW (Ao st.hp i) c v else Ao st.hp k:=by intro k;rw[J4];simp[hi]
   refine⟨λf_ p M=>?_,λt=>?_,by simp[y_,F4],rfl,λ_=>rfl,R.cb,λk c'=>?_,by simp[y_,HY],λk=>?_,by simp,by simp only[Ak,Be,g],Z _ _⟩
   ·cases f_ with
    |x j=>exact absurd rfl (M j)
    | s t=>
      rcases G _ t p (.h i) rfl with h|⟨h1,J⟩
      ·left;exact h
      right;right;refine⟨?_,by simp,J⟩;simp only[Ak,y_];rw[h1]
    |b j=>right;right;exact⟨rfl,by simp,λn z y e=>absurd e (R.nobor_b j p n z y)⟩
    | h j =>
      by_cases I:j=i
      ·subst I
       match p with
       |[]=>left;rfl
       |_::_::_=>left;rfl
       | [c']=>
         by_cases u:c'=c
         ·subst u;right;left;refine⟨rfl,rfl,?_⟩;simp only[Ak,y_,C,Ad,Be,El,hc,and_self]
         right;right;refine⟨?_,by simp[u],λn z y e=>absurd e (R.nobor_h j _ n z y)⟩;simp only[Ak,y_,C,Ad,Be,El,u,false_and,A5]
      right;right;refine⟨?_,by simp[I],λn z y e=>absurd e (R.nobor_h j p n z y)⟩;simp only[Ak,y_,C,Ae I]
   ·simp only[y_,Fa];split
    ·exact Bf _
    exact R.sh t
   ·simp only[y_,C];split
    ·rw[El];split
     ·exact hl
     exact R.ch i c'
    exact R.ch k c'
   simp only[y_,C];split
   ·rename_i h;rw[h,Gz]
   rfl
 | s t0=>
   simp only[Df]at g;have h_:t0<st.sl.length:=by
    rcases Bz t0 st.sl.length with h|h
    ·exact h
    rw[GC _ _ h,Ba]at g;cases g
   have A:(∃cs,Aa st.sl t0= .agg cs/\c<cs.length/\(Aa st.sl t0).setc [c] v= .agg (BW cs c v))\/(c=0/\Aa st.sl t0= .sl qh eh/\(Aa st.sl t0).setc [c] v=v):=by
    generalize Aa st.sl t0=w at g;cases w with
    | agg cs=>
      left;refine⟨cs,rfl,?_,rfl⟩;rcases Bz c cs.length with h|h
      ·exact h
      simp only[PV.S_]at g;rw[GC _ _ h]at g;cases g
    |f8 vs=>cases g
    | sl q es=>
      cases c with
      |zero=>right;exact⟨rfl,g,rfl⟩
      |succ c=>cases g
    |_=>cases c<;>cases g
   have hfc:∀p,((Aa st.sl t0).setc [c] v).S_ p= .fl .undef\/(p=[c]/\((Aa st.sl t0).setc [c] v).S_ p=v)\/(p≠[c]/\((Aa st.sl t0).setc [c] v).S_ p=(Aa st.sl t0).S_ p):=by
    intro p;rcases A with⟨cs,D,L,e3⟩|⟨rfl,D,L⟩
    ·rw[e3,D]
     match p with
     |[]=>left;rfl
     |_::_::_=>left;rfl
     | [c']=>
       by_cases u:c'=c
       ·subst u;right;left;exact⟨rfl,by simp[PV.S_,El,L]⟩
       right;right;exact⟨by simp[u],by simp[PV.S_,El,u]⟩
    rw[L];have N:v.sc:=by rcases O with rfl|⟨q,es,rfl⟩<;>exact⟨λ_ h=>(by cases h),λ_ h=>(by cases h)⟩
    match p with
    |[0]=>right;left;exact⟨rfl,Jg N.1 N.2⟩
    |[]=>left;rcases O with rfl|⟨q,es,rfl⟩<;>rfl
    |(_+1)::_=>left;rcases O with rfl|⟨q,es,rfl⟩<;>rfl
    |0::_::_=>left;rcases O with rfl|⟨q,es,rfl⟩<;>rfl
   have Y:A9 ((Aa st.sl t0).setc [c] v) (get us.sl t0):=by
    have:=R.sh t0;rcases A with⟨cs,D,L,e3⟩|⟨rfl,D,L⟩
    ·rw[e3];rw[D]at this;obtain⟨ws,h1,J⟩:=this;exact⟨ws,h1,by rw[Gz];exact J⟩
    rw[L];rw[D]at this;rcases O with rfl|⟨q,es,rfl⟩
    ·exact Bf _
    exact this
   refine⟨λf_ p M=>?_,λt=>?_,by simp[y_,F4,Gz],rfl,λ_=>rfl,R.cb,R.ch,rfl,λ_=>rfl,by simp,by simp only[Ak,g],λp=>?_⟩
   ·cases f_ with
    |x j=>exact absurd rfl (M j)
    |b j=>right;right;exact⟨rfl,by simp,λn z y e=>absurd e (R.nobor_b j p n z y)⟩
    |h j=>right;right;exact⟨rfl,by simp,λn z y e=>absurd e (R.nobor_h j p n z y)⟩
    | s t=>
      simp only[Ak,y_];rcases QY (st:=st) (us:=us) t0 ((Aa st.sl t0).setc [c] v) t R.lsl (get us.sl t0)with h|⟨rfl,h0,h1,J,h3⟩|⟨h1,J,h3,h4⟩
      ·left;rw[h];exact Ba p
      ·rw[h1];rcases hfc p with h|⟨rfl,h⟩|⟨hp,h⟩
       ·left;exact h
       ·right;left;exact⟨rfl,rfl,by rw[h]⟩
       right;right;refine⟨by rw[h],λhh=>hp hh.2,λn z y e=>?_⟩;rw[<- h]at e;exact Ef h3 e
      rw[h1];by_cases U:t=t0
      ·subst U;left;rw[GC _ _ (by omega)];exact Ba p
      right;right;exact⟨rfl,λhh=>U (by cases hh.1;rfl),λn z y e=>Ef h3 e⟩
   ·simp only[y_];exact WW R.sh Y t
   simp only[Ak];rcases A with⟨cs,D,_,_⟩|⟨_,D,_⟩
   ·rw[D]
    match p with
    |[c']=>exact .inr ⟨c',rfl⟩
    |[]=>exact .inl rfl
    |_::_::_=>exact .inl rfl
   rw[D]
   match p with
   |[c']=>exact .inr ⟨c',rfl⟩
   |[]=>exact .inl rfl
   |(_+1)::_::_=>exact .inl rfl
   |0::_::_=>exact .inl rfl
theorem RS.takeK(R:RS h0 ω0 ω ρ st us X)(hX:(∀p,(X 0).1.S_ p= .fl .undef)/\∀j hd,(X j).1.i6 hd=false){hd:Hd}{c:Nat}{g:Ql}{y:List (List PV)}(Y:Df st hd [c]= .sl g y)(U:g.isOwn=true)(F:(∀ws,(Ak ρ st us X hd [c]).2≠.agg ws)/\∀ws,(Ak ρ st us X hd [c]).2≠.f8 ws):∃ω',RS h0 ω0 ω' ρ (y_ st (.fl .undef) hd [c]) us (Xs X 0 (.sl g y) (Ak ρ st us X hd [c]).2)/\∀l p,ω l= .own hd (c::p)->ω' l= .own (.x 0) (0::p):=by
 obtain⟨a1,a2,a3,a4,a5,a6,a7,a8,a9,u,M,L⟩:=Tu (X':=Xs X 0 (.sl g y) (Ak ρ st us X hd [c]).2) R Y (.inl rfl) rfl;refine⟨_,RS.ren R (Ren.seg_ok (a:=hd) (o:=c) (n:=1) (b:=.x 0) (o':=0) (u 0)) (fF (by simp)) (λf_ p=>?_) rfl a2 (λj=>?_) (by rw[a3];exact R.lsl) (by rw[a4];exact R.lbx) (λi=>by rw[a5];exact R.lb i) a6 a7 a8 a9,λl p e=>?_⟩
 ·by_cases t:∃j,f_= .x j
  ·obtain⟨j,rfl⟩:=t;by_cases I:j=0
   ·subst I
    match p with
    |[]=>exact .inr (A4 rfl)
    |(_+1)::_=>exact .inr (A4 rfl)
    |0::_::_=>exact .inr (A4 rfl)
    | [0]=>
      refine .inl ⟨hd,[c],?_,λ_ r=>?_,λA D C e=>?_⟩
      ·rw[M];show (PV.sl g y,((Ak ρ st us X hd [c]).2).S_ [0])=_;rw[FX F.1 F.2]
      ·simp only[Dz,CL];rw[Ren.seg_mv (by omega) (by omega)];simp
      have e2:(PV.sl g y).q=some (Ql.i6 A D C):=e;cases g<;>simp[PV.q]at e2<;>cases U
   have z:Ak ρ (y_ st (.fl .undef) hd [c]) us (Xs X 0 (.sl g y) (Ak ρ st us X hd [c]).2) (.x j) p=Ak ρ st us X (.x j) p:=(by simp[Ak,Xs,I]);refine .inl (Bm z (λ_=>Ren.u_ (λh=>u j h.symm) (by simpa using I)) λA D C e G=>Ren.u_ ?_ (G 0));rw[z]at e;exact Ef (hX.2 j hd) e
  rcases a1 f_ p (λi h=>t ⟨i,h⟩)with h|⟨h1,O,J⟩|⟨h1,O,J⟩
  ·exact .inr (A4 h)
  ·exact .inr (A4 (by rw[J]))
  rw[h1];refine .inl ⟨f_,p,rfl,λs r=>?_,λA D C e G=>?_⟩
  ·by_cases N:f_=hd
   ·subst N;rcases L p with h|⟨c',rfl⟩
    ·rw[h]at s;cases s
    have Z:c'≠c:=λh=>O ⟨rfl,by rw[h]⟩;exact Ren.seg_rest_a (u 0) (by omega) r
   exact Ren.u_ N (λh=>t ⟨0,h⟩) _
  have:(Ren.seg hd c 1 (.x 0) 0).still A:=Ren.u_ (J A D C e) (G 0);exact⟨λ_=>this,this.soft⟩
 ·unfold Xs;split
  ·exact⟨F.1,F.2⟩
  exact R.shx j
 simp only[e,Ag.ren];rw[Ren.seg_mv (by omega) (by omega)];simp
theorem RS.drop1{v:PV}{u:V}{q:PV}{y:V}(R:RS h0 ω0 ω ρ st us (X2 v u q y)):∃ω',RS h0 ω0 ω' ρ st us (X1 v u):=by
 refine⟨_,RS.ren (f4:=st) (v_:=us) (X':=X1 v u) R (Ren.drop_ok (.x 1)) TS (λf_ p=>?_) rfl R.sh (λi=>?_) R.lsl R.lbx R.lb R.cb R.ch rfl (λ_=>rfl)⟩
 ·cases f_ with
  | x i=>
    by_cases hi:i=0
    ·subst hi;exact .inl (Bm rfl (λ_=>Ren.i7 (by simp)) λn j g _ h=>Ren.i7 (h 1))
    exact .inr (A4 (F9 i hi p))
  |s t=>exact .inl (Bm rfl (λ_=>Ren.i7 (by simp)) λn j g _ h=>Ren.i7 (h 1))
  |b t=>exact .inl (Bm rfl (λ_=>Ren.i7 (by simp)) λn j g _ h=>Ren.i7 (h 1))
  |h t=>exact .inl (Bm rfl (λ_=>Ren.i7 (by simp)) λn j g _ h=>Ren.i7 (h 1))
 by_cases hi:i=0
 ·subst hi;exact R.shx 0
 rw[D6 _ _ i hi];exact Bf _
theorem RS.rehand{v v':PV}{u u':V}{g:PV}{j:V}(R:RS h0 ω0 ω ρ st us (X2 v u g j))(hs:A9 v' u')(y:∀p,RC us.hp ω (.at (.x 0) p) (v'.S_ p) (u'.S_ p))(n:∀p,Cs (v'.S_ p)):RS h0 ω0 ω ρ st us (X2 v' u' g j):=by
 have:=RS.ren (f4:=st) (v_:=us) (X':=X2 v' u' g j) R Ren.id_ok (λhd p i q e=>by simp[Ren.id]at e;exact e.1) (λf_ p=>?_) rfl R.sh (λi=>?_) R.lsl R.lbx R.lb R.cb R.ch rfl (λ_=>rfl)
 ·rwa [DF]at this
 ·cases f_ with
  | x i=>
    by_cases hi:i=0
    ·subst hi;refine .inr ?_;rw[DF];exact⟨n p,y p⟩
    exact .inl (Bv (by simp[Ak,X2,Xs,hi]))
  |s t=>exact .inl (Bv rfl)
  |b t=>exact .inl (Bv rfl)
  |h t=>exact .inl (Bv rfl)
 by_cases hi:i=0
 ·subst hi;exact hs
 have:=R.shx i;simpa [X2,Xs,hi]using this
theorem ZfZ{q:Ql}{es:List (List PV)}{H:Ac}{m:Md}{u:V}(r:RC H ω m (.sl q es) u):A9 (.sl q es) u/\(∀p,((PV.sl q es).S_ p= .sl q es/\u.S_ p=u)\/(PV.sl q es).S_ p= .fl .undef):=by
 have b:(∀us,u≠.agg us)/\∀us,u≠.f8 us:=by
  cases r<;>exact⟨λ_ h=>(by cases h),λ_ h=>(by cases h)⟩
 refine⟨b,λp=>?_⟩
 match p with
 |[0]=>exact .inl ⟨rfl,FX b.1 b.2⟩
 |[]=>exact .inr rfl
 |(_+1)::_=>exact .inr rfl
 |0::_::_=>exact .inr rfl
theorem ZiU {w:Nat} {es g:List (List PV)} {q:List V} {j qr:Ql} {F:V} {L:PV} {I:V} (R:RS h0 ω0 ω ρ st us (X2 (.sl j es) F L I)) (Y:M4 us.hp ω L w g q) (s:0<w) (i:AE ((es.length+g.length)*w))
 (t:RC us.hp ω (.at (.x 0) [0]) (.sl j es) F) (O:j= .own\/j= .i5 w) (N:∀e∈es,e.length=w) (M:DZ us.hp w I=some (q,g.length)) (u:(0<g.length->qr= .own)/\(g.length=0->qr=j)):
 ∃ω' ur h',Ag.app us.hp w F I=some (ur,h')/\RS h0 ω0 ω' ρ st { us with hp:=h' } (X1 (.sl qr (es++g)) ur):=by
 by_cases J:g.length=0
 ·have y:g=[]:=Dq J;subst y;obtain⟨ω',h⟩:=R.drop1;refine⟨ω',F,us.hp,?_,by rw[u.2 rfl,Rm];exact h⟩;simp only[Ag.app,M,A7];cases t<;>simp
 rw[u.1 (by omega)];refine R.appK Y (by omega) s i ?_ M;cases t with
 |nil=>exact .inl ⟨rfl,rfl⟩
 | sl _ _ _ l o n b h1 hkd hc f9 hn hw' hle t=>
   subst hn;refine .inr ⟨j,l,b,rfl,?_⟩;have z:ω l= .own (.x 0) [0]/\o=0/\b.k= .own/\b.w=w:=by
    rcases O with rfl|rfl
    ·obtain⟨D,c2,C⟩:=hc;obtain⟨U,A⟩:=Ro _ (f9 rfl (.inl rfl));exact⟨D,c2,C,by rw[<- hw' U A];exact N U A⟩
    obtain⟨D,c2,C,G⟩:=hc;exact⟨D,c2,C,G s⟩
   obtain⟨D,rfl,C,G⟩:=z;rw[G]at hle t;refine⟨rfl,h1,C,G,D,by omega,N,λk J=>?_⟩;have:=t k J;rw[BJ]at this;rcases O with rfl|rfl<;>exact this
theorem Zhs{x:T_}{q:Ql}{es:List (List PV)}(b:x.t7 st.sl= .sl q es)(g:q.isOwn=true):(Ag.f' x st).1= .sl q es:=by
 cases x with
 |c v=>exact b
 | t n=>
   simp only[T_.t7]at b;have:(PV.sl q es).own=true/\(PV.sl q es).i6 (.s n)=false:=(by cases q<;>first|exact⟨rfl,rfl⟩|cases g);simp only[Ag.f',b,Gm,this.1,this.2,AX,AZ,A5]
theorem rz{v:PV}{u:V}(b:∀hd,v.i6 hd=false)(j:Nat)(hd:Hd):(Xs X0 1 v u j).1.i6 hd=false:=by
 unfold Xs;split
 ·exact b hd
 rfl
theorem sv (R:RS h0 ω0 ω ρ st us X0){w:Nat}{x y:T_}{v:PV}(e:(match FG w y st with|some (g,st)=>JI w x g st|none=>none)=some (v,st1)):Out2 (.app w x y) us h0 ω0 v st1:=by
 split at e
 ·rename_i g f4 hsrc;have hw0:0<w:=by
   unfold JI at e;repeat' split at e
   all_goals first|(cases e;done)|(rename_i h;exact h.1)|(rename_i h _;exact h.1)
  obtain⟨ω1,Y,ycs,R1,hvb,hN,hy⟩:=ZfS R hw0 hsrc;have fin:∀ {ω2:Nat->W} {z:PS} {q0 qr:Ql} {es:List (List PV)},RS h0 ω0 ω2 ρ z us (X2 (.sl q0 es) (x.ev us.sl) Y (y.ev us.sl))->M4 us.hp ω2 Y w g ycs->AE ((es.length+g.length)*w)->RC us.hp ω2 (.at (.x 0) [0]) (.sl q0 es) (x.ev us.sl)->(q0= .own\/q0= .i5 w)->(∀e∈es,e.length=w) ->
   ((0<g.length->qr= .own)/\(g.length=0->qr=q0))->Out2 (.app w x y) us h0 ω0 (.sl qr (es++g)) z:=by
   intro ω2 z q0 qr es s hN2 hroom hr hq hw hqr;obtain⟨ω',ur,h',A,e2⟩:=ZiU s hN2 hw0 hroom hr hq hw hy hqr;exact⟨ur,us.bx,h',ω',ρ,by simp only[Af];rw[Ad hw0,A];rfl,e2⟩
  have G:∀ {ω2:Nat->W} {z:PS} {v0:PV} {u0:V},RS h0 ω0 ω2 ρ z us (X2 v0 u0 Y (y.ev us.sl))->M4 us.hp ω2 Y w g ycs:=by
   intro ω2 z v0 u0 s;obtain⟨a,b,c⟩:=hN;refine⟨a,b,c.imp (λ⟨hv,_⟩=>⟨hv,λk N=>?_⟩) id⟩;subst hv;have r:=s.core.rc (.x 1) [0];have hs:A9 (.sl .own g) (y.ev us.sl):=s.shx 1;have r':RC us.hp ω2 (.at (.x 1) [0]) (.sl .own g) (y.ev us.sl):=by
    have:RC us.hp ω2 (.at (.x 1) [0]) (.sl .own g) ((y.ev us.sl).S_ [0]):=r;rwa [FX hs.1 hs.2]at this
   generalize y.ev us.sl=u at r' hy;cases r' with
   |nil=>simp at N
   | sl _ _ _ l o n b' h1 hkd D f9 hn hw M hr=>
     subst hn;obtain⟨e0,O⟩:=Ro _ (f9 rfl (.inl rfl));have hbw:b'.w=w:=(by rw[<- hw e0 O];exact a e0 O);rw[hbw]at M hr;simp only[DZ,rd,h1]at hy;rw[Ad ⟨hkd,M⟩]at hy;simp only[Cw,Ap,Aq]at hy;have r:=hr k N;rw[<- hy.1,H6,Ad N];exact r
  have Z:∀ {ω2:Nat->W} {z:PS} {q:Ql} {es:List (List PV)} {u0:V},RS h0 ω0 ω2 ρ z us (X2 (.sl q es) u0 Y (y.ev us.sl))->RC us.hp ω2 (.at (.x 0) [0]) (.sl q es) u0:=by
   intro ω2 z q es u0 s;have hs:A9 (.sl q es) u0:=s.shx 0;have:RC us.hp ω2 (.at (.x 0) [0]) (.sl q es) (u0.S_ [0]):=s.core.rc (.x 0) [0];rwa [FX hs.1 hs.2]at this
  have slot:∀ {q:Ql} {es:List (List PV)},x.t7 f4.sl= .sl q es->q.isOwn=true->∃ω2,RS h0 ω0 ω2 ρ (Ag.f' x f4).2 us (X2 (.sl q es) (x.ev us.sl) Y (y.ev us.sl)):=by
   intro q es J hq;obtain⟨ω2,s⟩:=R1.f' x 0 (λp=>Ba p) (λn j=>rz hvb j _);rw[Zhs J hq]at s;exact⟨ω2,s⟩
  have held:∀ {hd:Hd} {c:Nat} {L:Ql} {t:List (List PV)},Df f4 hd [c]= .sl L t->L.isOwn=true->∃ω2 uh,RS h0 ω0 ω2 ρ (y_ f4 (.fl .undef) hd [c]) us (X2 (.sl L t) uh Y (y.ev us.sl))/\RC us.hp ω1 (.at hd [c]) (.sl L t) uh/\∀l p,ω1 l= .own hd (c::p)->ω2 l= .own (.x 0) (0::p):=by
   intro hd c L t U hq;obtain⟨_,_,_,_,_,_,_,_,_,_,a11,_⟩:=Tu (X':=X0) (v:=.fl .undef) R1 U (.inl rfl) rfl;have r:=R1.core.rc hd [c];rw[a11]at r;have hu:(∀ws,(Ak ρ f4 us (Xs X0 1 Y (y.ev us.sl)) hd [c]).2≠.agg ws)/\∀ws,(Ak ρ f4 us (Xs X0 1 Y (y.ev us.sl)) hd [c]).2≠.f8 ws:=r.scalar (λa h=>by cases h);obtain⟨ω2,s,h2⟩:=R1.takeK ⟨λp=>Ba p,λj hd=>rz hvb j hd⟩ U hq hu;exact⟨ω2,_,s,r,h2⟩
  have preK : ∀ {hd:Hd} {c:Nat} {es t:List (List PV)} {L:Ql},L.isOwn=true->(L= .own\/L= .i5 w)->x.t7 f4.sl= .sl (.pre hd [c]) es->Df f4 hd [c]= .sl L t->C4 w t=true->0<t.length->es.length<=t.length->AE ((es.length+g.length)*w) ->
   Out2 (.app w x y) us h0 ω0 (.sl (if es.length+g.length=0 then .i5 w else .own) (t.take es.length++g)) (y_ f4 (.fl .undef) hd [c]):=by
   intro hd c es t L hqo hqq J U c2 I c4 c5;obtain⟨ω2,uh,s,rh,hlab⟩:=held U hqo;have hwh:=(Jl w t).1 c2;have C:(t.take es.length).length=es.length:=(by simp;omega);have cut:RC us.hp ω2 (.at (.x 0) [0]) (.sl (if es.length=0 then .i5 w else .own) (t.take es.length)) (x.ev us.sl):=by
    obtain⟨hdx,_,rx⟩:=R1.ev_one J (λ_ h=>(by cases h)) (λ_ h=>(by cases h)) (λ_ h=>(by cases h));have r2:=Z s;generalize x.ev us.sl=u at rx;cases rx with
    |nil=>exact .nil _ _
    | sl _ _ _ l o n b h1 N D f9 hn hw M hr=>
      obtain⟨hl,rfl⟩:=D;cases r2 with
      |nil=>simp at I
      | sl _ _ _ l' o' n' b' h1' hk' hc' hne' hn' hw' hle' hr'=>
        have hl2:=hlab l [] hl;have hll:l'=l:=s.core.inj l' l (.x 0) [0] (by rcases hqq with rfl|rfl;exact hc'.1;exact hc'.1) hl2;subst hll;rw[h1]at h1';cases h1';have hbw:b.w=w:=by
         obtain⟨e0,O⟩:=Ro t (by rintro rfl;simp at I);rw[<- hw' e0 O];exact hwh e0 O
        have hc2:ω2 l'= .own (.x 0) [0]/\o'=0/\b.k= .own:=(by rcases hqq with rfl|rfl;exact hc';exact⟨hc'.1,hc'.2.1,hc'.2.2.1⟩);obtain⟨g1,rfl,g3⟩:=hc2;subst hn;have hmul:es.length*b.w<=t.length*b.w:=Hz _ c4;have F:∀k,k<(t.take es.length).length*b.w->RC us.hp ω2 (.inn (.x 0) ([0]++[k])) (Aa (t.take es.length).flatten k) (get b.cs (0+k)):=by
         intro k N;rw[C]at N;have hb0:0<b.w:=(by rw[hbw];exact hw0);have A:=LQ (w:=b.w) (es:=t.take es.length) (λe he=>hw' e (LZ he)) (k / b.w) (k % b.w) (Ii _ hb0);have e2:=LQ (w:=b.w) hw' (k / b.w) (k % b.w) (Ii _ hb0);have hd1:k / b.w*b.w+k % b.w=k:=(by rw[LX];exact O9 k b.w);rw[hd1]at A e2;rw[A,Rj,OV ((T9 hb0).2 N),<- Rj,<- e2];have:=hr' k (by omega);rcases hqq with rfl|rfl<;>exact this
        by_cases hz:es.length=0
        ·rw[Ad hz];exact RC.sl _ (.i5 w) _ l' 0 _ b h1 N ⟨g1,rfl,g3,λ_=>hbw⟩ (λ_ h=>by simp at h) C.symm (λe he=>hw' e (LZ he)) (by rw[C];omega) F
        rw[Ae hz];exact RC.sl _ .own _ l' 0 _ b h1 N ⟨g1,rfl,g3⟩ (λ_ _ h=>by rw[h]at C;simp at C;omega) C.symm (λe he=>hw' e (LZ he)) (by rw[C];omega) F
   obtain⟨s1,s2⟩:=ZfZ cut;have R3:=s.rehand (v':=.sl (if es.length=0 then .i5 w else .own) (t.take es.length)) (u':=x.ev us.sl) s1 (λp=>by
    rcases s2 p with⟨A,e2⟩|A
    ·rw[A,e2]
     match p,A with
     |[0],_=>exact cut
     |[],A=>cases A
     |(_+1)::_,A=>cases A
     |0::_::_,A=>cases A
    ·rw[A];exact .undef _ _) (λp=>by
    rcases s2 p with⟨A,e2⟩|A
    ·rw[A];intro i pb tp h;split at h<;>simp[PV.q]at h
    rw[A];exact λi pb tp=>by simp[PV.q])
   refine fin R3 (G R3) (by rw[C];exact c5) cut (by split;exact .inr rfl;exact .inl rfl) (λe he=>hwh e (LZ he)) ⟨λh=>by rw[Ae (by omega)],λh=>?_⟩;simp only[h,Fg]
  unfold JI at e;split at e
  ·rename_i es J;split at e
   ·rename_i D;obtain⟨_,c2,I⟩:=D;cases e;obtain⟨ω2,s⟩:=slot J rfl;exact fin s (G s) I (Z s) (.inl rfl) ((Jl w es).1 c2) ⟨λ_=>rfl,λ_=>rfl⟩
   cases e
  ·rename_i w' es J;split at e
   ·rename_i D;obtain⟨_,rfl,c2,I⟩:=D;cases e;obtain⟨ω2,s⟩:=slot J rfl;exact fin (qr:=if g.length=0 then .i5 w' else .own) s (G s) I (Z s) (.inr rfl) ((Jl w' es).1 c2) ⟨λh=>by rw[Ae (by omega)],λh=>by rw[Ad h]⟩
   cases e
  ·rename_i hd c es J;split at e
   ·rename_i t U;split at e
    ·rename_i D;obtain⟨_,c2,I,c4⟩:=D;cases e;obtain⟨ω2,uh,s,rh,hlab⟩:=held U rfl;have hu:uh=x.ev us.sl:=by
      obtain⟨hdx,_,rx⟩:=R1.ev_one J (λ_ h=>(by cases h)) (λ_ h=>(by cases h)) (λ_ h=>(by cases h));generalize x.ev us.sl=u at rx;cases rx with
      | nil=>
        have:t=[]:=Dq (by rw[<- I];rfl);subst this;cases rh with
        |nil=>rfl
        |sl _ _ _ l o n b h1 N D f9 hn hw M hr=>exact absurd rfl (f9 rfl (.inl rfl))
      | sl _ _ _ l o n b h1 N D f9 hn hw M hr=>
        have hes:=f9 rfl (.inr ⟨hd,[c],rfl⟩);have heh:t≠[]:=(by rintro rfl;exact hes (Dq I));obtain⟨_,hc2⟩:=D;obtain⟨hl,ho⟩:=hc2 rfl;cases rh with
        |nil=>exact absurd rfl heh
        | sl _ _ _ l' o' n' b' h1' hk' hc' hne' hn' hw' hle' hr'=>
          rw[R1.core.inj l' l hd [c] hc'.1 hl,hc'.2.1,ho,hn',hn,I]
     subst hu;exact fin s (G s) c4 (Z s) (.inl rfl) ((Jl w t).1 c2) ⟨λ_=>rfl,λ_=>rfl⟩
    cases e
   cases e
  ·rename_i hd c es J;split at e
   ·rename_i t U;split at e
    ·rename_i D;obtain⟨_,c2,I,c4,c5⟩:=D;cases e;exact preK rfl (.inl rfl) J U c2 I c4 c5
    cases e
   ·rename_i w' t U;split at e
    ·rename_i D;obtain⟨_,rfl,c2,I,c4,c5⟩:=D;cases e;exact preK rfl (.inr rfl) J U c2 I c4 c5
    cases e
   cases e
  cases e
 cases e
end
def Ren.segD(hd:Hd)(p s n:Nat):Ren:=λf_ q=>match q with
 |[]=>.own f_ []| c::r=>if f_= .x 0/\c<n then .own hd (p::(s+c)::r)else if f_=hd/\c=p then (match r with
   |[]=>.own f_ [c]
   |k::r'=>if s<=k/\k<s+n then .Z_ else .own f_ (c::k::r'))else .own f_ (c::r)
theorem Ren.segD_ok{hd:Hd}{p s n:Nat}(G:hd≠.x 0):(Ren.segD hd p s n).Ok:=by
 have j : ∀(a:Hd) (q:List Nat),(∃c r,a= .x 0/\q=c::r/\c<n/\Ren.segD hd p s n a q= .own hd (p::(s+c)::r))\/Ren.segD hd p s n a q= .Z_\/(Ren.segD hd p s n a q= .own a q/\∀c r,¬(a=hd/\q=p::(s+c)::r/\c<n)):=by
  intro a q
  match q with
  |[]=>exact .inr (.inr ⟨rfl,λc r h=>by cases h.2.1⟩)
  | c :: r=>
    by_cases h1:a= .x 0/\c<n
    ·exact .inl ⟨c,r,h1.1,rfl,h1.2,by simp only[Ren.segD];rw[Ad h1]⟩
    by_cases b:a=hd/\c=p
    ·match r with
     |[]=>exact .inr (.inr ⟨by simp only[Ren.segD];rw[Ae h1,Ad b],λc' r' h=>by cases h.2.1⟩)
     | k::r'=>
       by_cases z:s<=k/\k<s+n
       ·exact .inr (.inl (by simp only[Ren.segD];rw[Ae h1,Ad b,Ad z]))
       refine .inr (.inr ⟨by simp only[Ren.segD];rw[Ae h1,Ad b,Ae z],λc' t h=>?_⟩);obtain⟨_,e,I⟩:=h;simp at e;omega
    refine .inr (.inr ⟨by simp only[Ren.segD];rw[Ae h1,Ae b],λc' t h=>?_⟩);obtain⟨F,e,_⟩:=h;simp at e;exact b ⟨F,e.1⟩
 refine⟨λa q C q' x c e g=>?_,λa q=>?_⟩
 ·rcases j a q with⟨A,r1,rfl,rfl,u,h1⟩|h1|⟨h1,D⟩
  ·rw[h1]at e;cases e;rcases j C q' with⟨c2,r2,rfl,rfl,i,b⟩|b|⟨b,y⟩
   ·rw[b]at g;simp at g;exact⟨rfl,by rw[g.1,g.2]⟩
   ·rw[b]at g;cases g
   rw[b]at g;cases g;exact absurd ⟨rfl,rfl,u⟩ (y A r1)
  ·rw[h1]at e;cases e
  rw[h1]at e;cases e;rcases j C q' with⟨c2,r2,rfl,rfl,i,b⟩|b|⟨b,y⟩
  ·rw[b]at g;cases g;exact absurd ⟨rfl,rfl,i⟩ (D c2 r2)
  ·rw[b]at g;cases g
  rw[b]at g;cases g;exact⟨rfl,rfl⟩
 rcases j a q with⟨A,r1,_,_,_,h1⟩|h1|⟨h1,_⟩
 ·exact .inr ⟨_,_,h1⟩
 ·exact .inl h1
 exact .inr ⟨_,_,h1⟩
theorem Ren.segD_still{hd:Hd}{p s n:Nat}{c:Hd}(h1:c≠hd)(b:c≠.x 0):(Ren.segD hd p s n).still c:=λq=>by
 match q with
 |[]=>rfl
 |c'::r=>simp only[Ren.segD];rw[Ae (λh=>b h.1),Ae (λh=>h1 h.1)]
theorem Ren.segD_mv{hd:Hd}{p s n c:Nat}(b:c<n)(r:List Nat):Ren.segD hd p s n (.x 0) (c::r)= .own hd (p::(s+c)::r):=by
 simp only[Ren.segD];rw[Ad ⟨trivial,b⟩]
theorem Ren.segD_oth{hd:Hd}{p s n c:Nat}(b:hd≠.x 0)(g:c≠p)(r:List Nat):Ren.segD hd p s n hd (c::r)= .own hd (c::r):=by
 simp only[Ren.segD];rw[Ae (λh=>b h.1),Ae (λh=>g h.2)]
theorem Ren.segD_in{hd:Hd}{p s n k:Nat}(b:hd≠.x 0)(g:¬(s<=k/\k<s+n))(r:List Nat):Ren.segD hd p s n hd (p::k::r)= .own hd (p::k::r):=by
 simp only[Ren.segD];rw[Ae (λh=>b h.1),Ad ⟨trivial,trivial⟩,Ae g]
theorem Ren.segD_top{hd:Hd}{p s n:Nat}(b:hd≠.x 0):Ren.segD hd p s n hd [p]= .own hd [p]:=by
 simp only[Ren.segD];rw[Ae (λh=>b h.1),Ad ⟨trivial,trivial⟩]
theorem ZiW{hd:Hd}{p s n:Nat}(a:Hd)(q:List Nat)(i:Nat)(r:List Nat)(e:Ren.segD hd p s n a q= .own (.h i) r):a= .h i\/hd= .h i:=by
 match q with
 |[]=>cases e;exact .inl rfl
 | c :: r'=>
   simp only[Ren.segD]at e;split at e
   ·cases e;exact .inr rfl
   split at e
   ·split at e
    ·cases e;exact .inl rfl
    split at e
    ·cases e
    cases e;exact .inl rfl
   cases e;exact .inl rfl
theorem M5(es:List (List PV))(j:Nat)(e:List PV):(Ds es j e).length=es.length:=by
 induction es generalizing j with
 |nil=>rfl
 | cons x r ih=>cases j with
   |zero=>rfl
   |succ j=>simp[Ds,ih]
theorem Zih(es:List (List PV))(j k:Nat)(e:List PV):Bs (Ds es j e) k=if k=j/\j<es.length then e else Bs es k:=by
 induction es generalizing j k with
 |nil=>simp[Ds,Bs]
 | cons x r ih=>cases j with
   | zero=>cases k with
     |zero=>simp[Ds,Bs]
     |succ k=>simp[Ds,Bs]
   | succ j=>cases k with
     |zero=>simp[Ds,Bs]
     |succ k=>simp only[Ds,Bs,ih,A0];congr 1;simp
theorem eI{w:Nat}{es:List (List PV)}(b:∀e∈es,e.length=w){j:Nat}{e:List PV}(g:e.length=w):∀x∈Ds es j e,x.length=w:=by
 induction es generalizing j with
 |nil=>simp[Ds]
 | cons x r ih=>cases j with
   |zero=>simp only[Ds,CE];rintro y (rfl|h);exact g;exact b y (by simp[h])
   |succ j=>simp only[Ds,CE];rintro y (rfl|h);exact b y (by simp);exact ih (λe h=>b e (by simp[h])) y h
section
variable {h0:Ac} {ω0 ω:Nat->W} {ρ ρ':Nat->Nat} {st f4 st1:PS} {us v_:St} {X X':CN}
theorem RS.rent (R:RS h0 ω0 ω ρ st us X) {f:Ren} (C:f.Ok) (hh:∀l a q i r,ω l= .own a q->f a q= .own (.h i) r->i<f4.hp.length) {l0:Nat} {L:Hd} {p0:List Nat} (u:ω l0= .own L p0)
 (ht:∀l,l≠l0->v_.hp[l]?=us.hp[l]?) (hk:∃b,v_.hp[l0]?=some b/\b.k= .own) (j:v_.hp.length=us.hp.length)
 (hA:∀hd p,fm f ω (λl=>l == l0) (Ak ρ st us X) (Ak ρ f4 v_ X' hd p) hd p\/Cs (Ak ρ f4 v_ X' hd p).1/\RC v_.hp (λl=>Ag.ren f (ω l)) (.at hd p) (Ak ρ f4 v_ X' hd p).1 (Ak ρ f4 v_ X' hd p).2)
 (hs:∀t,A9 (Aa f4.sl t) (get v_.sl t)) (hx:∀i,A9 (X' i).1 (X' i).2) (l1:f4.sl.length=v_.sl.length) (l2:f4.bx.length=v_.bx.length)
 (l3:∀i,(Ao f4.bx i).length=(A3 v_.bx i).length) (c1:∀i c,(Aa (Ao f4.bx i) c).lay=true) (c2:∀i c,(Aa (Ao f4.hp i) c).lay=true)
 (l4:f4.hp.length=st.hp.length) (l5:∀i,i<st.hp.length->(A6 v_.hp (ρ i)).length=(Ao f4.hp i).length):RS h0 ω0 (λl=>Ag.ren f (ω l)) ρ f4 v_ X':=by
 have t:Tr us.hp ω v_.hp (λl=>Ag.ren f (ω l)) f (λl=>(l == l0)=true):=
  ⟨λl e=>⟨by simp[e,Ag.ren],ht l (by rintro rfl;rw[u]at e;cases e)⟩,λl hd p e hn=>⟨by simp[e,Ag.ren],ht l (by simpa using hn)⟩,λl i e=>by simp[e,Ag.ren]⟩
 have c:=R.core;refine⟨⟨λhd p=>?_,λl l' hd p e g=>?_,λl l' i e g=>c.injp l l' i (Ez C e) (Ez C g),λl e=>?_,λl e=>?_⟩,hs,hx,l1,l2,l3,c1,c2,λi hi=>?_,λl i e=>?_,λl i p e=>?_,?_,λhd p i s n=>?_⟩
 ·rcases hA hd p with⟨a,b,e,I,hb⟩|h
  ·have J:=R.nx a b;rw[e]at I hb ⊢;exact(R.core.rc a b).tr t (λg=>⟨λl r h=>by simp[(I g).1 l r h],(I g).2⟩) (λM s n g=>by
    obtain⟨x,y,z⟩:=hb M s n g (λi h=>by subst h;exact J i s n g);exact⟨λl q h=>by simp[x l q h],y,z⟩)
  exact h.2
 ·obtain⟨a,q,D,Y⟩:=D0 e;obtain⟨a',q',Z,U⟩:=D0 g;obtain⟨rfl,rfl⟩:=C.inj a q a' q' hd p Y U;exact c.inj l l' a q D Z
 ·by_cases A:l=l0
  ·subst A;exact hk
  have:(∃hd p,ω l= .own hd p)\/∃i,ω l= .ptr i:=by
   rcases e with⟨hd,p,e⟩|⟨i,e⟩
   ·obtain⟨x,q,D,_⟩:=D0 e;exact .inl ⟨x,q,D⟩
   exact .inr ⟨i,Ez C e⟩
  obtain⟨G,O,N⟩:=R.core.kind l this;exact⟨G,by rw[ht l A];exact O,N⟩
 ·rw[j];exact c.notNone l (by intro h;rw[h]at e;cases e)
 ·rw[l4]at hi;exact⟨by simp[(R.hp i hi).1,Ag.ren],l5 i hi⟩
 ·rw[l4];exact R.bdp l i (Ez C e)
 ·obtain⟨a,q,D,Y⟩:=D0 e;exact hh l a q i p D Y
 ·have F:=R.fr.ren f;refine⟨by rw[j];exact F.len,λl A e=>?_,F.new,F.ptr⟩;obtain⟨a,b⟩:=F.old l A e;refine⟨?_,b⟩;rw[ht l,a];rintro rfl;obtain⟨_,G⟩:=R.fr.old l A e;rw[u]at G;rcases e with e|e<;>rw[e]at G<;>cases G
 rcases hA hd p with⟨a,b,e,_⟩|h
 ·rw[e];exact R.nx a b i s n
 exact h.1 i s n
theorem RC.lay_inn{H:Ac}{hd:Hd}{p:List Nat}{v:PV}{u:V}(r:RC H ω (.at hd p) v u)(g:v.lay=true):RC H ω (.inn hd p) v u:=by
 cases r with
 |undef=>exact .undef _ _
 |v _ _ i=>exact .v _ _ i
 |nil=>exact .nil _ _
 | sl _ q es' l o n b h1 hk hc f9 hn hw hle hr=>
   cases q with
   |i6=>simp[PV.lay]at g
   |pre=>simp[PV.lay]at g
   |Z_=>exact .sl _ _ _ _ _ _ b h1 hk hc f9 hn hw hle hr
   |own=>exact .sl _ _ _ _ _ _ b h1 hk hc f9 hn hw hle hr
   |i5=>exact .sl _ _ _ _ _ _ b h1 hk hc f9 hn hw hle hr
 |ep=>simp[PV.lay]at g
 |box=>simp[PV.lay]at g
 |ptr=>simp[PV.lay]at g
theorem nq{w:Nat}{es:List (List PV)}(q:∀e∈es,e.length=w){j o:Nat}{i:List PV}(x:j<es.length)(z:o+i.length<=w)(k:Nat)(u:k<es.length*w):Aa (Ds es j (AY (Bs es j) o i)).flatten k=if j*w+o<=k/\k<j*w+o+i.length then Aa i (k-(j*w+o))else Aa es.flatten k:=by
 have b:0<w:=by rcases fq w with h|h;(· rw[h]at u;simp at u);(· exact h)
 have s:=Yp q x;have y:=LQ (w:=w) (eI (j:=j) (e:=AY (Bs es j) o i) q (by rw[HW];exact s)) (k / w) (k % w) (Ii _ b);have t:=LQ (w:=w) q (k / w) (k % w) (Ii _ b);have hd1:k / w*w+k % w=k:=by rw[LX];exact O9 k w
 rw[hd1]at y t;have hm:=Ii k b;rw[y,Zih];by_cases g:k / w=j
 ·rw[Ad ⟨g,x⟩,Jh _ _ _ _ (by omega),<- g];have:(o<=k % w/\k % w<o+i.length)↔(k / w*w+o<=k/\k<k / w*w+o+i.length):=(by omega);by_cases n:o<=k % w/\k % w<o+i.length
  ·rw[Ad n,Ad (this.1 n)];congr 1;omega
  rw[Ae n,Ae (λh=>n (this.2 h)),t]
 rw[Ae (λh=>g h.1),<- t,Ae];rintro⟨h1,F⟩;apply g;have A:k<(j+1)*w:=by rw[D2];omega
 have D:j<=k / w:=(Nat.le_div_iff_mul_le b).2 (by omega);have C:k / w<j+1:=(T9 b).2 A;omega
theorem ZgI (R:RS h0 ω0 ω ρ st us X0) {n:Nat} {a x:T_} {v w:PV} {s:PS} {hd:Hd} {p:Nat} {esa es:List (List PV)} {j o:Nat} (emo:Ag.f' x st=(w,s)) (hx:a.t7 s.sl= .ep (.i6 hd [p] true) esa j o) (hg:Df s hd [p]= .sl .own es)
 (e:(if j<es.length/\w.cells.length=n/\o+n<=(Bs es j).length/\BV w.cells=true then some (PV.fl V.undef,y_ s (.sl .own (Ds es j (AY (Bs es j) o w.cells))) hd [p])else none)=some (v,st1)):Out2 (.f6 n a x) us h0 ω0 v st1:=by
 obtain⟨ω1,A⟩:=R.mv0 x;rw[emo]at A;simp only at A;split at e
 ·rename_i hcnd;obtain⟨c1,c2,c3,c4⟩:=hcnd;cases e;subst c2;obtain⟨k1,k2,k3,k4⟩:=A.hand_cells (i:=0) (v:=w) (u:=x.ev us.sl) rfl c4;obtain⟨a1,a2,a3,a4,a5,a6,a7,a8,a9,a10,a11,a12⟩:=Tu (X':=X0) (v:=.sl .own (Ds es j (AY (Bs es j) o w.cells))) A hg (.inr ⟨_,_,rfl⟩) rfl;have rh:=A.core.rc hd [p];rw[a11]at rh;simp only at rh;generalize hfu:(Ak ρ s us (X1 w (x.ev us.sl)) hd [p]).2=uh at rh a1 a11;obtain⟨hdx,_,rx⟩:=A.ev_one hx (λ_ h=>(by cases h)) (λ_ h=>(by cases h)) (λ_ h=>(by cases h));generalize hau:a.ev us.sl=ua at rx;cases rx with
  | ep _ _ _ _ _ l o1 pp b h1 hk hq hc hw hle hr hp=>
    obtain⟨L,rfl⟩:=hc.2 rfl;cases rh with
    |nil=>simp at c1
    | sl _ _ _ l' o' n' b' h1' C hc' hne' hn' hw' hle' hr'=>
      have hll:l'=l:=A.core.inj l' l hd [p] hc'.1 L;subst hll;rw[h1]at h1';cases h1';obtain⟨_,rfl,M⟩:=hc';subst hn';have hel:=Yp hw' c1;rw[hel]at c3;have hjw:(j+1)*b.w<=es.length*b.w:=Hz _ c1;rw[D2,FF]at hjw;have hpp:pp=j*b.w+o:=(by omega);subst hpp;have hwr:wr us.hp l' (j*b.w+o) (x.ev us.sl).cells=some (us.hp.set l' { b with cs:=e_ b.cs (j*b.w+o) (x.ev us.sl).cells }):=by
       rw[wr,h1];simp only;rw[Ad ⟨M,by rw[k1];omega⟩]
      have h_:l'<us.hp.length:=BB h1;have g:∀k,(us.hp.set l' { b with cs:=e_ b.cs (j*b.w+o) (x.ev us.sl).cells })[k]?=if k=l' then some { b with cs:=e_ b.cs (j*b.w+o) (x.ev us.sl).cells }else us.hp[k]?:=by
       intro k;rw[Hw];by_cases h:l'=k
       ·subst h;simp[h_]
       rw[Ae h,Ae (λh'=>h h'.symm)]
      have hV:∀k,k<s.hp.length->A6 (us.hp.set l' { b with cs:=e_ b.cs (j*b.w+o) (x.ev us.sl).cells }) (ρ k)=A6 us.hp (ρ k):=by
       intro k C;have:ρ k≠l':=(by intro e;have:=(A.hp k C).1;rw[e,L]at this;cases this);simp only[A6,g,Ae this]
      have D:hd≠.x 0:=a10 0;have d9:=Ren.segD_ok (hd:=hd) (p:=p) (s:=j*b.w+o) (n:=w.cells.length) D;have t:Tr us.hp ω1 (us.hp.set l' { b with cs:=e_ b.cs (j*b.w+o) (x.ev us.sl).cells }) (λl=>Ag.ren (Ren.segD hd p (j*b.w+o) w.cells.length) (ω1 l)) (Ren.segD hd p (j*b.w+o) w.cells.length) (λl=>(l == l')=true):=
       ⟨λl e=>⟨by simp[e,Ag.ren],by rw[g,Ae];rintro rfl;rw[L]at e;cases e⟩,λl hd p e O=>⟨by simp[e,Ag.ren],by rw[g,Ae (by simpa using O)]⟩,λl i e=>by simp[e,Ag.ren]⟩
      have y:∀l a q,ω1 l= .own a q->¬(a=hd/\q=[p])->(l == l')=false:=by
       intro l a q e O;cases he:l == l' with
       |false=>rfl
       | true=>
         have:l=l':=(by simpa using he);rw[this,L]at e;cases e;exact absurd ⟨rfl,rfl⟩ O
      have Z:∀e∈Ds es j (AY (Bs es j) o w.cells),e.length=b.w:=eI hw' (by rw[HW];exact hel);have N:RC (us.hp.set l' { b with cs:=e_ b.cs (j*b.w+o) (x.ev us.sl).cells }) (λl=>Ag.ren (Ren.segD hd p (j*b.w+o) w.cells.length) (ω1 l)) (.at hd [p]) (.sl .own (Ds es j (AY (Bs es j) o w.cells))) (.slice l' 0 es.length):=by
       refine RC.sl _ .own _ l' 0 _ { b with cs:=e_ b.cs (j*b.w+o) (x.ev us.sl).cells } (by rw[g,Ad rfl]) hk ⟨by simp only[L,Ag.ren];exact Ren.segD_top D,rfl,M⟩ (λ_ _ h=>by have:=congrArg List.length h;rw[M5]at this;simp only[A7]at this;omega) (by rw[M5]) Z (by simp only[M5,Hf];exact hle') λk C=>?_;simp only[M5]at C;simp only[BJ];rw[nq hw' c1 c3 k C,W3 _ _ _ _ (by rw[k1];omega),k1];split
       ·rename_i F;have U:=(Gy c4 (k-(j*b.w+o))).1;refine((k3 (k-(j*b.w+o))).lay_inn U).inn t (λl r e=>?_) (λr=>?_)
        ·rw[y l _ _ e (λh=>D h.1.symm)];simp
        simp only[Dz,CL,Md.sub];rw[Ren.segD_mv (by omega),show j*b.w+o+(k-(j*b.w+o))=k by omega]
       rename_i F;have r:=hr' k C;rw[BJ]at r;refine r.inn t (λl r e=>?_) (λr=>?_)
       ·rw[y l _ _ e (by simp)];simp
       simp only[Dz,CL,Md.sub];exact Ren.segD_in D F r
      have Y:∀f_ q,Ak ρ (y_ s (.sl .own (Ds es j (AY (Bs es j) o w.cells))) hd [p]) { us with hp:=us.hp.set l' { b with cs:=e_ b.cs (j*b.w+o) (x.ev us.sl).cells } } X0 f_ q=Ak ρ (y_ s (.sl .own (Ds es j (AY (Bs es j) o w.cells))) hd [p]) us X0 f_ q\/(Ak ρ (y_ s (.sl .own (Ds es j (AY (Bs es j) o w.cells))) hd [p]) { us with hp:=us.hp.set l' { b with cs:=e_ b.cs (j*b.w+o) (x.ev us.sl).cells } } X0 f_ q).1= .fl .undef:=by
       intro f_ q;cases f_ with
       | h i=>
         rcases Bz i s.hp.length with hi|hi
         ·left;simp only[Ak,hV i hi]
         right;have hz:Ao (y_ s (.sl .own (Ds es j (AY (Bs es j) o w.cells))) hd [p]).hp i=[]:=(by rw[Dx,BR (by rw[a8];exact hi)];rfl);simp only[Ak,hz];unfold Be;split<;>rfl
       |_=>left;rfl
      have J:Af (.f6 w.cells.length a x) us=some (.undef,us.bx,us.hp.set l' { b with cs:=e_ b.cs (j*b.w+o) (x.ev us.sl).cells }):=by
       simp only[Af,hau];rw[Ad ⟨k1,k2⟩,hwr];rfl
      refine bX (o:=.f6 w.cells.length a x) J (RS.rent (l0:=l') (X':=X0) A d9 (λl a q i r e0 e=>?_) L (λl O=>by simp only[g,Ae O]) ⟨{ b with cs:=e_ b.cs (j*b.w+o) (x.ev us.sl).cells },by simp only[g,Ad],M⟩ (by simp) (λf_ q=>?_) a2 (λi=>Bf _) (by rw[a3];exact A.lsl) (by rw[a4];exact A.lbx) (λi=>by rw[a5];exact A.lb i) a6 a7 a8 (λi hi=>by simp only[hV i hi,a9];exact(A.hp i hi).2))
      ·rw[a8];rcases ZiW a q i r e with rfl|rfl
       ·exact A.bdh l i q e0
       exact A.bdh l' i [p] L
      simp only [p_.clears];rcases Y f_ q with hf|hf
      ·rw[hf];by_cases I:∃i,f_= .x i
       ·obtain⟨i,rfl⟩:=I;exact .inr (A4 (GK i q))
       rcases a1 f_ q (λi h=>I ⟨i,h⟩)with h|⟨rfl,rfl,h3⟩|⟨e1,e2,e3⟩
       ·exact .inr (A4 h)
       ·refine .inr ?_;rw[h3];exact⟨λi pb tp=>by simp[PV.q],N⟩
       rw[e1];refine .inl ⟨f_,q,rfl,λG=>?_,λhb pb tp e' hxb=>?_⟩
       ·by_cases hh:f_=hd
        ·subst hh;rcases a12 q with h|⟨c',rfl⟩
         ·rw[h]at G;cases G
         have F:c'≠p:=λh=>e2 ⟨rfl,by rw[h]⟩;exact⟨λl r e=>y l _ _ e (λh=>F (by simpa using congrArg (λz=>z.head?) h.2)),λr=>Ren.segD_oth D F r⟩
        exact⟨λl r e=>y l _ _ e (λh=>hh h.1),λr=>Ren.segD_still hh (λh=>I ⟨0,h⟩) _⟩
       have f9:=e3 hb pb tp e';have:(Ren.segD hd p (j*b.w+o) w.cells.length).still hb:=Ren.segD_still f9 (hxb 0);exact⟨λl q e=>y l _ _ e (λh=>f9 h.1),λ_=>this,this.soft⟩
      exact .inr (A4 hf)
 cases e
end
section
variable {h0:Ac} {ω0 ω:Nat->W} {ρ ρ':Nat->Nat} {st f4 st1:PS} {us v_:St} {X X':CN}
theorem ZiY(R:RS h0 ω0 ω ρ st us X0){m:Bool}{n:Option Nat}{a:T_}{v:PV}(b:Nw m n (a.t7 st.sl) st=some (some v)):Out2 (.g9 n a) us h0 ω0 v st:=by cases b
theorem Zjo(R:RS h0 ω0 ω ρ st us X0){m:Bool}{n:Option Nat}{a:T_}{v:PV}{i c:Nat}(g:(a.t7 st.sl).nestX i c=true)(b:Nw m n (a.t7 st.sl) st=some (some v)):Out2 (.loadX i c n a) us h0 ω0 v st:=by cases b
theorem Zg5(R:RS h0 ω0 ω ρ st us X0){n:Nat}{a x:T_}{v:PV}{hd:Hd}{p k j o:Nat}(b:(a.t7 st.sl).nest=some (hd,p,k,j,o))(e:dh n hd p k j o (x.t7 st.sl) st=some (v,st1)):Out2 (.f6 n a x) us h0 ω0 v st1:=by cases b
end
def Ren.kp(live:List Nat):Ren:=λhd p=>match hd with
 |.s t=>if live.contains t then .own (.s t) p else .Z_|hd=>.own hd p
theorem Ren.kp_ok(live:List Nat):(Ren.kp live).Ok:=by
 have b:∀a p,Ren.kp live a p= .own a p\/Ren.kp live a p= .Z_:=by
  intro a p;cases a with
  |s t=>simp only[Ren.kp];split;exact .inl rfl;exact .inr rfl
  |_=>exact .inl rfl
 refine⟨λhd p f_ p' x c e g=>?_,λhd p=>?_⟩
 ·rcases b hd p with h|h<;>rw[h]at e<;>cases e;rcases b f_ p' with h'|h'<;>rw[h']at g<;>cases g;exact⟨rfl,rfl⟩
 rcases b hd p with h|h
 ·exact .inr ⟨_,_,h⟩
 exact .inl h
theorem Ren.kp_soft(live:List Nat)(hd:Hd):(Ren.kp live).soft hd:=λp=>by
 cases hd with
 |s t=>simp only[Ren.kp];split;exact .inr ⟨p,rfl⟩;exact .inl rfl
 |_=>exact .inr ⟨p,rfl⟩
theorem RC.detop{h:Ac}{ω:Nat->W}{hd:Hd}{p:List Nat}{v:PV}{u:V}(r:RC h ω (.at hd p) v u)(hs:v.sc):RC h ω (.at hd p) v.detop u:=by
 cases r with
 |undef=>exact .undef _ _
 |v _ _ g=>exact .v _ _ g
 |nil _ q=>cases q<;>exact .nil _ _
 | sl _ q es l o n b h1 hk hc f9 hn hw hle hr=>
   cases q with
   |i6 a c d=>exact .sl _ _ _ _ _ _ b h1 hk ⟨hc.1,λe=>by cases e⟩ (by simp) hn hw hle hr
   |pre a c=>exact .sl _ _ _ _ _ _ b h1 hk ⟨.inl ⟨_,hc.1⟩,λe=>by cases e⟩ (by simp) hn hw hle hr
   |Z_=>exact .sl _ _ _ _ _ _ b h1 hk hc f9 hn hw hle hr
   |own=>exact .sl _ _ _ _ _ _ b h1 hk hc f9 hn hw hle hr
   |i5=>exact .sl _ _ _ _ _ _ b h1 hk hc f9 hn hw hle hr
 | ep _ q es j o' l o p2 b h1 hk hqo hc hw hle hr hp'=>
   cases q with
   |i6 a c d=>exact .ep _ _ _ _ _ _ _ _ b h1 hk rfl ⟨hc.1,λe=>by cases e⟩ hw hle hr hp'
   |pre a c=>exact .ep _ _ _ _ _ _ _ _ b h1 hk rfl ⟨.inl ⟨_,hc.1⟩,λe=>by cases e⟩ hw hle hr hp'
   |Z_=>exact .ep _ _ _ _ _ _ _ _ b h1 hk hqo hc hw hle hr hp'
   |own=>cases hqo
   |i5=>cases hqo
 |box _ i o=>exact .box _ _ _
 |ptr _ _ i o l s=>exact .ptr _ _ _ _ _ s
theorem Xd(cs:List PV)(c:Nat):Aa (PV.detopL cs) c=(Aa cs c).detop:=by
 induction cs generalizing c with
 |nil=>rfl
 | cons x r ih=>cases c with
   |zero=>rfl
   |succ c=>exact ih c
theorem l8(cs:List PV):(PV.detopL cs).length=cs.length:=by
 induction cs with
 |nil=>rfl
 |cons x r b=>simp[PV.detopL,b]
theorem ZhX{v:PV}(h:v.sc):v.detop.sc:=by
 cases v with
 |agg cs=>exact absurd rfl (h.1 _)
 |f8 cs=>exact absurd rfl (h.2 _)
 |sl q es=>cases q<;>exact⟨λ_ h=>(by cases h),λ_ h=>(by cases h)⟩
 |ep q es j o=>cases q<;>exact⟨λ_ h=>(by cases h),λ_ h=>(by cases h)⟩
 |_=>exact h
theorem Zdr(v:PV)(p:List Nat):v.detop.S_ p=(v.S_ p).detop:=by
 have g:∀w:PV,w.sc->∀p,w.detop.S_ p=(w.S_ p).detop:=by
  intro w b p;have hd:=ZhX b
  match p with
  |[0]=>rw[Jg b.1 b.2,Jg hd.1 hd.2]
  |[]=>cases w<;>first|exact absurd rfl (b.1 _)|exact absurd rfl (b.2 _)|rfl|(rename_i q _;cases q<;>rfl)|(rename_i q _ _ _;cases q<;>rfl)
  |(_+1)::_=>cases w<;>first|exact absurd rfl (b.1 _)|exact absurd rfl (b.2 _)|rfl|(rename_i q _;cases q<;>rfl)|(rename_i q _ _ _;cases q<;>rfl)
  |0::_::_=>cases w<;>first|exact absurd rfl (b.1 _)|exact absurd rfl (b.2 _)|rfl|(rename_i q _;cases q<;>rfl)|(rename_i q _ _ _;cases q<;>rfl)
 cases v with
 | agg cs=>
   match p with
   |[c]=>exact Xd cs c
   |[]=>rfl
   |_::_::_=>rfl
 | f8 vs=>
   match p with
   | [i,c]=>
     show Aa (Aa (PV.detopL vs) i).cells c=(Aa (Aa vs i).cells c).detop;rw[Xd];generalize Aa vs i=w;cases w with
     |agg cs=>exact Xd cs c
     |sl q es=>cases q<;>cases c<;>rfl
     |ep q es j o=>cases q<;>cases c<;>rfl
     |_=>cases c<;>rfl
   |[]=>rfl
   |[_]=>rfl
   |_::_::_::_=>rfl
 |_=>exact g _ ⟨λ_ h=>(by cases h),λ_ h=>(by cases h)⟩ p
theorem lP{v:PV}{u:V}(h:Shp1 v u):Shp1 v.detop u:=by
 cases v with
 |agg cs=>obtain⟨ws,h1,b⟩:=h;exact⟨ws,h1,by rw[l8];exact b⟩
 |f8 cs=>exact h.elim
 |sl q es=>cases q<;>exact h
 |ep q es j o=>cases q<;>exact h
 |_=>exact h
theorem ZgD{v:PV}{u:V}(h:A9 v u):A9 v.detop u:=by
 cases v with
 |f8 cs=>obtain⟨ws,h1,g,b⟩:=h;exact⟨ws,h1,by rw[l8];exact g,λi=>by rw[Xd];exact lP (b i)⟩
 |agg cs=>exact lP (v:=.agg cs) h
 |sl q es=>cases q<;>exact h
 |ep q es j o=>cases q<;>exact h
 |_=>exact h
theorem RC.sc{h:Ac}{ω:Nat->W}{m:Md}{v:PV}{u:V}(r:RC h ω m v u):v.sc:=by
 cases r<;>exact⟨λ_ h=>(by cases h),λ_ h=>(by cases h)⟩
theorem pY{v:PV}:v.detop.qo=v.qo/\∀g i b,v.detop.q=some (.i6 g i b)->b=false/\∃s n,v.q=some (.i6 g s n):=by
 cases v with
 |sl q es=>cases q<;>refine⟨rfl,λg i b e=>?_⟩<;>simp[PV.detop,PV.q]at e<;>first|(obtain⟨rfl,_,rfl⟩:=e;exact⟨rfl,_,_,rfl⟩)|skip
 |ep q es j o=>cases q<;>refine⟨rfl,λg i b e=>?_⟩<;>simp[PV.detop,PV.q]at e<;>first|(obtain⟨rfl,_,rfl⟩:=e;exact⟨rfl,_,_,rfl⟩)|skip
 |_=>exact⟨rfl,λg i b e=>by simp[PV.detop,PV.q]at e⟩
section
variable {h0:Ac} {ω0 ω:Nat->W} {ρ ρ':Nat->Nat} {st f4 st1:PS} {us v_:St} {X X':CN}
theorem RS.kp(R:RS h0 ω0 ω ρ st us X0)(live:List Nat):∃ω',RS h0 ω0 ω' ρ { st with sl:=Fl live 0 st.sl } { us with sl:=keep live 0 us.sl } X0:=by
 have sl:∀t,(Aa (Fl live 0 st.sl) t= .fl .undef)\/(live.contains t=true/\Aa (Fl live 0 st.sl) t=(Aa st.sl t).detop/\get (keep live 0 us.sl) t=get us.sl t):=by
  intro t;rw[Zfp,Zhk,BJ];cases h:live.contains t with
  |true=>exact .inr ⟨rfl,rfl,rfl⟩
  |false=>exact .inl rfl
 have D:=Tr.of_ren us.hp ω (Ren.kp live);refine⟨_,RS.ren (X':=X0) R (Ren.kp_ok live) (λhd p i q e=>?_) (λf_ p=>?_) rfl (λt=>?_) (λi=>Bf _) (by simp[Zgj,Zhn,R.lsl]) R.lbx R.lb R.cb R.ch rfl (λ_=>rfl)⟩
 ·cases hd with
  |s t=>simp only[Ren.kp]at e;split at e<;>cases e
  |_=>first|(cases e;done)|(cases e;rfl)
 ·cases f_ with
  |x i=>exact .inr (A4 (GK i p))
  | s t=>
    simp only[Ak];rcases sl t with h|⟨F,h1,C⟩
    ·refine .inr ?_;rw[h];exact Dn (Ba p)
    rw[h1,C,Zdr];have r:=R.core.rc (.s t) p;simp only[Ak]at r;have n:=R.nx (.s t) p;simp only[Ak]at n;refine .inr ⟨λi j g e=>?_,?_⟩
    ·obtain⟨_,A,z,y⟩:=(pY).2 _ _ _ e;exact n i A z y
    refine(r.detop r.sc).tr D (λe=>⟨λ_ _ _=>id,λr=>by simp[Ren.kp];simpa using F⟩) (λu j g e=>?_);obtain⟨h,_⟩:=(pY).2 _ _ _ e;exact⟨λ_ _ _=>id,λh'=>(by rw[h]at h';cases h'),Ren.kp_soft live u⟩
  |b i=>exact .inl (Bm rfl (λ_ _=>rfl) λu j g y=>absurd y (R.nobor_b i p u j g))
  |h i=>exact .inl (Bm rfl (λ_ _=>rfl) λu j g y=>absurd y (R.nobor_h i p u j g))
 rcases sl t with h|⟨_,h1,C⟩
 ·simp only[h];exact Bf _
 simp only[h1,C];exact ZgD (R.sh t)
theorem RS.trim(R:RS h0 ω0 ω ρ st us X0)(live:List Nat):RS h0 ω0 ω ρ { st with sl:=GL live 0 st.sl } us X0:=by
 have sl:∀t,Aa (GL live 0 st.sl) t= .fl .undef\/Aa (GL live 0 st.sl) t=Aa st.sl t:=by
  intro t;rw[Zfi,BJ];split
  ·exact .inr rfl
  exact .inl rfl
 have:=RS.ren (f4:={ st with sl:=GL live 0 st.sl }) (v_:=us) (X':=X0) R Ren.id_ok (λhd p i q e=>by simp[Ren.id]at e;exact e.1) (λf_ p=>?_) rfl (λt=>?_) R.shx (by simp[Zfn,R.lsl]) R.lbx R.lb R.cb R.ch rfl (λ_=>rfl)
 ·rwa [DF]at this
 ·cases f_ with
  |x i=>exact .inl (Bv rfl)
  |b i=>exact .inl (Bv rfl)
  |h i=>exact .inl (Bv rfl)
  | s t=>
    simp only[Ak];rcases sl t with h|h
    ·refine .inr ?_;rw[h];exact Dn (Ba p)
    rw[h];exact .inl (Bv rfl)
 simp only;rcases sl t with h|h
 ·rw[h];exact Bf _
 rw[h];exact R.sh t
theorem W7(R:RS h0 ω0 ω ρ st us X0){m:Bool}{o:p_}{v:PV}(e:BC m o st=some (v,st1)):Out2 o us h0 ω0 v st1:=by
 have ws:∀ {o:Option PV} {v:PV} {st1:PS},DG st o=some (v,st1)->o=some v/\st1=st:=by
  intro o v st1 e;cases o with
  |none=>cases e
  |some x=>simp only[DG,Cw,Ap,Aq]at e;exact⟨by rw[e.1],e.2.symm⟩
 cases o with
 | mv x=>
   simp only[BC,Ap]at e;have:=Zlm R m x;rw[e]at this;exact this
 |z_ x=>obtain⟨e,rfl⟩:=ws e;exact Zin R e
 | pick c a b=>
   simp only[BC]at e;split at e
   ·rename_i t G;simp only[Ap]at e;have:=Zkd R (a:=a) (b:=b) G;rw[e]at this;exact this
   cases e
 | d7 i D=>
   simp only[BC]at e;split at e
   ·rename_i h;cases e;exact Zg2 R h.1 h.2
   cases e
 |boxB i n x=>exact ZjO R e
 | allocH D=>
   simp only[BC]at e;split at e
   ·rename_i h;cases e;exact ZhN R h
   cases e
 |boxH n x=>exact Zkl R e
 |build D I=>exact Zi2 R e
 | mkSlice w z len=>
   simp only[BC]at e;split at e
   ·rename_i n L;split at e
    ·rename_i h;cases e;exact ZfU R L h.1 h.2.1 h.2.2.1 h.2.2.2.1 h.2.2.2.2
    cases e
   cases e
 |d4 w n D I=>exact Zeg R e
 |d6 i n a=>exact Zja R e
 | g9 n a=>
   simp only[BC]at e;cases g:Nw m n (a.t7 st.sl) st with
   |none=>rw[g]at e;exact pR R e
   | some r=>
     rw[g]at e;obtain⟨F,rfl⟩:=ws e;rw[F]at g;exact ZiY R g
 | loadX i c n a=>
   simp only[BC]at e;split at e
   ·rename_i q;cases g:Nw m n (a.t7 st.sl) st with
    |none=>rw[g]at e;cases e
    | some r=>
      rw[g]at e;obtain⟨F,rfl⟩:=ws e;rw[F]at g;exact Zjo R q g
   cases e
 |U_ i n a x=>exact Zh8 R e
 | f6 n a x=>
   simp only[BC]at e;split at e
   ·rename_i hd p k j o g;exact Zg5 R g e
   unfold Tw at e;split at e;rename_i w s C;split at e
   ·rename_i i o q;exact Zgo R C q e
   ·rename_i hd p U j o q;split at e
    ·rename_i es M;exact ZgI R C q M e
    cases e
   cases e
 |bin op x y=>obtain⟨e,rfl⟩:=ws e;exact ZkW R e
 |eqB A x y=>obtain⟨e,rfl⟩:=ws e;exact ZkR R e
 | eqN A x y=>
   simp only[BC]at e;split at e
   ·obtain⟨e,rfl⟩:=ws e;exact ZkF R e
   cases e
 |eqA n A x y=>obtain⟨e,rfl⟩:=ws e;exact Zkw R e
 |un op x=>obtain⟨e,rfl⟩:=ws e;exact Zll R e
 |conv k x=>obtain⟨e,rfl⟩:=ws e;exact ZjY R e
 |bstr x=>obtain⟨e,rfl⟩:=ws e;exact ZjW R e
 |slice w x J hi=>obtain⟨e,rfl⟩:=ws e;exact ZiA R e
 |substr x J hi=>obtain⟨e,rfl⟩:=ws e;exact Zh5 R e
 |f5 off a=>obtain⟨e,rfl⟩:=ws e;exact Zg4 R e
 |field off n x=>obtain⟨e,rfl⟩:=ws e;exact ZiS R e
 |m_ w x i=>obtain⟨e,rfl⟩:=ws e;exact Zhl R e
 |index x i=>obtain⟨e,rfl⟩:=ws e;exact ZiH R e
 |len x=>obtain⟨e,rfl⟩:=ws e;exact ZkV R e
 |lenT x=>obtain⟨e,rfl⟩:=ws e;exact Zkc R e
 |app w x y=>exact sv R e
 | appN w x y=>
   simp only[BC]at e;split at e
   ·rename_i q;obtain⟨u,bx,hp,ω',ρ',h1,N⟩:=sv R e;refine⟨u,bx,hp,ω',ρ',?_,N⟩;obtain⟨hd,_,r⟩:=R.ev_one q (λ_ h=>(by cases h)) (λ_ h=>(by cases h)) (λ_ h=>(by cases h));rw[cR ?_]
    ·exact h1
    generalize x.ev us.sl=u at r;cases r with
    |nil=>rfl
    |sl _ _ _ l o n b h1 hk G O=>exact absurd rfl (O rfl (.inl rfl))
   cases e
 |minI x y=>obtain⟨e,rfl⟩:=ws e;exact Zkq R e
 |maxI x y=>obtain⟨e,rfl⟩:=ws e;exact ZkL R e
 | extract x i=>
   simp only[BC]at e;split at e
   ·rename_i t;split at e
    ·rename_i Y ht;split at e
     ·rename_i hi;exact ZgJ R ht hi e
     cases e
    cases e
   cases e
 |callB Z f args=>cases e
end
def Zks(ω:Nat->W):Prop:=∀l hd p,ω l= .own hd p->∃i,hd= .h i
def PV.nob(v:PV):Prop:=∀p i g b,(v.S_ p).q≠some (.i6 i g b)
def Kf(f:Bg)(p:Dl):Prop:=∀(h:Ac) (ω0:Nat->W) (ρ:Nat->Nat) (args:List PV) (us:List V) (H:List (List PV)) (Q:PV->List (List PV)->Prop) (K:V->Ac->Prop),
 RS h ω0 ω0 ρ ⟨args,[],H⟩ ⟨us,[],h⟩ X0->Zks ω0->p args H Q ->
 (∀u h' r b ω' ρ',Q r b->RS h ω0 ω' ρ' ⟨[],[],b⟩ ⟨[],[],h'⟩ (X1 r u)->r.nob->K u h')->f us h K
theorem RC.fzA{h:Ac}{ω ωc:Nat->W}{hd f_:Hd}{p p':List Nat}{v:PV}{u:V}(r:RC h ω (.at hd p) v u)(hp:∀i o,v≠.ptr i o)(A:∀l,ω l= .Z_->ωc l= .Z_)(x:v.q=none\/v.q=some .Z_\/∀l a q,ω l= .own a q->ωc l= .Z_):RC h ωc (.at f_ p') v.fz u:=by
 have G:∀(F:Prop) {m:Md} {v:PV} {u:V},(∀hd p,m≠.at hd p)->(F->∀l a q,ω l= .own a q->ωc l= .Z_)->(m= .fz\/F)->RC h ω m v u->RC h ωc .fz v u:=by
  intro F m v u hm hd t r;refine r.map (S:=λm D=>(m= .fz\/(F/\∀hd p,m≠.at hd p))/\D= .fz) ?_ ?_ ?_ (by rintro m D ⟨_,rfl⟩ e;cases e) ⟨t.imp id (λh=>⟨h,hm⟩),rfl⟩
  ·rintro m D q k ⟨rfl|⟨t,hm⟩,rfl⟩
   ·exact⟨.inl rfl,rfl⟩
   refine⟨.inr ⟨t,λhd p h=>?_⟩,rfl⟩;cases m<;>cases q<;>simp[Md.sub]at h<;>exact absurd rfl (hm _ _)
  ·rintro m D q l o b ⟨rfl|⟨t,hm⟩,rfl⟩ hb g
   ·exact⟨hb,A l g⟩
   refine⟨hb,?_⟩;have f_:=hd t;cases m with
   |fz=>exact A l g
   |inn a b=>cases q<;>first|exact A l g|exact f_ l _ _ g.1|exact g.elim
   |un a=>cases q<;>first|exact A l g|(rcases g with⟨p,g⟩|g;exact f_ l _ _ g;exact A l g)|exact g.elim
   |_=>exact absurd rfl (hm _ _)
  rintro hd p D ⟨h|⟨_,h⟩,_⟩
  ·cases h
  exact h hd p rfl
 have y:∀(q:Ql) (l o:Nat) (b:Blk),(q= .Z_\/∀l a q,ω l= .own a q->ωc l= .Z_)->chk ω (.at hd p) q l o b->ωc l= .Z_:=by
  intro q l o b x g;cases q with
  |Z_=>exact A l g
  |own=>rcases x with h|h;cases h;exact h l _ _ g.1
  |i5=>rcases x with h|h;cases h;exact h l _ _ g.1
  |i6=>rcases x with h|h;cases h;rcases g.1 with⟨p,g⟩|g;exact h l _ _ g;exact A l g
  |pre=>rcases x with h|h;cases h;exact h l _ _ g.1
 have C:∀(q:Ql) (k:Nat) (v:PV) (u:V),(q= .Z_\/∀l a q,ω l= .own a q->ωc l= .Z_)->RC h ω (Md.sub (.at hd p) q k) v u->RC h ωc .fz v u:=by
  intro q k v u x r;refine G (∀l a q,ω l= .own a q->ωc l= .Z_) ?_ id ?_ r
  ·intro a b;cases q<;>simp[Md.sub]
  rcases x with rfl|h
  ·exact .inl rfl
  exact .inr h
 cases r with
 |undef=>exact .undef _ _
 |v _ _ I=>exact .v _ _ I
 |nil _ q=>exact .nil _ _
 | sl _ q es l o n b h1 z g f9 hn hw hle hr=>
   have s:q= .Z_\/∀l a q,ω l= .own a q->ωc l= .Z_:=by
    rcases x with h|h|h
    ·cases q<;>simp[PV.q]at h
    ·left;cases q<;>simp[PV.q]at h;rfl
    exact .inr h
   exact .sl _ _ _ _ _ _ b h1 z (y q l o b s g) (by simp) hn hw hle λk z=>C q k _ _ s (hr k z)
 | ep _ q es j o' l o p2 b h1 z hqo g hw hle hr hp'=>
   have s:q= .Z_\/∀l a q,ω l= .own a q->ωc l= .Z_:=by
    rcases x with h|h|h
    ·exfalso;cases q<;>simp[PV.q]at h<;>cases hqo
    ·left;cases q<;>simp[PV.q]at h;rfl
    exact .inr h
   exact .ep _ _ _ _ _ _ _ _ b h1 z rfl (y q l o b s g) hw hle (λk z=>C q k _ _ s (hr k z)) hp'
 |box _ i o=>exact .box _ _ _
 |ptr _ _ i o l J=>exact absurd rfl (hp i o)
theorem ZfG{cs:List PV}(h:PV.holdL cs=false)(c:Nat):(Aa cs c).hold=false:=by
 induction cs generalizing c with
 |nil=>rfl
 | cons x r ih=>
   simp only[PV.holdL,Cl]at h;cases c with
   |zero=>exact h.1
   |succ c=>exact ih h.2 c
theorem qz{v:PV}(h:v.hold=false)(hs:v.sc):v.q=none\/v.q=some .Z_:=by
 cases v with
 |sl q es=>cases q<;>simp[PV.hold]at h;exact .inr rfl
 |ep q es j o=>cases q<;>simp[PV.hold]at h;exact .inr rfl
 |agg cs=>exact absurd rfl (hs.1 _)
 |f8 cs=>exact absurd rfl (hs.2 _)
 |_=>exact .inl rfl
theorem oj{cs:List PV}(h:Kt cs=true)(c:Nat):(Aa cs c).argc=true\/Aa cs c= .fl .undef:=by
 induction cs generalizing c with
 |nil=>exact .inr rfl
 | cons x r ih=>
   simp only[Kt,Aj]at h;cases c with
   |zero=>exact .inl h.1
   |succ c=>exact ih h.2 c
theorem oK{v:PV}(h:v.argok=true)(p:List Nat):(v.S_ p).sc/\(v.hold=false->(v.S_ p).q=none\/(v.S_ p).q=some .Z_)/\(v.q_=false->∀i o,v.S_ p≠.ptr i o):=by
 have b:(PV.fl .undef).sc/\((PV.fl .undef).q=none\/(PV.fl .undef).q=some .Z_)/\∀i o,PV.fl .undef≠.ptr i o:=⟨OI,.inl rfl,λ_ _ h=>by cases h⟩;have j:∀(cs:List PV) c,PV.hasPtrL cs=false->(Aa cs c).q_=false:=by
  intro cs;induction cs with
  |nil=>intro c _;rfl
  | cons x r ih=>
    intro c n;simp only[PV.hasPtrL,Cl]at n;cases c with
    |zero=>exact n.1
    |succ c=>exact ih c n.2
 have s:∀w:PV,w.q_=false->∀i o,w≠.ptr i o:=by rintro w t i o rfl;cases t
 cases v with
 | agg cs=>
   match p with
   | [c] =>
     have hs:(Aa cs c).sc:=by
      rcases oj h c with h1|h1
      ·generalize Aa cs c=w at h1;cases w<;>first|(cases h1;done)|exact⟨λ_ h=>(by cases h),λ_ h=>(by cases h)⟩
      rw[h1];exact OI
     exact⟨hs,λg=>qz (ZfG g c) hs,λg=>s _ (j cs c g)⟩
   |[]=>exact⟨b.1,λ_=>b.2.1,λ_=>b.2.2⟩
   |_::_::_=>exact⟨b.1,λ_=>b.2.1,λ_=>b.2.2⟩
 |f8 u=>cases h
 | _=>
   match p with
   |[0]=>exact⟨⟨λ_ h=>(by cases h),λ_ h=>(by cases h)⟩,λg=>qz g ⟨λ_ h=>(by cases h),λ_ h=>(by cases h)⟩,λg=>s _ g⟩
   |[]=>exact⟨b.1,λ_=>b.2.1,λ_=>b.2.2⟩
   |(_+1)::_=>exact⟨b.1,λ_=>b.2.1,λ_=>b.2.2⟩
   |0::_::_=>exact⟨b.1,λ_=>b.2.1,λ_=>b.2.2⟩
theorem Zjp(cs:List PV):(PV.fzL cs).length=cs.length:=by
 induction cs with
 |nil=>rfl
 |cons x r b=>simp[PV.fzL,b]
theorem ma{v:PV}{u:V}(h:A9 v u)(b:v.argok=true):A9 v.fz u:=by
 cases v with
 |agg cs=>obtain⟨ws,h1,g⟩:=h;exact⟨ws,h1,by rw[Zjp];exact g⟩
 |f8 i=>cases b
 |_=>exact h
theorem YT{H:Ac}{ω:Nat->W}{m:Md}{v:PV}{u:V}(r:RC H ω m v u)(h:v.argc=true):u.cell=true:=by
 cases r with
 |undef=>simp[PV.argc,V.flat]at h
 |v _ _ b=>cases u<;>first|rfl|simp[V.flat]at b
 |nil=>rfl
 |sl=>rfl
 |ep=>cases h
 |box=>cases h
 |ptr=>rfl
theorem sg{h:Ac}{ω:Nat->W}{hd:Hd}{v:PV}{u:V}(s:v.argok=true)(hs:A9 v u)(n:∀p,RC h ω (.at hd p) (v.S_ p) (u.S_ p)):u.ok1=true:=by
 have b:∀ {v:PV} {u:V},v.argc=true->v.sc->A9 v u->(∀p,RC h ω (.at hd p) (v.S_ p) (u.S_ p))->u.ok1=true:=by
  intro v u z g hs n;have t:(∀us,u≠.agg us)/\∀us,u≠.f8 us:=by
   cases v with
   |agg cs=>exact absurd rfl (g.1 _)
   |f8 cs=>exact absurd rfl (g.2 _)
   |fl x=>cases x<;>first|exact hs|(simp[PV.argc,V.flat]at z)
   |_=>exact hs
  have r:=n [0];rw[Jg g.1 g.2,FX t.1 t.2]at r;have:=YT r z;cases u<;>first|exact this|exact absurd rfl (t.1 _)|exact absurd rfl (t.2 _)
 cases v with
 | agg cs=>
   obtain⟨ws,rfl,F⟩:=hs;simp only[V.ok1,DE];intro w A;obtain⟨c,C,rfl⟩:=Ik A;have r:=n [c];have r':RC h ω (.at hd [c]) (Aa cs c) (get ws c):=r;rw[CZ,Bc C]at r';rcases oj s c with h1|h1
   ·exact YT r' h1
   exfalso;have:c<cs.length:=(by omega);have y:∀(cs:List PV) c,c<cs.length->Kt cs=true->(Aa cs c).argc=true:=by
    intro cs;induction cs with
    |nil=>intro c h;simp at h
    | cons x r ih=>
      intro c h h';simp only[Kt,Aj]at h';cases c with
      |zero=>exact h'.1
      |succ c=>exact ih c (by simpa using h) h'.2
   have:=y cs c this s;rw[h1]at this;simp[PV.argc,V.flat]at this
 |f8 D=>cases s
 |fl x=>exact b (v:=.fl x) s ⟨λ_ h=>(by cases h),λ_ h=>(by cases h)⟩ hs n
 |sl q es=>exact b (v:=.sl q es) s ⟨λ_ h=>(by cases h),λ_ h=>(by cases h)⟩ hs n
 |ep q es j o=>exact b (v:=.ep q es j o) s ⟨λ_ h=>(by cases h),λ_ h=>(by cases h)⟩ hs n
 |box i o=>exact b (v:=.box i o) s ⟨λ_ h=>(by cases h),λ_ h=>(by cases h)⟩ hs n
 |ptr i o=>exact b (v:=.ptr i o) s ⟨λ_ h=>(by cases h),λ_ h=>(by cases h)⟩ hs n
theorem Te{as:List PV}(h:Ij as=true)(t:Nat)(ht:t<as.length):(Aa as t).argok=true:=by
 induction as generalizing t with
 |nil=>simp at ht
 | cons x r ih=>
   simp only[Ij,Aj]at h;cases t with
   |zero=>exact h.1
   |succ t=>exact ih h.2 t (by simpa using ht)
theorem TG(args:List T_)(s:List PV)(t:Nat):(t<args.length/\∃x,args[t]?=some x/\Aa (args.map (·.t7 s)) t=x.t7 s)\/(args.length<=t/\Aa (args.map (·.t7 s)) t= .fl .undef):=by
 rcases Bz t args.length with h|h
 ·exact .inl ⟨h,args[t],Bc h,by rw[D1,Im,Bc h];rfl⟩
 exact .inr ⟨h,GC _ _ (by simpa using h)⟩
theorem Yb(args:List T_)(s:List V)(t:Nat):(∀x,args[t]?=some x->get (args.map (·.ev s)) t=x.ev s)/\(args.length<=t->get (args.map (·.ev s)) t= .undef):=by
 refine⟨λx h=>?_,λh=>?_⟩
 ·rw[CZ,Im,h];rfl
 rw[CZ,BR (by simpa using h)];rfl
theorem W6(as:List PV)(t:Nat):Aa (as.map PV.fz) t=(Aa as t).fz:=by
 rw[D1,D1,Im];cases as[t]?<;>rfl
section
variable {h0:Ac} {ω0 ω:Nat->W} {ρ ρ':Nat->Nat} {st f4 st1:PS} {us v_:St} {X X':CN}
def ωc(b:Bool)(ω:Nat->W):Nat->W:=λl=>match ω l with
 |.Z_=>.Z_|.own _ _=>if b then .Z_ else .none|_=>.none
theorem RS.enter(R:RS h0 ω0 ω ρ st us X0){args:List T_}(J:Ij (args.map (·.t7 st.sl))=true)(F:(args.map (·.t7 st.sl)).any PV.q_=false)(u:Bool)(G:u=false->(args.map (·.t7 st.sl)).all (λv=>!v.hold)=true):RS us.hp (ωc u ω) (ωc u ω) ρ ⟨(args.map (·.t7 st.sl)).map PV.fz,[],[]⟩ ⟨args.map (·.ev us.sl),[],us.hp⟩ X0:=by
 have no:∀l,ωc u ω l= .Z_\/ωc u ω l= .none:=by
  intro l;unfold ωc;split
  ·exact .inl rfl
  ·cases u<;>simp
  exact .inr rfl
 have z:∀l hd p,ωc u ω l≠.own hd p:=λl hd p e=>by rcases no l with h|h<;>rw[h]at e<;>cases e
 have y:∀l i,ωc u ω l≠.ptr i:=λl i e=>by rcases no l with h|h<;>rw[h]at e<;>cases e
 have g:∀t p,Cs ((Aa ((args.map (·.t7 st.sl)).map PV.fz) t).S_ p)/\RC us.hp (ωc u ω) (.at (.s t) p) ((Aa ((args.map (·.t7 st.sl)).map PV.fz) t).S_ p) ((get (args.map (·.ev us.sl)) t).S_ p):=by
  intro t p;rw[W6];rcases TG args st.sl t with⟨ht,x,A,e⟩|⟨_,e⟩
  ·have n:=Te J t (by simpa using ht);rw[e]at n ⊢;rw[(Yb args us.sl t).1 x A];obtain⟨hd,_,_,L⟩:=R.ev x;obtain⟨U,O,N⟩:=oK n p;have hp:(x.t7 st.sl).q_=false:=by
    have:=List.any_eq_false.1 F (x.t7 st.sl) (List.mem_map.2 ⟨x,Il A,rfl⟩);simpa using this
   rcases XL (x.t7 st.sl) p with h|h
   ·rw[h];refine⟨λi D C I=>?_,(L p).fzA (N hp) (λl e=>by simp[ωc,e]) ?_⟩
    ·generalize (x.t7 st.sl).S_ p=w at I;cases w<;>simp[PV.fz,PV.q]at I
    cases u with
    |true=>exact .inr (.inr λl a q e=>by simp[ωc,e])
    | false=>
      have M:=DE.1 (G rfl) (x.t7 st.sl) (List.mem_map.2 ⟨x,Il A,rfl⟩);rcases O (by simpa using M)with h|h
      ·exact .inl h
      exact .inr (.inl h)
   rw[h];exact⟨λi D C=>by simp[PV.q],.undef _ _⟩
  rw[e];show Cs ((PV.fl .undef).S_ p)/\RC _ _ _ ((PV.fl .undef).S_ p) _;rw[Ba];exact⟨λi D C=>by simp[PV.q],.undef _ _⟩
 refine⟨⟨λhd p=>?_,λl l' hd p e=>absurd e (z l hd p),λl l' i e=>absurd e (y l i),λl e=>?_,λl e=>?_⟩,λt=>?_,λi=>Bf _,by simp,rfl,λ_=>rfl,λ_ _=>rfl,λ_ _=>rfl,λi hi=>by simp at hi,λl i e=>absurd e (y l i),λl i p e=>absurd e (z l _ _),
  ⟨BN _,λl _ _=>⟨rfl,rfl⟩,λl _ e=>by rw[e];simp,λl i e=>e⟩,λhd p i D C=>?_⟩
 ·cases hd with
  |s t=>exact(g t p).2
  |x i=>rw[GK];exact .undef _ _
  |b i=>simp only[Ak,Ao];unfold Be;split<;>exact .undef _ _
  |h i=>simp only[Ak,Ao];unfold Be;split<;>exact .undef _ _
 ·rcases e with⟨hd,p,e⟩|⟨i,e⟩
  ·exact absurd e (z l hd p)
  exact absurd e (y l i)
 ·refine R.core.notNone l λh=>?_;unfold ωc at e;rw[h]at e;cases e
 ·simp only;rw[W6];rcases TG args st.sl t with⟨ht,x,A,e⟩|⟨_,e⟩
  ·have n:=Te J t (by simpa using ht);rw[e]at n ⊢;rw[(Yb args us.sl t).1 x A];obtain⟨hd,_,hs,_⟩:=R.ev x;exact ma hs n
  rw[e];exact Bf _
 cases hd with
 |s t=>exact(g t p).1 i D C
 |x j=>rw[GK];simp[PV.q]
 |b j=>simp only[Ak,Ao];unfold Be;split<;>simp[PV.q,Aa]
 |h j=>simp only[Ak,Ao];unfold Be;split<;>simp[PV.q,Aa]
theorem TE(R:RS h0 ω0 ω ρ st us X0){args:List T_}(q:Ij (args.map (·.t7 st.sl))=true):(args.map (·.ev us.sl)).all V.ok1=true:=by
 rw[DE];intro u j;obtain⟨x,i,rfl⟩:=List.mem_map.1 j;obtain⟨t,ht,rfl⟩:=Ik i;obtain⟨hd,_,hs,n⟩:=R.ev args[t];have g:=Te q t (by simpa using ht);rcases TG args st.sl t with⟨_,s,b,e⟩|⟨h,_⟩
 ·rw[e]at g;rw[Bc ht]at b;cases b;exact sg g hs n
 omega
theorem ZeH{es:List (List PV)}(h:PV.deepE es=true)(k:Nat):(Aa es.flatten k).deep=true:=by
 have app:∀(a b:List PV),PV.deepL a=true->PV.deepL b=true->PV.deepL (a++b)=true:=by
  intro a b;induction a with
  |nil=>intro _ h;exact h
  |cons x s i=>intro h1 n;simp only[PV.deepL,Aj,Dz]at h1 ⊢;exact⟨h1.1,i h1.2 n⟩
 have q:PV.deepL es.flatten=true:=by
  induction es with
  |nil=>rfl
  | cons e r i=>
    simp only[PV.deepE,Aj]at h;rw[Ig];exact app _ _ h.1 (i h.2)
 have g:∀(cs:List PV) c,PV.deepL cs=true->(Aa cs c).deep=true:=by
  intro cs;induction cs with
  |nil=>intro c _;rfl
  | cons x r i=>
    intro c j;simp only[PV.deepL,Aj]at j;cases c with
    |zero=>exact j.1
    |succ c=>exact i c j.2
 exact g _ _ q
theorem bP{cs:List PV}(h:PV.deepL cs=true)(c:Nat):(Aa cs c).deep=true:=by
 induction cs generalizing c with
 |nil=>rfl
 | cons x r ih=>
   simp only[PV.deepL,Aj]at h;cases c with
   |zero=>exact h.1
   |succ c=>exact ih h.2 c
theorem Zeq{v:PV}(h:v.deep=true)(p:List Nat):(v.S_ p).deep=true:=by
 unfold PV.S_;split
 ·exact bP h _
 ·rfl
 ·rename_i b i c;have:=bP (cs:=b) h i;generalize Aa b i=w at this;cases w with
  |agg cs=>exact bP (cs:=cs) this c
  |_=>cases c<;>first|exact this|rfl
 ·rfl
 ·exact h
 rfl
theorem RC.deep{h:Ac}{ω ω1:Nat->W}(z:∀l a q,ω l= .own a q->ω1 l= .own a q){m:Md}{v:PV}{u:V}(r:RC h ω m v u):(∃hd p,m= .at hd p\/m= .inn hd p)->v.deep=true->(∀i o,v≠.ptr i o)->RC h ω1 m v u:=by
 induction r with
 |undef=>intros;exact .undef _ _
 |v _ x y=>intros;exact .v _ _ y
 |nil=>intros;exact .nil _ _
 | sl m q es l o n b h1 s hc f9 hn hw hle hr ih=>
   rintro⟨hd,p,hm⟩ f_ hp;have j:q= .own\/∃w,q= .i5 w:=(by cases q<;>first|exact .inl rfl|exact .inr ⟨_,rfl⟩|cases f_);have t:PV.deepE es=true:=(by rcases j with rfl|⟨w,rfl⟩<;>exact f_);have g:∀k,∃hd p,m.sub q k= .at hd p\/m.sub q k= .inn hd p:=by
    intro k;rcases hm with rfl|rfl<;>rcases j with rfl|⟨w,rfl⟩<;>exact⟨hd,p++[k],.inr rfl⟩
   refine .sl _ _ _ _ _ _ b h1 s ?_ f9 hn hw hle λk s=>ih k s (g k) (ZeH t k) ?_
   ·rcases hm with rfl|rfl<;>rcases j with rfl|⟨w,rfl⟩<;>exact⟨z l _ _ hc.1,hc.2⟩
   intro i o e;have r:=hr k s;rw[e]at r;rcases hm with rfl|rfl<;>rcases j with rfl|⟨w,rfl⟩<;>(simp only[Md.sub]at r;cases r)
 |ep=>rintro _ f_ _;cases f_
 |box=>intros;exact .box _ _ _
 |ptr hd p i o l A=>rintro _ _ hp;exact absurd rfl (hp i o)
theorem bj(n:Nat)(v:PV)(p:List Nat):(v.shift n).S_ p=(v.S_ p).shift n:=by
 have b:∀(cs:List PV) c,Aa (PV.shiftL n cs) c=(Aa cs c).shift n:=by
  intro cs;induction cs with
  |nil=>intro c;rfl
  | cons x r ih=>intro c;cases c with
    |zero=>rfl
    |succ c=>exact ih c
 cases v with
 | agg cs=>
   match p with
   |[c]=>exact b cs c
   |[]=>rfl
   |_::_::_=>rfl
 | f8 vs=>
   match p with
   | [i,c]=>
     show Aa (Aa (PV.shiftL n vs) i).cells c=(Aa (Aa vs i).cells c).shift n;rw[b];generalize Aa vs i=w;cases w with
     |agg cs=>exact b cs c
     |_=>cases c<;>rfl
   |[]=>rfl
   |[_]=>rfl
   |_::_::_::_=>rfl
 | _=>
   match p with
   |[0]=>rfl
   |[]=>rfl
   |(_+1)::_=>rfl
   |0::_::_=>rfl
theorem lJ(n:Nat)(cs:List PV):(PV.shiftL n cs).length=cs.length:=by
 induction cs with
 |nil=>rfl
 |cons x r b=>simp[PV.shiftL,b]
theorem lM{n:Nat}{v:PV}{u:V}(h:Shp1 v u):Shp1 (v.shift n) u:=by
 cases v with
 |agg cs=>obtain⟨ws,h1,b⟩:=h;exact⟨ws,h1,by rw[lJ];exact b⟩
 |f8 cs=>exact h.elim
 |_=>exact h
theorem Zgb{n:Nat}{v:PV}{u:V}(h:A9 v u):A9 (v.shift n) u:=by
 cases v with
 | f8 cs=>
   obtain⟨ws,h1,g,b⟩:=h;refine⟨ws,h1,by rw[lJ];exact g,λi=>?_⟩;have:Aa (PV.shiftL n cs) i=(Aa cs i).shift n:=by
    clear g b;induction cs generalizing i with
    |nil=>rfl
    | cons x r ih=>cases i with
      |zero=>rfl
      |succ c=>exact ih c
   rw[this];exact lM (b i)
 |agg cs=>exact lM (v:=.agg cs) h
 |_=>exact h
theorem ZiC(n:Nat)(v:PV):(v.shift n).q=v.q/\(v.shift n).qo=v.qo:=by cases v<;>exact⟨rfl,rfl⟩
section
variable {h0:Ac} {ω0 ω ω':Nat->W} {ρ ρ':Nat->Nat} {st:PS} {us:St}
def JP(N n:Nat)(B:Bool)(ω ω':Nat->W):Nat->W:=λl=>if l<N then (match ω l with
    |.own (.x _) _=>.Z_
    |w=>w)else match ω' l with
 |.own (.x 0) p=>.own (.x 0) p|.own (.h i) p=>if B then .own (.h (n+i)) p else .Z_|.own _ _=>.Z_|.ptr i=>if B then .ptr (n+i)else .none|w=>w
def Ren.cm(n:Nat)(B:Bool):Ren:=λhd p=>match hd with
 |.x 0=>.own (.x 0) p|.h i=>if B then .own (.h (n+i)) p else .Z_|_=>.Z_
def Ren.nox:Ren:=λhd p=>match hd with
 |.x _=>.Z_|hd=>.own hd p
theorem Ren.nox_still{hd:Hd}(h:∀i,hd≠.x i):Ren.nox.still hd:=λp=>by
 cases hd with
 |x i=>exact absurd rfl (h i)
 |_=>rfl
theorem m0{v:PV}{p:List Nat}{i o:Nat}(h:v.S_ p= .ptr i o):v.q_=true:=by
 have b:∀(cs:List PV) c,(Aa cs c).q_=true->PV.hasPtrL cs=true:=by
  intro cs;induction cs with
  |nil=>intro c h;cases h
  | cons x r ih=>
    intro c h;simp only[PV.hasPtrL,Ce];cases c with
    |zero=>exact .inl h
    |succ c=>exact .inr (ih c h)
 unfold PV.S_ at h;split at h
 ·exact b _ _ (by rw[h];rfl)
 ·cases h
 ·rename_i g i c;refine b g i ?_;generalize Aa g i=w at h;cases w with
  |agg cs=>exact b cs c (by rw[show (PV.agg cs).cells=cs from rfl]at h;rw[h];rfl)
  |_=>cases c<;>first|rfl|cases h
 ·cases h
 ·rw[h];rfl
 cases h
theorem ZhE{n:Nat}{c:PV}(h:c.sc)(hp:∀i o,c≠.ptr i o):c.shift n=c:=by
 cases c with
 |agg cs=>exact absurd rfl (h.1 _)
 |f8 cs=>exact absurd rfl (h.2 _)
 |ptr i o=>exact absurd rfl (hp i o)
 |_=>rfl
theorem RS.leave(R:RS h0 ω0 ω ρ st us X0){U:Bool}{H':List (List PV)}{h':Ac}{r:PV}{u:V}(G:RS us.hp (ωc U ω) ω' ρ' ⟨[],[],H'⟩ ⟨[],[],h'⟩ (X1 r u))(Z:r.nob)(hdm:U=true->r.q_=false/\r.deep=true):∃ω'' ρ'',RS h0 ω0 ω'' ρ'' { st with hp:=if r.q_ then st.hp++H' else st.hp } { us with hp:=h' } (X1 (if r.q_ then r.shift st.hp.length else r) u):=by
 have hN:us.hp.length<=h'.length:=G.fr.len;generalize hB:r.q_=B at hdm ⊢;have cfn:∀l,ωc U ω l= .Z_\/ωc U ω l= .none:=λl=>by
  unfold ωc;split
  ·exact .inl rfl
  ·cases U<;>simp
  exact .inr rfl
 have J:∀l,l<us.hp.length->h'[l]?=us.hp[l]?/\ω' l=ωc U ω l:=λl g=>G.fr.old l g (cfn l);have oldn:∀l,l<us.hp.length->ω' l= .Z_\/ω' l= .none:=λl g=>by rw[(J l g).2];exact cfn l
 have newo:∀l hd p,ω' l= .own hd p->¬l<us.hp.length:=λl hd p e g=>by rcases oldn l g with h|h<;>rw[h]at e<;>cases e
 have newp:∀l i,ω' l= .ptr i->¬l<us.hp.length:=λl i e g=>by rcases oldn l g with h|h<;>rw[h]at e<;>cases e
 have n:∀l,l<us.hp.length->JP us.hp.length st.hp.length B ω ω' l=Ag.ren Ren.nox (ω l):=λl g=>by
  simp only[JP,Ad g];cases e:ω l with
  |own a q=>cases a<;>rfl
  |_=>rfl
 have y:∀l,¬l<us.hp.length->JP us.hp.length st.hp.length B ω ω' l=(match ω' l with|.own hd p=>Ren.cm st.hp.length B hd p|.ptr i=>if B then .ptr (st.hp.length+i)else .none|w=>w):=λl g=>by
  simp only[JP,Ae g];cases e:ω' l with
  |own a q=>cases a<;>first|rfl|(rename_i i;cases i<;>rfl)
  |_=>rfl
 have dec:∀l hd p,JP us.hp.length st.hp.length B ω ω' l= .own hd p->(l<us.hp.length/\ω l= .own hd p/\∀i,hd≠.x i)\/(¬l<us.hp.length/\((hd= .x 0/\ω' l= .own (.x 0) p)\/∃i,B=true/\hd= .h (st.hp.length+i)/\ω' l= .own (.h i) p)):=by
  intro l hd p e;by_cases g:l<us.hp.length
  ·rw[n l g]at e;obtain⟨a,q,F,e2⟩:=D0 e;cases a with
   |x i=>cases e2
   |_=>cases e2;exact .inl ⟨g,F,by simp⟩
  rw[y l g]at e;cases F:ω' l with
  | own a q=>
    rw[F]at e;cases a with
    | x i=>cases i with
      |zero=>cases e;exact .inr ⟨g,.inl ⟨rfl,rfl⟩⟩
      |succ i=>cases e
    | h i=>
      cases M:B with
      |true=>rw[M]at e;cases e;exact .inr ⟨g,.inr ⟨i,rfl,rfl,rfl⟩⟩
      |false=>rw[M]at e;cases e
    |_=>cases e
  |ptr i=>rw[F]at e;(try simp only at e);split at e<;>cases e
  |_=>rw[F]at e;cases e
 have C:∀l i,JP us.hp.length st.hp.length B ω ω' l= .ptr i->(l<us.hp.length/\ω l= .ptr i)\/(¬l<us.hp.length/\B=true/\∃j,i=st.hp.length+j/\ω' l= .ptr j):=by
  intro l i e;by_cases g:l<us.hp.length
  ·rw[n l g]at e;cases F:ω l with
   |own a q=>rw[F]at e;cases a<;>cases e
   |ptr j=>rw[F]at e;cases e;exact .inl ⟨g,rfl⟩
   |_=>rw[F]at e;cases e
  rw[y l g]at e;cases F:ω' l with
  | own a q=>
    rw[F]at e;cases a with
    |x i=>cases i<;>cases e
    |h i=>simp only[Ren.cm]at e;split at e<;>cases e
    |_=>cases e
  | ptr j=>
    rw[F]at e;(try simp only at e);split at e
    ·rename_i hb;cases e;exact .inr ⟨g,hb,j,rfl,rfl⟩
    cases e
  |_=>rw[F]at e;cases e
 have tA:Tr us.hp ω h' (JP us.hp.length st.hp.length B ω ω') Ren.nox (λ_=>False):=
  ⟨λl e=>by
   have g:=R.core.lt l e;exact⟨by rw[n l g,e];rfl,(J l g).1⟩,λl hd p e _=>by
   have g:=R.core.notNone l (by rw[e];simp);exact⟨by rw[n l g,e];rfl,(J l g).1⟩,λl i e=>by
   have g:=R.core.notNone l (by rw[e];simp);rw[n l g,e];rfl⟩
 have Y:∀hd p,(∀i,hd≠.x i)->RC h' (JP us.hp.length st.hp.length B ω ω') (.at hd p) (Ak ρ st us X0 hd p).1 (Ak ρ st us X0 hd p).2:=λhd p hx=>
  (R.core.rc hd p).tr tA (λ_=>⟨λ_ _ _=>id,λ_=>Ren.nox_still hx _⟩) (λhb pb tp e=>by
   have:Ren.nox.still hb:=Ren.nox_still λi h=>(by subst h;exact R.nx hd p i pb tp e);exact⟨λ_ _ _=>id,λ_=>this,this.soft⟩)
 have tB : Tr0 h' (λl=>if l<us.hp.length/\U=true then .none else ω' l) h' (JP us.hp.length st.hp.length B ω ω') (Ren.cm st.hp.length B) (λ_=>False):=
  ⟨λl e=>by
   refine⟨?_,rfl⟩;try simp only at e
   split at e
   ·cases e
   ·rename_i hn;by_cases g:l<us.hp.length
    ·have hd:U=false:=(by cases U;rfl;exact absurd ⟨g,rfl⟩ hn);have h2:=(J l g).2;rw[e,hd]at h2;rw[n l g];unfold ωc at h2;split at h2
     ·rename_i h3;rw[h3];rfl
     ·simp at h2
     cases h2
    rw[y l g,e],λl hd p e _=>by
   refine⟨?_,rfl⟩;try simp only at e
   split at e
   ·cases e
   rw[y l (newo l hd p e),e]⟩
 have N:∀ {hd hd2:Hd} {p:List Nat} {c:PV} {x:V},RC h' ω' (.at hd p) c x->(∀i o,c≠.ptr i o)->(∀hb pb tp,c.q≠some (.i6 hb pb tp))->(U=true->c.deep=true)->(∀r,Ren.cm st.hp.length B hd (p++r)= .own hd2 (p++r))->RC h' (JP us.hp.length st.hp.length B ω ω') (.at hd2 p) c x:=by
  intro hd hd2 p c x rc hp hb hde hf;have r1:RC h' (λl=>if l<us.hp.length/\U=true then .none else ω' l) (.at hd p) c x:=by
   cases f_:U with
   | true=>
     refine rc.deep (λl a q e=>?_) ⟨hd,p,.inl rfl⟩ (hde f_) hp;simp only;rw[Ae (λh=>newo l a q e h.1)];exact e
   |false=>simpa using rc
  exact r1.tr0 tB (λ_=>⟨λ_ _ _=>id,hf⟩) (λhb' pb tp e=>absurd e (hb hb' pb tp)) (λl i o e=>absurd e (hp i o))
 have hρ:∀k,k<st.hp.length->ρ k<us.hp.length:=λk hk=>by obtain⟨b,h,_⟩:=R.Y_ hk;exact BB h
 have hVo:∀k,k<st.hp.length->A6 h' (ρ k)=A6 us.hp (ρ k):=λk hk=>by simp only[A6,(J _ (hρ k hk)).1]
 have hpg:∀k,Ao (if B=true then st.hp++H' else st.hp) k=if k<st.hp.length then Ao st.hp k else if B=true then Ao H' (k-st.hp.length)else []:=by
  intro k;cases M:B with
  | true=>
    simp only[AX];split
    ·rename_i h;rw[Dx,Dx,Bp h]
    rename_i h;rw[Dx,Dx,Dj (by omega)]
  | false=>
    simp only[AZ,A5];split
    ·rfl
    rename_i h;rw[Dx,BR (by omega)];rfl
 have L:(if B=true then st.hp++H' else st.hp).length=if B=true then st.hp.length+H'.length else st.hp.length:=by split<;>simp
 refine⟨JP us.hp.length st.hp.length B ω ω',λi=>if i<st.hp.length then ρ i else ρ' (i-st.hp.length),⟨λhd p=>?_,λl l' hd p e e'=>?_,λl l' i e e'=>?_,λl e=>?_,λl e=>?_⟩,R.sh,λi=>?_,R.lsl,R.lbx,R.lb,R.cb,λi c=>?_,λi hi=>?_,λl i e=>?_,λl i p e=>?_,⟨?_,λl g e=>?_,λl g e=>?_,λl i e=>?_⟩,λhd p i pb tp=>?_⟩
 ·cases hd with
  |s t=>exact Y (.s t) p (by simp)
  |b i=>exact Y (.b i) p (by simp)
  | x i =>
    by_cases hi:i=0
    ·subst hi;have rc:=G.core.rc (.x 0) p;have I:RC h' ω' (.at (.x 0) p) (r.S_ p) (u.S_ p):=rc;show RC h' _ _ ((if B=true then r.shift st.hp.length else r).S_ p) (u.S_ p);by_cases hptr:∃i o,r.S_ p= .ptr i o
     ·obtain⟨i,o,hp⟩:=hptr;have A:B=true:=(by rw[<- hB];exact m0 hp);rw[Ad A,bj,hp];rw[hp]at I;generalize u.S_ p=z at I;cases I with
      |ptr _ _ _ _ l g=>exact .ptr _ _ _ _ _ (by rw[y l (newp l i g),g];simp[A])
     have hnp:∀i o,r.S_ p≠.ptr i o:=λi o h=>hptr ⟨i,o,h⟩;have hsh:(if B=true then r.shift st.hp.length else r).S_ p=r.S_ p:=by
      split
      ·rw[bj];exact ZhE I.sc hnp
      rfl
     rw[hsh];exact N I hnp (Z p) (λhd=>Zeq (hdm hd).2 p) (λ_=>rfl)
    simp only[Ak,D6 _ _ i hi,Ba];exact .undef _ _
  | h i =>
    simp only[Ak,hpg];by_cases hi:i<st.hp.length
    ·simp only[Ad hi,hVo i hi];exact Y (.h i) p (by simp)
    simp only[Ae hi];cases M:B with
    |false=>simp only[AZ,A5];unfold Be;split<;>exact .undef _ _
    | true=>
      simp only[AX];have rc:=G.core.rc (.h (i-st.hp.length)) p;have I:RC h' ω' (.at (.h (i-st.hp.length)) p) (Be (Ao H' (i-st.hp.length)) (A6 h' (ρ' (i-st.hp.length))) p).1 (Be (Ao H' (i-st.hp.length)) (A6 h' (ρ' (i-st.hp.length))) p).2:=rc;have hlay:=Hc (ws:=A6 h' (ρ' (i-st.hp.length))) (G.ch (i-st.hp.length)) p;have:=N (hd2:=.h i) I (λa b h=>by rw[h]at hlay;cases hlay) (λhb pb tp=>C3 hlay hb pb tp) (λhd=>by have:=(hdm hd).1;rw[M]at this;cases this) (λr=>by simp only[Ren.cm,M,AX];rw[show st.hp.length+(i-st.hp.length)=i by omega]);rw[M]at this;exact this
 ·rcases dec l hd p e with⟨a1,a2,a3⟩|⟨a1,a2⟩
  ·rcases dec l' hd p e' with⟨b1,b2,b3⟩|⟨b1,b2⟩
   ·exact R.core.inj l l' hd p a2 b2
   rcases b2 with⟨rfl,_⟩|⟨i,_,rfl,_⟩
   ·exact absurd rfl (a3 0)
   have:=R.bdh l _ p a2;omega
  rcases dec l' hd p e' with⟨b1,b2,b3⟩|⟨b1,b2⟩
  ·rcases a2 with⟨rfl,_⟩|⟨i,_,rfl,_⟩
   ·exact absurd rfl (b3 0)
   have:=R.bdh l' _ p b2;omega
  rcases a2 with⟨rfl,c⟩|⟨i,_,rfl,c⟩
  ·rcases b2 with⟨_,d⟩|⟨j,_,D,_⟩
   ·exact G.core.inj l l' _ p c d
   cases D
  rcases b2 with⟨D,_⟩|⟨j,_,D,d⟩
  ·cases D
  have:i=j:=(by simp at D;exact D);subst this;exact G.core.inj l l' _ p c d
 ·rcases C l i e with⟨_,a⟩|⟨_,_,j,hj,a⟩
  ·rcases C l' i e' with⟨_,b⟩|⟨_,_,k,hk,b⟩
   ·exact R.core.injp l l' i a b
   have:=R.bdp l i a;omega
  rcases C l' i e' with⟨_,b⟩|⟨_,_,k,hk,b⟩
  ·have:=R.bdp l' i b;omega
  have:j=k:=(by omega);subst this;exact G.core.injp l l' j a b
 ·have D:(l<us.hp.length/\((∃hd p,ω l= .own hd p)\/∃i,ω l= .ptr i))\/((∃hd p,ω' l= .own hd p)\/∃i,ω' l= .ptr i):=by
   rcases e with⟨hd,p,e⟩|⟨i,e⟩
   ·rcases dec l hd p e with⟨a1,a2,a3⟩|⟨a1,⟨_,c⟩|⟨i,_,_,c⟩⟩
    ·exact .inl ⟨a1,.inl ⟨_,_,a2⟩⟩
    ·exact .inr (.inl ⟨_,_,c⟩)
    exact .inr (.inl ⟨_,_,c⟩)
   rcases C l i e with⟨a1,a⟩|⟨_,_,j,hj,a⟩
   ·exact .inl ⟨a1,.inr ⟨_,a⟩⟩
   exact .inr (.inr ⟨_,a⟩)
  rcases D with⟨g,D⟩|D
  ·obtain⟨b,h1,h2⟩:=R.core.kind l D;exact⟨b,by rw[<- h1];exact(J l g).1,h2⟩
  exact G.core.kind l D
 ·by_cases g:l<us.hp.length
  ·exact Ih g hN
  rw[y l g]at e;have:ω' l≠.none:=(by intro h;rw[h]at e;cases e);exact G.core.notNone l this
 ·by_cases hi:i=0
  ·subst hi;have:A9 r u:=G.shx 0;show A9 (if B=true then r.shift st.hp.length else r) u;split
   ·exact Zgb this
   exact this
  rw[D6 _ _ i hi];exact Bf _
 ·simp only[hpg];split
  ·exact R.ch i c
  split
  ·exact G.ch _ c
  rfl
 ·simp only[L]at hi;simp only[hpg];by_cases O:i<st.hp.length
  ·simp only[Ad O];rw[n _ (hρ i O),(R.hp i O).1,hVo i O];exact⟨rfl,(R.hp i O).2⟩
  simp only[Ae O];split at hi
  ·rename_i A;obtain⟨a,b⟩:=G.hp (i-st.hp.length) (by simp only;omega);rw[Ad A,y _ (newp _ _ a),a];refine⟨by simp[A];omega,b⟩
  omega
 ·simp only[L];rcases C l i e with⟨_,a⟩|⟨_,A,j,hj,a⟩
  ·have:=R.bdp l i a;split<;>omega
  have:=G.bdp l j a;simp only at this;rw[Ad A];omega
 ·simp only[L];rcases dec l (.h i) p e with⟨_,a,_⟩|⟨_,⟨D,_⟩|⟨j,A,D,a⟩⟩
  ·have:=R.bdh l i p a;split<;>omega
  ·cases D
  have:=G.bdh l j p a;simp only at this;simp at D;rw[Ad A];omega
 ·exact CW R.fr.len hN
 ·obtain⟨a,b⟩:=R.fr.old l g e;have O:l<us.hp.length:=Ih g R.fr.len;refine⟨by rw[<- a];exact(J l O).1,?_⟩;rw[n l O,b];rcases e with e|e<;>rw[e]<;>rfl
 ·have O:l<us.hp.length:=Ih g R.fr.len;rw[n l O]at e;exact(R.fr.ren Ren.nox).new l g e
 ·have F:=R.fr.ptr l i e;have O:=R.core.notNone l (by rw[F];simp);rw[n l O,F];rfl
 cases hd with
 |s t=>exact R.nx (.s t) p i pb tp
 |b k=>exact R.nx (.b k) p i pb tp
 | x k=>
   by_cases hk:k=0
   ·subst hk;show ((if B=true then r.shift st.hp.length else r).S_ p).q≠_;split
    ·rw[bj,(ZiC _ _).1];exact Z p _ _ _
    exact Z p _ _ _
   rw[F9 k hk];simp[PV.q]
 | h k=>
   simp only[Ak,hpg];refine C3 (Hc (λc=>?_) p) _ _ _;split
   ·exact R.ch k c
   split
   ·exact G.ch _ c
   rfl
end
end
section
variable {h0:Ac} {ω0 ω ω':Nat->W} {ρ ρ':Nat->Nat} {st:PS} {us:St}
def ωp(ω:Nat->W):Nat->W:=λl=>match ω l with
 |.Z_=>.Z_|.own (.h i) p=>.own (.h i) p|.ptr i=>.ptr i|_=>.none
theorem ωp_frz{l:Nat}(e:ωp ω l= .Z_):ω l= .Z_:=by
 unfold ωp at e;split at e<;>first|assumption|cases e
theorem ωp_own{l:Nat}{hd:Hd}{p:List Nat}(e:ωp ω l= .own hd p):ω l= .own hd p/\∃i,hd= .h i:=by
 unfold ωp at e;split at e
 ·cases e
 ·rename_i i q h;cases e;exact⟨h,i,rfl⟩
 ·cases e
 cases e
theorem ωp_ptr{l i:Nat}(e:ωp ω l= .ptr i):ω l= .ptr i:=by
 unfold ωp at e;split at e
 ·cases e
 ·cases e
 ·rename_i j h;cases e;exact h
 cases e
theorem oq{v:PV}(h:v.isH=false)(p:List Nat):∀i s n,(v.S_ p).q≠some (.i6 (.h i) s n):=by
 have b:∀ {w:PV},w.isH=false->∀i s n,w.q≠some (.i6 (.h i) s n):=by
  intro w y i s n e;cases w with
  |sl q es=>cases q<;>simp[PV.q]at e<;>(obtain⟨rfl,_⟩:=e;cases y)
  |ep q es j o=>cases q<;>simp[PV.q]at e<;>(obtain⟨rfl,_⟩:=e;cases y)
  |_=>simp[PV.q]at e
 have g:∀(cs:List PV) c,PV.isHL cs=false->(Aa cs c).isH=false:=by
  intro cs;induction cs with
  |nil=>intro c _;rfl
  | cons x r ih=>
    intro c t;simp only[PV.isHL,Cl]at t;cases c with
    |zero=>exact t.1
    |succ c=>exact ih c t.2
 unfold PV.S_;split
 ·exact b (g _ _ h)
 ·exact b rfl
 ·rename_i u i c;have:=g u i h;generalize Aa u i=w at this;cases w with
  |agg cs=>exact b (g cs c this)
  |_=>cases c<;>first|exact b this|exact b rfl
 ·exact b rfl
 ·exact b h
 exact b rfl
theorem bI(s:List PV)(n:Nat):Aa (clrH s) n=if (Aa s n).isH then .fl .undef else Aa s n:=by
 induction s generalizing n with
 |nil=>rfl
 | cons x r ih=>cases n with
   |zero=>rfl
   |succ n=>exact ih n
theorem RS.enterP(R:RS h0 ω0 ω ρ st us X0){args:List T_}(L:Ij (args.map (·.t7 st.sl))=true)(G:(args.map (·.t7 st.sl)).all (λv=>!v.hold)=true):RS us.hp (ωp ω) (ωp ω) ρ ⟨(args.map (·.t7 st.sl)).map PV.fz,[],st.hp⟩ ⟨args.map (·.ev us.sl),[],us.hp⟩ X0:=by
 have J:∀l,ω l= .Z_->ωp ω l= .Z_:=λl e=>by simp[ωp,e]
 have g:∀t p,Cs ((Aa ((args.map (·.t7 st.sl)).map PV.fz) t).S_ p)/\RC us.hp (ωp ω) (.at (.s t) p) ((Aa ((args.map (·.t7 st.sl)).map PV.fz) t).S_ p) ((get (args.map (·.ev us.sl)) t).S_ p):=by
  intro t p;rw[W6];rcases TG args st.sl t with⟨ht,x,F,e⟩|⟨_,e⟩
  ·have u:=Te L t (by simpa using ht);rw[e]at u ⊢;rw[(Yb args us.sl t).1 x F];obtain⟨hd,_,_,D⟩:=R.ev x;obtain⟨g1,Y,g3⟩:=oK u p;rcases XL (x.t7 st.sl) p with h|h
   ·rw[h];refine⟨λi C A y=>?_,?_⟩
    ·generalize (x.t7 st.sl).S_ p=w at y;cases w<;>simp[PV.fz,PV.q]at y
    have M:((x.t7 st.sl).S_ p).q=none\/((x.t7 st.sl).S_ p).q=some .Z_:=by
     have G:=DE.1 G (x.t7 st.sl) (List.mem_map.2 ⟨x,Il F,rfl⟩);exact Y (by simpa using G)
    by_cases hp:∃i o,(x.t7 st.sl).S_ p= .ptr i o
    ·obtain⟨i,o,hp⟩:=hp;have D:=D p;rw[hp]at D ⊢;generalize (x.ev us.sl).S_ p=z at D;cases D with
     |ptr _ _ _ _ l N=>exact .ptr _ _ _ _ l (by simp[ωp,N])
    refine(D p).fzA (λi o h=>hp ⟨i,o,h⟩) J ?_;rcases M with h|h
    ·exact .inl h
    exact .inr (.inl h)
   rw[h];exact⟨λi C A=>by simp[PV.q],.undef _ _⟩
  rw[e];show Cs ((PV.fl .undef).S_ p)/\RC _ _ _ ((PV.fl .undef).S_ p) _;rw[Ba];exact⟨λi C A=>by simp[PV.q],.undef _ _⟩
 have t:Tr0 us.hp ω us.hp (ωp ω) Ren.id (λl=>∃hd p,ω l= .own hd p/\∀i,hd≠.h i):=⟨λl e=>⟨J l e,rfl⟩,λl hd p e I=>by
  refine⟨?_,rfl⟩;cases hd with
  |h i=>simp[ωp,e,Ren.id]
  |s i=>exact absurd ⟨_,_,e,by simp⟩ I
  |b i=>exact absurd ⟨_,_,e,by simp⟩ I
  |x i=>exact absurd ⟨_,_,e,by simp⟩ I⟩
 have Y_:∀i p,RC us.hp (ωp ω) (.at (.h i) p) (Be (Ao st.hp i) (A6 us.hp (ρ i)) p).1 (Be (Ao st.hp i) (A6 us.hp (ρ i)) p).2:=by
  intro i p;have r:=R.core.rc (.h i) p;have n:=Hc (ws:=A6 us.hp (ρ i)) (R.ch i) p;refine RC.tr0 t (show RC us.hp ω (.at (.h i) p) _ _ from r) (λ_=>⟨λl q e=>?_,λ_=>rfl⟩) (λO C A e=>absurd e (C3 n O C A)) (λl j o e _=>by rw[e]at n;cases n);rintro⟨hd,p',y,Z⟩;rw[e]at y;cases y;exact Z i rfl
 refine⟨⟨λhd p=>?_,λl l' hd p e y=>R.core.inj l l' hd p (ωp_own e).1 (ωp_own y).1,λl l' i e y=>R.core.injp l l' i (ωp_ptr e) (ωp_ptr y),λl e=>?_,λl e=>R.core.lt l (ωp_frz e)⟩,λt=>?_,λi=>Bf _,by simp,rfl,λ_=>rfl,λ_ _=>rfl,R.ch,λi hi=>?_,λl i e=>R.bdp l i (ωp_ptr e),λl i p e=>R.bdh l i p (ωp_own e).1,
  ⟨BN _,λl _ _=>⟨rfl,rfl⟩,λl _ e=>by rw[e];simp,λl i e=>e⟩,λhd p i C A=>?_⟩
 ·cases hd with
  |s t=>exact(g t p).2
  |x i=>rw[GK];exact .undef _ _
  |b i=>simp only[Ak,Ao];unfold Be;split<;>exact .undef _ _
  |h i=>exact Y_ i p
 ·rcases e with⟨hd,p,e⟩|⟨i,e⟩
  ·exact R.core.kind l (.inl ⟨hd,p,(ωp_own e).1⟩)
  exact R.core.kind l (.inr ⟨i,ωp_ptr e⟩)
 ·simp only;rw[W6];rcases TG args st.sl t with⟨ht,x,F,e⟩|⟨_,e⟩
  ·have u:=Te L t (by simpa using ht);rw[e]at u ⊢;rw[(Yb args us.sl t).1 x F];obtain⟨hd,_,hs,_⟩:=R.ev x;exact ma hs u
  rw[e];exact Bf _
 ·obtain⟨h1,U⟩:=R.hp i hi;exact⟨by simp[ωp,h1],U⟩
 cases hd with
 |s t=>exact(g t p).1 i C A
 |x j=>rw[GK];simp[PV.q]
 |b j=>simp only[Ak,Ao];unfold Be;split<;>simp[PV.q,Aa]
 |h j=>exact C3 (Hc (ws:=A6 us.hp (ρ j)) (R.ch j) p) _ _ _
def lab:W->W
 |.own (.x 0) p=>.own (.x 0) p|.own (.h i) p=>.own (.h i) p|.own _ _=>.Z_|w=>w
def Ren.lab:Ren:=λhd p=>match hd with
 |.x 0=>.own (.x 0) p|.h i=>.own (.h i) p|_=>.Z_
def Db(N:Nat)(ω ω':Nat->W):Nat->W:=λl=>if l<N then (match ω l with
    |.own (.s t) p=>.own (.s t) p
    |.own (.b t) p=>.own (.b t) p
    |.own (.x _) _=>.Z_
    |.own (.h _) _=>lab (ω' l)
    |.ptr _=>lab (ω' l)
    |w=>w)else lab (ω' l)
theorem eC{w:W}{hd:Hd}{p:List Nat}(e:lab w= .own hd p):w= .own hd p/\(hd= .x 0\/∃i,hd= .h i):=by
 unfold lab at e;split at e
 ·cases e;exact⟨rfl,.inl rfl⟩
 ·rename_i i q;cases e;exact⟨rfl,.inr ⟨i,rfl⟩⟩
 ·cases e
 rename_i h1 g b;subst e;exact absurd rfl (b _ _)
theorem dP{w:W}{i:Nat}(e:lab w= .ptr i):w= .ptr i:=by
 unfold lab at e;split at e<;>first|(cases e;done)|exact e
theorem Ziy{hd:Hd}{p:List Nat}:lab (.own hd p)=Ren.lab hd p:=by
 cases hd with
 |x i=>cases i<;>rfl
 |_=>rfl
theorem RS.leaveP(R:RS h0 ω0 ω ρ st us X0){H':List (List PV)}{h':Ac}{r:PV}{u:V}(D:RS us.hp (ωp ω) ω' ρ' ⟨[],[],H'⟩ ⟨[],[],h'⟩ (X1 r u))(N:r.nob)(hnp:r.q_=false)(_hl:st.hp.length<=H'.length):∃ω'' ρ'',RS h0 ω0 ω'' ρ'' { st with sl:=clrH st.sl,hp:=H' } { us with hp:=h' } (X1 r u):=by
 have hN:us.hp.length<=h'.length:=D.fr.len;have j:∀l,l<us.hp.length->(ωp ω l= .Z_\/ωp ω l= .none)->h'[l]?=us.hp[l]?/\ω' l=ωp ω l:=λl g e=>D.fr.old l g e;have U:∀l,ω l≠.none->l<us.hp.length:=λl h=>R.core.notNone l h;have cF:∀l,ω l= .Z_->Db us.hp.length ω ω' l= .Z_/\h'[l]?=us.hp[l]?:=λl e=>by
  have g:=U l (by rw[e];simp);exact⟨by simp[Db,g,e],(j l g (.inl (by simp[ωp,e]))).1⟩
 have cS:∀l t p,ω l= .own (.s t) p->Db us.hp.length ω ω' l= .own (.s t) p/\h'[l]?=us.hp[l]?:=λl t p e=>by
  have g:=U l (by rw[e];simp);exact⟨by simp[Db,g,e],(j l g (.inr (by simp[ωp,e]))).1⟩
 have cB:∀l t p,ω l= .own (.b t) p->Db us.hp.length ω ω' l= .own (.b t) p/\h'[l]?=us.hp[l]?:=λl t p e=>by
  have g:=U l (by rw[e];simp);exact⟨by simp[Db,g,e],(j l g (.inr (by simp[ωp,e]))).1⟩
 have cX:∀l t p,ω l= .own (.x t) p->Db us.hp.length ω ω' l= .Z_/\h'[l]?=us.hp[l]?:=λl t p e=>by
  have g:=U l (by rw[e];simp);exact⟨by simp[Db,g,e],(j l g (.inr (by simp[ωp,e]))).1⟩
 have cP:∀l i,ω l= .ptr i->Db us.hp.length ω ω' l= .ptr i:=λl i e=>by
  have g:=U l (by rw[e];simp);have:=D.fr.ptr l i (by simp[ωp,e]);simp[Db,g,e,this,lab]
 have A:∀l,ω' l≠.none->ω' l= .Z_/\Db us.hp.length ω ω' l= .Z_\/Db us.hp.length ω ω' l=lab (ω' l):=λl f9=>by
  by_cases g:l<us.hp.length
  ·cases e:ω l with
   |none=>exact absurd (by rw[(j l g (.inr (by simp[ωp,e]))).2];simp[ωp,e]) f9
   |Z_=>exact .inl ⟨by rw[(j l g (.inl (by simp[ωp,e]))).2];simp[ωp,e],(cF l e).1⟩
   |ptr i=>exact .inr (by simp[Db,g,e])
   | own hd p=>
     cases hd with
     |h i=>exact .inr (by simp[Db,g,e])
     |s i=>exact absurd (by rw[(j l g (.inr (by simp[ωp,e]))).2];simp[ωp,e]) f9
     |b i=>exact absurd (by rw[(j l g (.inr (by simp[ωp,e]))).2];simp[ωp,e]) f9
     |x i=>exact absurd (by rw[(j l g (.inr (by simp[ωp,e]))).2];simp[ωp,e]) f9
  exact .inr (by simp[Db,g])
 have I:∀l hd p,Db us.hp.length ω ω' l= .own hd p->(ω l= .own hd p/\(∃t,hd= .s t\/hd= .b t))\/(ω' l= .own hd p/\(hd= .x 0\/∃i,hd= .h i)):=by
  intro l hd p e;unfold Db at e;split at e
  ·split at e
   ·rename_i t q h;cases e;exact .inl ⟨h,t,.inl rfl⟩
   ·rename_i t q h;cases e;exact .inl ⟨h,t,.inr rfl⟩
   ·cases e
   ·exact .inr (eC e)
   ·exact .inr (eC e)
   rename_i h1 O h3 h4 h5;exfalso;rw[e]at h1 O h3 h4;cases hd with
   |s t=>exact h1 _ _ rfl
   |b t=>exact O _ _ rfl
   |x t=>exact h3 _ _ rfl
   |h t=>exact h4 _ _ rfl
  exact .inr (eC e)
 have G:∀l i,Db us.hp.length ω ω' l= .ptr i->ω' l= .ptr i:=by
  intro l i e;unfold Db at e;split at e
  ·split at e
   ·cases e
   ·cases e
   ·cases e
   ·exact dP e
   ·exact dP e
   rename_i h1 O h3 h4 h5;exact absurd e (h5 i)
  exact dP e
 have decf:∀l,Db us.hp.length ω ω' l= .Z_->l<h'.length:=by
  intro l e;by_cases g:l<us.hp.length
  ·omega
  have:ω' l≠.none:=(by intro h;simp[Db,g,h,lab]at e);exact D.core.notNone l this
 have tA:Tr0 us.hp ω h' (Db us.hp.length ω ω') Ren.nox (λl=>∃i p,ω l= .own (.h i) p):=
  ⟨cF,λl hd p e hT=>by
   cases hd with
   |s t=>exact cS l t p e
   |b t=>exact cB l t p e
   |x t=>exact cX l t p e
   |h t=>exact absurd ⟨t,p,e⟩ hT⟩
 have M:∀ {hd:Hd} {p:List Nat} {v:PV} {z:V},(∃t,hd= .s t\/hd= .b t)->RC us.hp ω (.at hd p) v z->(∀i C y,v.q≠some (.i6 (.x i) C y))->(∀i C y,v.q≠some (.i6 (.h i) C y))->RC h' (Db us.hp.length ω ω') (.at hd p) v z:=by
  intro hd p v z J rc h1 O;refine rc.tr0 tA (λ_=>⟨λl q e=>?_,λq=>?_⟩) (λF C y e=>⟨λl q L=>?_,λ_=>?_,?_⟩) (λl i o _ e=>cP l i e)
  ·rintro⟨i,q',L⟩;rw[e]at L;cases L;obtain⟨t,h|h⟩:=J<;>cases h
  ·obtain⟨t,rfl|rfl⟩:=J<;>rfl
  ·rintro⟨i,q',e2⟩;rw[L]at e2;cases e2;exact O _ _ _ e
  ·exact Ren.nox_still λi h=>by subst h;exact h1 _ _ _ e
  exact(Ren.nox_still λi h=>by subst h;exact h1 _ _ _ e).soft
 have tB:Tr0 h' ω' h' (Db us.hp.length ω ω') Ren.lab (λ_=>False):=
  ⟨λl e=>by
   refine⟨?_,rfl⟩;rcases A l (by rw[e];simp)with⟨_,h⟩|h
   ·exact h
   ·rw[h,e];rfl,λl hd p e _=>by
   refine⟨?_,rfl⟩;rcases A l (by rw[e];simp)with⟨h,_⟩|h
   ·rw[h]at e;cases e
   rw[h,e,Ziy]⟩
 have Y:∀ {hd:Hd} {p:List Nat} {v:PV} {z:V},(hd= .x 0\/∃i,hd= .h i)->RC h' ω' (.at hd p) v z->(∀i o,v≠.ptr i o)->(∀F C y,v.q≠some (.i6 F C y))->RC h' (Db us.hp.length ω ω') (.at hd p) v z:=by
  intro hd p v z J rc hp F;refine rc.tr0 tB (λ_=>⟨λ_ _ _=>id,λq=>?_⟩) (λhb' C y e=>absurd e (F hb' C y)) (λl i o e=>absurd e (hp i o));obtain rfl|⟨i,rfl⟩:=J<;>rfl
 refine⟨Db us.hp.length ω ω',ρ',⟨λhd p=>?_,λl l' hd p e L=>?_,λl l' i e L=>D.core.injp l l' i (G l i e) (G l' i L),λl e=>?_,decf⟩,λt=>?_,λi=>?_,by simpa [ZhP]using R.lsl,R.lbx,R.lb,R.cb,D.ch,λi hi=>?_,λl i e=>D.bdp l i (G l i e),λl i p e=>?_,⟨?_,λl g e=>?_,λl g e=>?_,λl i e=>?_⟩,λhd p i C y=>?_⟩
 ·cases hd with
  | s t=>
    show RC h' _ _ ((Aa (clrH st.sl) t).S_ p) _;rw[bI];split
    ·rw[Ba];exact .undef _ _
    rename_i hh;exact M ⟨t,.inl rfl⟩ (R.core.rc (.s t) p) (λi C y=>R.nx (.s t) p i C y) (oq (by simpa using hh) p)
  | b t=>
    have n:=Hc (ws:=A3 us.bx t) (R.cb t) p;exact M ⟨t,.inr rfl⟩ (R.core.rc (.b t) p) (λi C y=>C3 n _ _ _) (λi C y=>C3 n _ _ _)
  | x i=>
    by_cases hi:i=0
    ·subst hi;exact Y (.inl rfl) (D.core.rc (.x 0) p) (λi o h=>by have:=m0 (v:=r) (p:=p) h;rw[hnp]at this;cases this) (λF C y=>N p F C y)
    simp only[Ak,D6 _ _ i hi,Ba];exact .undef _ _
  | h i=>
    have n:(Be (Ao H' i) (A6 h' (ρ' i)) p).1.lay=true:=Hc (ws:=A6 h' (ρ' i)) (D.ch i) p;exact Y (.inr ⟨i,rfl⟩) (D.core.rc (.h i) p) (λa b h=>by
     have h:(Be (Ao H' i) (A6 h' (ρ' i)) p).1= .ptr a b:=h;rw[h]at n;cases n) (λF C y=>C3 n F C y)
 ·rcases I l hd p e with⟨a,t,ht⟩|⟨a,ht⟩
  ·rcases I l' hd p L with⟨b,_⟩|⟨b,F⟩
   ·exact R.core.inj l l' hd p a b
   rcases ht with rfl|rfl<;>rcases F with F|⟨i,F⟩<;>cases F
  rcases I l' hd p L with⟨b,t,F⟩|⟨b,_⟩
  ·rcases F with rfl|rfl<;>rcases ht with ht|⟨i,ht⟩<;>cases ht
  exact D.core.inj l l' hd p a b
 ·rcases e with⟨hd,p,e⟩|⟨i,e⟩
  ·rcases I l hd p e with⟨a,t,ht⟩|⟨a,_⟩
   ·obtain⟨b,h1,O⟩:=R.core.kind l (.inl ⟨hd,p,a⟩);refine⟨b,?_,O⟩;rcases ht with rfl|rfl
    ·rw[(cS l t p a).2];exact h1
    rw[(cB l t p a).2];exact h1
   exact D.core.kind l (.inl ⟨hd,p,a⟩)
  exact D.core.kind l (.inr ⟨i,G l i e⟩)
 ·show A9 (Aa (clrH st.sl) t) (get us.sl t);rw[bI];split
  ·exact Bf _
  exact R.sh t
 ·by_cases hi:i=0
  ·subst hi;exact D.shx 0
  rw[D6 _ _ i hi];exact Bf _
 ·obtain⟨a,b⟩:=D.hp i hi;refine⟨?_,b⟩;rcases A (ρ' i) (by rw[a];simp)with⟨h,_⟩|h
  ·rw[h]at a;cases a
  rw[h,a];rfl
 ·rcases I l (.h i) p e with⟨_,t,h|h⟩|⟨a,_⟩
  ·cases h
  ·cases h
  exact D.bdh l i p a
 ·exact CW R.fr.len hN
 ·obtain⟨a,b⟩:=R.fr.old l g e;have h_:l<us.hp.length:=Ih g R.fr.len;rcases e with e|e
  ·rw[e]at b;obtain⟨c1,c2⟩:=cF l b;exact⟨by rw[c2];exact a,by rw[c1,e]⟩
  rw[e]at b;refine⟨by rw[(j l h_ (.inr (by simp[ωp,b]))).1];exact a,?_⟩;rw[e];simp[Db,h_,b]
 ·intro Z;obtain⟨a,b⟩:=R.fr.old l g (.inr Z);have h_:l<us.hp.length:=Ih g R.fr.len;rw[Z]at b;simp[Db,h_,b]at e
 ·exact cP l i (R.fr.ptr l i e)
 cases hd with
 | s t=>
   show ((Aa (clrH st.sl) t).S_ p).q≠_;rw[bI];split
   ·rw[Ba];simp[PV.q]
   exact R.nx (.s t) p i C y
 |b k=>exact R.nx (.b k) p i C y
 | x k=>
   by_cases hk:k=0
   ·subst hk;exact N p _ _ _
   rw[F9 k hk];simp[PV.q]
 |h k=>exact C3 (Hc (ws:=A6 h' (ρ' k)) (D.ch k) p) _ _ _
end
structure x_ (S:Nat->Prop) (h h':Ac):Prop where
 len:h'.length=h.length
 off:∀l,¬S l->h'[l]?=h[l]?
 Y_:∀(l:Nat) (b:Blk),h[l]?=some b->∃b':Blk,h'[l]?=some b'/\b'.k=b.k/\b'.w=b.w/\b'.cs.length=b.cs.length
theorem x_.refl(S:Nat->Prop)(h:Ac):x_ S h h:=⟨rfl,λ_ _=>rfl,λ_ b g=>⟨b,g,rfl,rfl,rfl⟩⟩
theorem x_.mono{S T:Nat->Prop}{h h':Ac}(o:x_ S h h')(hs:∀l,S l->T l):x_ T h h':=⟨o.len,λl b=>o.off l λh=>b (hs l h),o.Y_⟩
theorem x_.trans{S:Nat->Prop}{h h' g:Ac}(o:x_ S h h')(o':x_ S h' g):x_ S h g:=
 ⟨o'.len.trans o.len,λl i=>(o'.off l i).trans (o.off l i),λl b t=>by
  obtain⟨z,h1,s,n,x⟩:=o.Y_ l b t;obtain⟨y,u,q,j,c2⟩:=o'.Y_ l z h1;exact⟨y,u,q.trans s,j.trans n,c2.trans x⟩⟩
theorem Zhb:X1 (.fl .undef) .undef=X0:=by funext i;unfold X1 X0;split<;>rfl
def PMk.as(M:PMk)(u:V)(m:Int):List V:=match M.vd with|true=>[u]|false=>[u,.int .i64 m]
def PMk.rv(M:PMk)(m:Int):V:=match M.vd with|true=>.undef|false=>.int .i64 m
def RM(h:Ac)(ω:Nat->W)(hd:Hd)(p:List Nat)(v:PV)(u:V):Prop:=RC h ω (.inn hd p) v u\/(v= .sl .own []/\∃l o,u= .slice l o 0)
def V.ln:V->Nat
 |.slice _ _ n=>n|_=>0
def JD(f:Bg)(M:PMk):Prop:=∀(h:Ac) (ω:Nat->W) (hd:Hd) (P:List Nat) (b:Nat) (AN:List PV) (us:List V) (u:V) (m:Int) (K:List PV->Int->Prop) (Q:V->Ac->Prop),
 (∀l l' a q,ω l= .own a q->ω l'= .own a q->l=l')->(if M.agg then u= .agg us else us=[u])->us.length=AN.length ->
 (∀c,c<AN.length->RM h ω hd (P++[b+c]) (Aa AN c) (get us c))->M.f AN m K ->
 (∀news g h',K news g->news.length=AN.length->x_ (λl=>∃c es r,c<AN.length/\Aa AN c= .sl .own es/\ω l= .own hd (P++(b+c)::r)) h h' ->
  (∀c,c<AN.length->RM h' ω hd (P++[b+c]) (Aa news c) (get us c))->Q (M.rv g) h')->f (M.as u m) h Q
open Classical in
def mix(S:Nat->Prop)(h h':Ac):Ac:=h.mapIdx λl b=>if S l then (h'[l]?).getD b else b
theorem ZjE(S:Nat->Prop)(h h':Ac):(mix S h h').length=h.length:=by simp[mix]
theorem Yx{S:Nat->Prop}{h h':Ac}(g:h'.length=h.length){l:Nat}(hs:S l):(mix S h h')[l]?=h'[l]?:=by
 unfold mix;rw[fb];rcases Bz l h.length with b|b
 ·rw[Bc b,Bc (by omega)];simp[hs]
 rw[BR b,BR (by omega)];rfl
theorem Q2{S:Nat->Prop}{h h':Ac}{l:Nat}(hs:¬S l):(mix S h h')[l]?=h[l]?:=by
 unfold mix;rw[fb];rcases Bz l h.length with b|b
 ·rw[Bc b];simp[hs]
 rw[BR b];rfl
theorem RC.own_at{H:Ac}{ω:Nat->W}{hd:Hd}{p:List Nat}{es:List (List PV)}{u:V}(r:RC H ω (.inn hd p) (.sl .own es) u):RC H ω (.at hd p) (.sl .own es) u:=by
 cases r with
 |nil=>exact .nil _ _
 |sl _ _ _ l o n b h1 s t x q i g j=>exact .sl _ _ _ _ _ _ b h1 s t x q i g j
theorem RC.ln{H:Ac}{ω:Nat->W}{m:Md}{q:Ql}{es:List (List PV)}{u:V}(r:RC H ω m (.sl q es) u):u.ln=es.length:=by
 cases r with
 |nil=>rfl
 |sl _ _ _ l o n b h1 i j s g=>exact g
theorem RM.ln{H:Ac}{ω:Nat->W}{hd:Hd}{p:List Nat}{q:Ql}{es:List (List PV)}{u:V}(r:RM H ω hd p (.sl q es) u):u.ln=es.length:=by
 rcases r with r|⟨e,l,o,rfl⟩
 ·exact r.ln
 cases e;rfl
theorem RC.hold {S:Nat->Prop} {h H:Ac} {ω:Nat->W} {hd:Hd} {p:List Nat} {q:Ql} {L g:List (List PV)} {j u:V} (G:q.isOwn=true) (F:RC h ω (.at hd p) (.sl q L) j) (O:x_ S h H) (D:RM H ω hd p (.sl .own g) u)
 (N:u=j\/(u.ln=0/\j.ln=0)):RC H ω (.at hd p) (.sl q g) j:=by
 have I:=D.ln;have i:j.ln=0->g=[]->RC H ω (.at hd p) (.sl q g) j:=by
  rintro s rfl;cases F with
  |nil=>exact .nil _ _
  | sl _ _ _ l o n b h1 t hc f9 hn hw hle hr=>
    have s:n=0:=s;subst hn;have y:L=[]:=Dq s;subst y;obtain⟨C,x,A,z,J⟩:=O.Y_ l b h1;cases q with
    |own=>exact absurd rfl (f9 rfl (.inl rfl))
    |i5 w=>exact .sl _ _ _ _ _ _ C x (by rw[A];exact t) ⟨hc.1,hc.2.1,by rw[A];exact hc.2.2.1,λh=>by rw[z];exact hc.2.2.2 h⟩ (λ_ h=>by simp at h) rfl (λe M=>by cases M) (by rw[J];simpa using hle) (λk t=>by simp at t)
    |_=>cases G
 rcases N with rfl|⟨h1,R⟩
 ·rcases D with r|⟨e,l,o,rfl⟩
  ·by_cases s:u.ln=0
   ·exact i s (Dq (by rw[<- I];exact s))
   cases q with
   |own=>exact r.own_at
   | i5 w=>
     cases r with
     |nil=>exact .nil _ _
     | sl _ _ _ l o n C h1 t hc f9 hn hw hle hr=>
       cases F with
       | sl _ _ _ _ _ _ b h1' hk' hc' hne' hn' hw' hle' hr'=>
         obtain⟨U,x,A,z,J⟩:=O.Y_ l b h1';rw[h1]at x;cases x;exact .sl _ _ _ _ _ _ C h1 t ⟨hc.1,hc.2.1,hc.2.2,λh=>by rw[z];exact hc'.2.2.2 h⟩ (λ_ h=>by simp at h) hn hw hle hr
   |_=>cases G
  cases e;exact i rfl rfl
 exact i R (Dq (by rw[<- I];exact h1))
section
variable {h0:Ac} {ω0 ω:Nat->W} {ρ ρ':Nat->Nat} {st f4 st1:PS} {us v_:St} {X X':CN}
theorem Tr.only{S:Nat->Prop}{h h':Ac}(o:x_ S h h')(j:∀l,S l->∃a q,ω l= .own a q):Tr h ω h' ω Ren.id S:=⟨λl e=>⟨e,o.off l λhs=>by obtain⟨a,q,b⟩:=j l hs;rw[e]at b;cases b⟩,λl hd p e g=>⟨by rw[e];rfl,o.off l g⟩,λl i e=>e⟩
theorem X5(R:RS h0 ω0 ω ρ st us X0){hd:Hd}{c:Nat}{q:Ql}{es:List (List PV)}(g:Df st hd [c]= .sl q es):RC us.hp ω (.at hd [c]) (.sl q es) (Ak ρ st us X0 hd [c]).2:=by
 obtain⟨_,_,_,_,_,_,_,_,_,_,b,_⟩:=Tu (X':=X0) (v:=.fl .undef) R g (.inl rfl) rfl;have:=R.core.rc hd [c];rw[b]at this;exact this
theorem RS.mark1 (R:RS h0 ω0 ω ρ st us X0) {hd:Hd} {c:Nat} {q:Ql} {es g:List (List PV)} (M:q.isOwn=true) (hg:Df st hd [c]= .sl q es) {H:Ac} (u:x_ (λl=>∃r,ω l= .own hd (c::r)) us.hp H)
 (Y:RC H ω (.at hd [c]) (.sl q g) (Ak ρ st us X0 hd [c]).2):RS h0 ω0 ω ρ (y_ st (.sl q g) hd [c]) { us with hp:=H } X0:=by
 obtain⟨a1,a2,a3,a4,a5,a6,a7,G,a9,a10,a11,L⟩:=Tu (X':=X0) (v:=.sl q g) R hg (.inr ⟨_,_,rfl⟩) (by cases q<;>first|rfl|cases M);have t:=Tr.only (ω:=ω) u (λl ⟨r,e⟩=>⟨_,_,e⟩);have N:∀k,k<st.hp.length->A6 H (ρ k)=A6 us.hp (ρ k):=by
  intro k hk;have:¬ ∃r,ω (ρ k)= .own hd (c::r):=(by rintro⟨r,e⟩;rw[(R.hp k hk).1]at e;cases e);simp only[A6,u.off _ this]
 have D:∀f_ p,Ak ρ (y_ st (.sl q g) hd [c]) { us with hp:=H } X0 f_ p=Ak ρ (y_ st (.sl q g) hd [c]) us X0 f_ p\/(Ak ρ (y_ st (.sl q g) hd [c]) { us with hp:=H } X0 f_ p).1= .fl .undef:=by
  intro f_ p;cases f_ with
  | h i=>
    rcases Bz i st.hp.length with hi|hi
    ·left;simp only[Ak,N i hi]
    right;have U:Ao (y_ st (.sl q g) hd [c]).hp i=[]:=(by rw[Dx,BR (by rw[G];exact hi)];rfl);simp only[Ak,U];unfold Be;split<;>rfl
  |_=>left;rfl
 have A:∀f_ p,Cs (Ak ρ (y_ st (.sl q g) hd [c]) { us with hp:=H } X0 f_ p).1/\RC H ω (.at f_ p) (Ak ρ (y_ st (.sl q g) hd [c]) { us with hp:=H } X0 f_ p).1 (Ak ρ (y_ st (.sl q g) hd [c]) { us with hp:=H } X0 f_ p).2:=by
  intro f_ p;rcases D f_ p with I|I
  ·rw[I];by_cases C:∃i,f_= .x i
   ·obtain⟨i,rfl⟩:=C;exact A4 (GK i p)
   rcases a1 f_ p (λi h=>C ⟨i,h⟩)with h|⟨rfl,rfl,J⟩|⟨e1,e2,e3⟩
   ·exact A4 h
   ·rw[J];exact⟨λi s n=>by cases q<;>first|(cases M;done)|simp[PV.q],Y⟩
   rw[e1];refine⟨λi s n e=>R.nx f_ p i s n e,(R.core.rc f_ p).tr t (λj=>⟨λl r e=>?_,λr=>rfl⟩) (λhb s n F=>⟨λl q' e=>?_,λ_ _=>rfl,Ren.still.soft λ_=>rfl⟩)⟩
   ·rintro⟨r',z⟩;rw[e]at z;simp only[W.own.injEq]at z;obtain⟨rfl,O⟩:=z;rcases L p with h|⟨c',rfl⟩
    ·rw[h]at j;cases j
    simp only[Dz,CL,GJ]at O;exact e2 ⟨rfl,by rw[O.1]⟩
   rintro⟨r',z⟩;rw[e]at z;cases z;exact e3 _ s n F rfl
  exact A4 I
 refine⟨⟨λf_ p=>(A f_ p).2,R.core.inj,R.core.injp,λl e=>?_,λl e=>by rw[u.len];exact R.core.lt l e⟩,a2,λi=>Bf _,by rw[a3];exact R.lsl,by rw[a4];exact R.lbx,λi=>by rw[a5];exact R.lb i,a6,a7,λi hi=>?_,λl i e=>by rw[G];exact R.bdp l i e,λl i p e=>by rw[G];exact R.bdh l i p e,⟨by rw[u.len];exact R.fr.len,λl Z e=>?_,R.fr.new,R.fr.ptr⟩,λf_ p i s n=>(A f_ p).1 i s n⟩
 ·obtain⟨b,h1,h2⟩:=R.core.kind l e;obtain⟨b',J,h4,_⟩:=u.Y_ l b h1;exact⟨b',J,by rw[h4,h2]⟩
 ·rw[G]at hi;simp only[N i hi,a9];exact R.hp i hi
 obtain⟨x,y⟩:=R.fr.old l Z e;refine⟨?_,y⟩;rw[<- x];refine u.off l ?_;rintro⟨r,F⟩;rw[y]at F;rcases e with e|e<;>rw[e]at F<;>cases F
theorem RS.markL{hd:Hd}(F:hd.sb=true){Z:Prop}{K:PS->Prop}:∀(news AN:List PV) (c:Nat) (st:PS) (us:St) (g:Ac) (A:Nat->V),RS h0 ω0 ω ρ st us X0->ND AN news ->
 x_ (λl=>∃i es r,i<AN.length/\Aa AN i= .sl .own es/\ω l= .own hd ((c+i)::r)) us.hp g ->
 (∀i,i<AN.length->RM g ω hd [c+i] (Aa news i) (A (c+i)))->(∀i es,i<AN.length->Aa AN i= .sl .own es->A (c+i)=(Ak ρ st us X0 hd [c+i]).2\/((A (c+i)).ln=0/\(Ak ρ st us X0 hd [c+i]).2.ln=0)) ->
 Pu hd c news K st->(∀f4,RS h0 ω0 ω ρ f4 { us with hp:=g } X0->K f4->Z)->Z
 | [],[],c,st,us,g,A,R,_,hO,_,_,z,hK=>by
   have:g=us.hp:=JB λl=>hO.off l (by rintro⟨i,es,r,hi,_⟩;simp at hi);subst this;exact hK st R z
 |[],_::_,c,st,us,g,A,R,y,hO,hr,hA,z,hK=>by unfold ND at y;split at y<;>simp_all
 |_::_,[],c,st,us,g,A,R,y,hO,hr,hA,z,hK=>y.elim
 | n :: ns,o::os,c,st,us,g,A,R,y,hO,hr,hA,z,hK=>by
   by_cases ho:∃es,o= .sl .own es
   ·obtain⟨es0,rfl⟩:=ho;obtain⟨⟨es,rfl⟩,y⟩:=y;obtain⟨q,e0,J,hg,z⟩:=z;have C:=ZjE (λl=>∃r,ω l= .own hd (c::r)) us.hp g;have M:x_ (λl=>∃r,ω l= .own hd (c::r)) us.hp (mix (λl=>∃r,ω l= .own hd (c::r)) us.hp g):=by
     refine⟨C,λl hl=>Q2 hl,λl b G=>?_⟩;by_cases hs:∃r,ω l= .own hd (c::r)
     ·rw[Yx (h:=us.hp) hO.len hs];exact hO.Y_ l b G
     rw[Q2 hs];exact⟨b,G,rfl,rfl,rfl⟩
    have hO2:x_ (λl=>∃i es r,i<os.length/\Aa os i= .sl .own es/\ω l= .own hd ((c+1+i)::r)) (mix (λl=>∃r,ω l= .own hd (c::r)) us.hp g) g:=by
     refine⟨by rw[C];exact hO.len,λl hl=>?_,λl b G=>?_⟩
     ·by_cases hs:∃r,ω l= .own hd (c::r)
      ·rw[Yx (h:=us.hp) hO.len hs]
      rw[Q2 hs];refine hO.off l ?_;rintro⟨i,u,r,hi,D,Y⟩;cases i with
      |zero=>exact hs ⟨r,Y⟩
      |succ i=>exact hl ⟨i,u,r,by simpa using hi,D,by rw[Y,show c+(i+1)=c+1+i by omega]⟩
     by_cases hs:∃r,ω l= .own hd (c::r)
     ·rw[Yx (h:=us.hp) hO.len hs]at G;exact⟨b,G,rfl,rfl,rfl⟩
     rw[Q2 hs]at G;exact hO.Y_ l b G
    have hz:=hA 0 es0 (by simp) rfl;have hrm:RM g ω hd [c] (.sl .own es) (A (c+0)):=hr 0 (by simp);have tr:Tr0 g ω (mix (λl=>∃r,ω l= .own hd (c::r)) us.hp g) ω Ren.id (λl=>¬ ∃r,ω l= .own hd (c::r)):=by
     refine⟨λl e=>⟨e,?_⟩,λl a p e U=>⟨by rw[e];rfl,?_⟩⟩
     ·rw[Q2 (λ⟨r,O⟩=>by rw[e]at O;cases O)];exact(hO.off l (λ⟨i,u,r,_,_,O⟩=>by rw[e]at O;cases O)).symm
     exact Yx (h:=us.hp) hO.len (Classical.not_not.1 U)
    have I:RM (mix (λl=>∃r,ω l= .own hd (c::r)) us.hp g) ω hd [c] (.sl .own es) (A (c+0)):=hrm.imp (λr=>r.inn0 (f_:=hd) (p':=[c]) tr (λl r e U=>U ⟨r,e⟩) (λr=>rfl)) id;have R1:=R.mark1 J hg M (RC.hold J (X5 R hg) M I hz);refine RS.markL F ns os (c+1) _ { us with hp:=mix (λl=>∃r,ω l= .own hd (c::r)) us.hp g } g A R1 y hO2 (λi hi=>?_) (λi u hi D=>?_) z hK
    ·have:=hr (i+1) (by simpa using hi);rw[show c+(i+1)=c+1+i by omega]at this;exact this
    have:=hA (i+1) u (by simpa using hi) D;rw[show c+(i+1)=c+1+i by omega]at this;suffices hf:(Ak ρ st us X0 hd [c+1+i]).2=(Ak ρ (y_ st (.sl q es) hd [c]) { us with hp:=mix (λl=>∃r,ω l= .own hd (c::r)) us.hp g } X0 hd [c+1+i]).2 by rw[<- hf];exact this
    cases hd with
    |s t=>rfl
    |b i=>rfl
    |x i=>cases F
    | h j=>
      have hj:j<st.hp.length:=by
       refine Classical.byContradiction λU=>?_;have:Ao st.hp j=[]:=(by rw[Dx,BR (by omega)];rfl);have L:Aa (Ao st.hp j) c= .sl q e0:=hg;rw[this]at L;cases L
      have hp:=(R.hp j hj).1;show get (A6 us.hp (ρ j)) _=get (A6 (mix _ us.hp g) (ρ j)) _;unfold A6;rw[Q2 (by rintro⟨r,e⟩;rw[hp]at e;cases e)]
   have N:(∀q es,n≠.sl q es)/\ND os ns:=by
    unfold ND at y;split at y
    ·simp_all
    ·rename_i h1 _;cases h1;exact absurd ⟨_,rfl⟩ ho
    ·rename_i h1 h2;cases h1;cases h2;exact y
    simp_all
   have hS':Pu hd (c+1) ns K st:=by
    unfold Pu at z;split at z
    ·simp_all
    ·rename_i h1;cases h1;exact absurd rfl (N.1 _ _)
    rename_i h1;cases h1;exact z
   refine RS.markL F ns os (c+1) st us g A R N.2 (hO.mono ?_) (λi hi=>?_) (λi u hi D=>?_) hS' hK
   ·rintro l ⟨i,u,r,hi,D,Y⟩;cases i with
    |zero=>exact absurd ⟨u,D⟩ ho
    |succ i=>exact⟨i,u,r,by simpa using hi,D,by rw[Y,show c+(i+1)=c+1+i by omega]⟩
   ·have:=hr (i+1) (by simpa using hi);rw[show c+(i+1)=c+1+i by omega]at this;exact this
   have:=hA (i+1) u (by simpa using hi) D;rw[show c+(i+1)=c+1+i by omega]at this;exact this
theorem XE{st:PS}{hd:Hd}:∀ {AN as:List PV} {b:Nat},JJ st hd b AN as->AN.length=as.length/\∀i,i<AN.length ->
 (∃es g j,Aa AN i= .sl .own es/\Df st hd [b+i]= .sl j es/\(j= .own/\Aa as i= .sl (.i6 hd [b+i] true) g\/(∃w,j= .i5 w)/\Aa as i= .sl (.pre hd [b+i]) g)/\g.length=es.length)\/(Aa as i=Aa AN i/\(Aa AN i).flatc=true)
 |[],[],b,_=>⟨rfl,λi hi=>by simp at hi⟩
 |[],_::_,b,h=>h.elim
 |_::_,[],b,h=>by unfold JJ at h;split at h<;>simp_all
 | o :: os,a::as,b,h=>by
   have s:∀ {i:Nat} {P:Nat->Prop},P (b+1+i)->P (b+(i+1)):=λ{i P} h=>(by rw[show b+(i+1)=b+1+i by omega];exact h);cases o with
   | sl q es=>
     obtain⟨rfl,⟨j,z,g,h0,y⟩,x⟩:=h;obtain⟨u,t⟩:=XE x;refine⟨by simp[u],λi hi=>?_⟩;cases i with
     |zero=>exact .inl ⟨es,g,j,rfl,z,h0,y⟩
     |succ i=>exact s (P:=λn=>(∃es g j,Aa os i= .sl .own es/\Df st hd [n]= .sl j es/\(j= .own/\Aa as i= .sl (.i6 hd [n] true) g\/(∃w,j= .i5 w)/\Aa as i= .sl (.pre hd [n]) g)/\g.length=es.length)\/(Aa as i=Aa os i/\(Aa os i).flatc=true)) (t i (by simpa using hi))
   | _ =>
     all_goals
      obtain⟨z,y,x⟩:=h;obtain⟨u,t⟩:=XE x;refine⟨by simp[u],λi hi=>?_⟩;cases i with
      |zero=>exact .inr ⟨z,y⟩
      |succ i=>exact s (P:=λn=>(∃es g j,Aa os i= .sl .own es/\Df st hd [n]= .sl j es/\(j= .own/\Aa as i= .sl (.i6 hd [n] true) g\/(∃w,j= .i5 w)/\Aa as i= .sl (.pre hd [n]) g)/\g.length=es.length)\/(Aa as i=Aa os i/\(Aa os i).flatc=true)) (t i (by simpa using hi))
theorem Zdt{f:Bg}{M:PMk}(hs:JD f M)(R:RS h0 ω0 ω ρ st us X0){x y:T_}{d:Option Nat}{k:PS->Prop}{K:St->Prop}(Z:∀st us ω ρ,RS h0 ω0 ω ρ st us X0->k st->K us)(e:fW M x y d k st):(((match M.vd with|true=>[x]|false=>[x,y]):List T_).map (·.ev us.sl)).all V.ok1=true/\f (((match M.vd with|true=>[x]|false=>[x,y]):List T_).map (·.ev us.sl)) us.hp λr h=>K (St.put { us with hp:=h } d r):=by
 obtain⟨m,hd,b,AN,ey,O,hsb,d9,hC,hM⟩:=e;obtain⟨ey1,_⟩:=R.ev_fl ey (by simp);have I:M.vd=true\/M.vd=false:=by cases M.vd<;>simp
 refine⟨TE R (by rcases I with h|h<;>rw[h]<;>simp only[Cm,Nq,Ij,Aj]<;>first|exact⟨d9,trivial⟩|exact⟨d9,by rw[ey];rfl,trivial⟩),?_⟩;obtain⟨hl,hC⟩:=XE hC;obtain⟨hdx,_,g,A⟩:=R.ev x;have hcs:(if M.agg then x.ev us.sl= .agg (x.ev us.sl).cells else (x.ev us.sl).cells=[x.ev us.sl])/\(x.ev us.sl).cells.length=(x.t7 st.sl).cells.length /\
  ∀i,i<AN.length->∃q,RC us.hp ω (.at hdx q) (Aa (x.t7 st.sl).cells i) (get (x.ev us.sl).cells i):=by
  generalize x.t7 st.sl=v at O d9 hl g A;generalize x.ev us.sl=u at g A;cases v with
  | agg cs=>
    obtain⟨ws,rfl,D⟩:=g;refine⟨by rw[<- O];simp[PV.isAgg,V.cells],D,λi hi=>⟨[i],?_⟩⟩;exact A [i]
  |f8 vs=>cases d9
  | _ =>
    all_goals
     have hu:(∀us,u≠.agg us)/\∀us,u≠.f8 us:=by
      first
      |exact g
      |(rename_i z;cases z<;>first|exact g|(simp[PV.argok,PV.argc,V.flat]at d9))
     have G:u.cells=[u]:=(by cases u<;>first|rfl|exact absurd rfl (hu.1 _));refine⟨by rw[<- O,G];simp[PV.isAgg],by rw[G];rfl,λi hi=>⟨[0],?_⟩⟩;have hi0:i=0:=(by rw[hl]at hi;simp[PV.cells]at hi;exact hi);subst hi0;have:=A [0];rw[FX hu.1 hu.2]at this;rw[G];exact this
 obtain⟨hag,hcl,hcr⟩:=hcs;have t:∀i,i<AN.length->RM us.hp ω hd ([]++[b+i]) (Aa AN i) (get (x.ev us.sl).cells i)/\∀es,Aa AN i= .sl .own es->get (x.ev us.sl).cells i=(Ak ρ st us X0 hd [b+i]).2\/((get (x.ev us.sl).cells i).ln=0/\(Ak ρ st us X0 hd [b+i]).2.ln=0):=by
  intro i hi;obtain⟨q,s⟩:=hcr i hi;rcases hC i hi with⟨es,es',qh,h1,D,h3,N⟩|⟨h1,D⟩
  ·have rk:= X5 R D;rw[h1];rcases h3 with⟨rfl,h3⟩|⟨⟨w,rfl⟩,h3⟩
   ·rw[h3]at s;have F:get (x.ev us.sl).cells i=(Ak ρ st us X0 hd [b+i]).2:=by
     generalize get (x.ev us.sl).cells i=u1 at s;generalize (Ak ρ st us X0 hd [b+i]).2=u2 at rk;cases s with
     | nil=>
       have:es=[]:=Dq (by rw[<- N];rfl);subst this;cases rk with
       |nil=>rfl
       |sl _ _ _ l o n b' hb Z G f9=>exact absurd rfl (f9 rfl (.inl rfl))
     | sl _ _ _ l o n b1 hb Z G f9 hn hw hle hr=>
       have Y:es'≠[]:=f9 rfl (.inr ⟨_,_,rfl⟩);obtain⟨J,rfl⟩:=G.2 rfl;cases rk with
       |nil=>exact absurd (Dq N) Y
       | sl _ _ _ l' o' n' b2 hb2 hk2 hc2 hne2 hn2 hw2 hle2 hr2=>
         obtain⟨C,rfl,_⟩:=hc2;have:=R.core.inj l l' _ _ J C;subst this;rw[hn,hn2,N]
    refine⟨.inl ?_,λ_ _=>.inl F⟩;rw[F];exact rk.lay_inn rfl
   rw[h3]at s;generalize get (x.ev us.sl).cells i=u1 at s;generalize (Ak ρ st us X0 hd [b+i]).2=u2 at rk;have l1:=s.ln;have l2:=rk.ln;by_cases U:es.length=0
   ·refine⟨?_,λ_ _=>.inr ⟨by omega,by omega⟩⟩;have he:es=[]:=Dq U;subst he;cases s with
    |nil=>exact .inl (.nil _ _)
    |sl _ _ _ l o n=>exact .inr ⟨rfl,l,o,by rw[show n=0 from l1.trans N]⟩
   cases s with
   |nil=>exact absurd N.symm U
   | sl _ _ _ l o n b1 hb Z G f9 hn hw hle hr=>
     obtain⟨J,rfl⟩:=G;cases rk with
     |nil=>exact absurd rfl U
     | sl _ _ _ l' o' n' b2 hb2 hk2 hc2 hne2 hn2 hw2 hle2 hr2=>
       obtain⟨C,rfl,hc3,_⟩:=hc2;have:=R.core.inj l l' _ _ J C;subst this;refine⟨.inl (.sl _ _ _ _ _ _ b2 hb2 hk2 ⟨C,rfl,hc3⟩ (λ_ _ e=>U (by rw[e];rfl)) (by rw[hn,N]) hw2 hle2 hr2),λ_ _=>.inl (by rw[hn,hn2,N])⟩
  rw[h1]at s;generalize U:Aa AN i=o at s D;refine⟨.inl ?_,λes e=>by rw[e]at D;cases D⟩;cases o with
  | fl z=>
    cases s with
    |undef=>simp[PV.flatc,V.flat]at D
    |v _ _ hx=>exact .v _ _ hx
  |_=>cases D
 have ho:=hs us.hp ω hd [] b AN (x.ev us.sl).cells (x.ev us.sl) m _ (λr h=>K (St.put { us with hp:=h } d r)) R.core.inj hag (by rw[hcl,hl]) (λi hi=>(t i hi).1) hM λnews m' h' hK hnl hO hr=>?_
 ·unfold PMk.as at ho;rcases I with h|h<;>rw[h]at ho ⊢
  ·exact ho
  simp only[Cm,Nq,ey1];exact ho
 obtain⟨hN,hS⟩:=hK;refine RS.markL hsb news AN b st us h' (λj=>get (x.ev us.sl).cells (j-b)) R hN hO (λi hi=>?_) (λi es hi e=>?_) hS λf4 R' L=>?_
 ·rw[show b+i-b=i by omega];exact hr i hi
 ·rw[show b+i-b=i by omega];exact(t i hi).2 es e
 unfold PMk.rv;rcases I with h|h<;>rw[h]at L ⊢
 ·obtain⟨ω2,R2⟩:=(show RS _ _ _ _ _ _ (X1 (.fl .undef) .undef) by rw[Zhb];exact R').put d;exact Z _ _ _ _ R2 L
 obtain⟨ω2,R2⟩:=(R'.flat (x:=.int .i64 m') rfl).put d;exact Z _ _ _ _ R2 L
end
def e8(f:Bg)(T:PTk):Prop:=∀(h:Ac) (ω ω':Nat->W) (hd:Hd) (a:PV) (es:List (List PV)) (i g:V) (K:List Nat->Prop) (Q:V->Ac->Prop),
 (∀p,RC h ω (.at (.s 0) p) (a.S_ p) (i.S_ p))->A9 a i->RC h ω' (.at hd [0]) (.sl .own es) g->T.sel a es K ->
 (∀idx r H,K idx->h.length<=H.length->(∀l,l<h.length->H[l]?=h[l]?) ->
  (idx=[]/\r= .X_\/idx≠[]/\∃l' b l0 n0,g= .slice l0 0 n0/\h.length<=l'/\H[l']?=some b/\b.k= .own/\b.w=T.w/\r= .slice l' 0 idx.length/\idx.length*T.w<=b.cs.length /\
   ∀k c,k<idx.length->c<T.w->get b.cs (k*T.w+c)=get (A6 h l0) (idx.getD k 0*T.w+c))->Q r H)->f [i,g] h Q
def wh:List Nat->Nat->Option Nat
 |[],_=>none|i::r,j=>if i=j then some 0 else (wh r j).map (·+1)
theorem dO:∀ {l:List Nat} {j k:Nat},wh l j=some k->k<l.length/\l.getD k 0=j
 |[],_,_,h=>by cases h
 | i :: r,j,k,h=>by
   unfold wh at h;split at h
   ·rename_i e;cases h;exact⟨by simp,by simpa using e⟩
   cases b:wh r j with
   |none=>rw[b]at h;cases h
   | some k'=>
     rw[b]at h;simp only[Cw,Ap]at h;subst h;obtain⟨h1,g⟩:=dO b;exact⟨by simpa using h1,by simpa using g⟩
theorem sx:∀ {l:List Nat} {k:Nat},l.Pairwise (· < ·)->k<l.length->wh l (l.getD k 0)=some k
 |[],_,_,h=>by simp at h
 |i::r,0,_,_=>by simp[wh]
 | i::r,k+1,hp,h=>by
   rw[List.pairwise_cons]at hp;have b:k<r.length:=(by simpa using h);have hm:r.getD k 0∈r:=(by rw[C0,Bc b];exact Fc b);have g:i≠r.getD k 0:=(by have:=hp.1 _ hm;omega);show wh (i::r) (r.getD k 0)=_;unfold wh;rw[Ae g,sx hp.2 b];rfl
def Ren.tk(t w:Nat)(idx:List Nat):Ren:=λhd p=>if hd= .s t then (match p with
 | 0::j::r=>(match wh idx (j / w)with
   |some k=>.own (.x 0) (0::(k*w+j % w)::r)
   |none=>.Z_)
 |_=>.Z_)else if hd= .x 0 then .Z_ else .own hd p
theorem Ren.tk_still{t w:Nat}{idx:List Nat}{hd:Hd}(h1:hd≠.s t)(b:hd≠.x 0):(Ren.tk t w idx).still hd:=λp=>by simp[Ren.tk,h1,b]
theorem Ren.tk_cases(t w:Nat)(idx:List Nat)(hd:Hd)(p:List Nat):Ren.tk t w idx hd p= .Z_\/(hd≠.s t/\hd≠.x 0/\Ren.tk t w idx hd p= .own hd p) \/
 ∃j r k,hd= .s t/\p=0::j::r/\wh idx (j / w)=some k/\Ren.tk t w idx hd p= .own (.x 0) (0::(k*w+j % w)::r):=by
 unfold Ren.tk;split
 ·rename_i h;split
  ·rename_i j r;split
   ·rename_i k b;exact .inr (.inr ⟨j,r,k,h,rfl,b,rfl⟩)
   exact .inl rfl
  exact .inl rfl
 rename_i h;split
 ·exact .inl rfl
 rename_i g;exact .inr (.inl ⟨h,g,rfl⟩)
theorem Ren.tk_ok{t w:Nat}{idx:List Nat}(z:0<w):(Ren.tk t w idx).Ok:=by
 refine⟨λhd p f_ p' a c e b=>?_,λhd p=>?_⟩
 ·rcases Ren.tk_cases t w idx hd p with h|⟨h1,F,u⟩|⟨j,r,k,h1,F,u,D⟩
  ·rw[h]at e;cases e
  ·rw[u]at e;cases e;rcases Ren.tk_cases t w idx f_ p' with g|⟨A,x,n⟩|⟨i,r',y,A,x,n,G⟩
   ·rw[g]at b;cases b
   ·rw[n]at b;cases b;exact⟨rfl,rfl⟩
   rw[G]at b;cases b;exact absurd rfl F
  rw[D]at e;cases e;rcases Ren.tk_cases t w idx f_ p' with g|⟨A,x,n⟩|⟨i,r',y,A,x,n,G⟩
  ·rw[g]at b;cases b
  ·rw[n]at b;cases b;exact absurd rfl x
  rw[G]at b;simp only[W.own.injEq,GJ,GD]at b;obtain⟨N,M⟩:=b;have J:=Ii j z;have I:=Ii i z;have C:y=k:=by
   have R:(y*w+i % w) / w=y:=(by rw[LX,Nat.mul_add_div z,Nat.div_eq_of_lt I,Fg]);have O:(k*w+j % w) / w=k:=(by rw[LX,Nat.mul_add_div z,Nat.div_eq_of_lt J,Fg]);rw[<- R,<- O,N]
  subst C;have q:i % w=j % w:=(by omega);have s:j / w=i / w:=(by rw[<- (dO u).2,<- (dO n).2]);have L:j=i:=(by rw[<- O9 j w,<- O9 i w,s,q]);subst L;exact⟨by rw[h1,A],by rw[F,x,M]⟩
 rcases Ren.tk_cases t w idx hd p with h|⟨_,_,u⟩|⟨_,_,_,_,_,_,D⟩
 ·exact .inl h
 ·exact .inr ⟨_,_,u⟩
 exact .inr ⟨_,_,D⟩
theorem Ren.tk_hh{t w:Nat}{idx:List Nat}(hd:Hd)(p:List Nat)(i:Nat)(q:List Nat)(e:Ren.tk t w idx hd p= .own (.h i) q):hd= .h i:=by
 rcases Ren.tk_cases t w idx hd p with h|⟨_,_,g⟩|⟨_,_,_,_,_,_,b⟩
 ·rw[h]at e;cases e
 ·rw[g]at e;cases e;rfl
 rw[b]at e;cases e
section
variable {h0:Ac} {ω0 ω:Nat->W} {ρ ρ':Nat->Nat} {st f4 st1:PS} {us v_:St} {X X':CN}
theorem RS.tk1(R:RS h0 ω0 ω ρ st us X0){t w:Nat}{idx:List Nat}(z:0<w):RS h0 ω0 (λl=>Ag.ren (Ren.tk t w idx) (ω l)) ρ { st with sl:=clr (.s t) (BW st.sl t (.fl .undef)) } us X0:=by
 refine RS.ren (f4:={ st with sl:=clr (.s t) (BW st.sl t (.fl .undef)) }) (v_:=us) (X':=X0) R (Ren.tk_ok z) Ren.tk_hh (λhd p=>?_) rfl (λi=>?_) (λi=>Bf _) (by rw[F4,Gz];exact R.lsl) R.lbx R.lb R.cb R.ch rfl (λ_=>rfl)
 ·cases hd with
  |x i=>exact .inr (A4 (GK i p))
  |b i=>exact .inl (Bm rfl (λ_=>Ren.tk_still (by simp) (by simp)) λg q n e=>absurd e (R.nobor_b i p g q n))
  |h i=>exact .inl (Bm rfl (λ_=>Ren.tk_still (by simp) (by simp)) λg q n e=>absurd e (R.nobor_h i p g q n))
  | s i =>
    simp only[Ak,Fa];split
    ·exact .inr (Dn (Ba p))
    rename_i g;rw[El]at g ⊢;split
    ·exact .inr (Dn (Ba p))
    rename_i hi;rw[Ae hi]at g;by_cases j:i=t
    ·subst j;have C:¬i<st.sl.length:=λh=>hi ⟨rfl,h⟩;have u:Aa st.sl i= .fl .undef:=(by rw[D1,BR (by omega)];rfl);rw[u];exact .inr (Dn (Ba p))
    exact .inl (Bm rfl (λ_=>Ren.tk_still (by simp[j]) (by simp)) λA q n e y=>Ren.tk_still (Ef (by simpa using g) e) (y 0))
 rw[Fa];split
 ·exact Bf _
 rw[El];split
 ·exact Bf _
 exact R.sh i
theorem RS.grow (R:RS h0 ω0 ω ρ st us X0) {H:Ac} (G:us.hp.length<=H.length) (j:∀l,l<us.hp.length->H[l]?=us.hp[l]?) {ω2:Nat->W} (z:∀l,l<us.hp.length->ω2 l=ω l)
 (U:∀l,us.hp.length<=l->ω2 l= .none\/ω2 l= .own (.x 0) [0]/\(∃b,H[l]?=some b/\b.k= .own)/\∀l',ω2 l'= .own (.x 0) [0]->l'=l) {v:PV} {u:V} (hs:A9 v u)
 (hr:∀p,RC H ω2 (.at (.x 0) p) (v.S_ p) (u.S_ p)) (Z:∀p,Cs (v.S_ p)):RS h0 ω0 ω2 ρ st { us with hp:=H } (X1 v u):=by
 have M:∀ {l},ω l≠.none->l<us.hp.length:=λ{l} h=>by
  cases O:ω l with
  |none=>exact absurd O h
  |Z_=>exact R.core.lt l O
  |own a q=>obtain⟨b,D,_⟩:=R.core.kind l (.inl ⟨a,q,O⟩);exact BB D
  |ptr i=>obtain⟨b,D,_⟩:=R.core.kind l (.inr ⟨i,O⟩);exact BB D
 have g:∀ {l w},ω2 l=w->w≠.none->w≠.own (.x 0) [0]->l<us.hp.length/\ω l=w:=λ{l w} e h1 h2=>by
  rcases Bz l us.hp.length with h|h
  ·exact⟨h,by rw[<- z l h];exact e⟩
  rcases U l h with n|⟨n,_⟩
  ·exact absurd (e.symm.trans n) h1
  exact absurd (e.symm.trans n) h2
 have t:Tr0 us.hp ω H ω2 Ren.id (λ_=>False):=
  ⟨λl e=>by have h:=M (by rw[e];simp);exact⟨by rw[z l h,e],j l h⟩,λl hd p e _=>by have h:=M (by rw[e];simp);exact⟨by rw[z l h,e];rfl,j l h⟩⟩
 have y:∀l i,ω l= .ptr i->ω2 l= .ptr i:=λl i e=>by rw[z l (M (by rw[e];simp)),e]
 have hV:∀k,k<st.hp.length->A6 H (ρ k)=A6 us.hp (ρ k):=λk hk=>by
  simp only[A6];rw[j _ (M (by rw[(R.hp k hk).1];simp))]
 have C:∀hd p,(∀i,hd≠.x i)->Cs (Ak ρ st { us with hp:=H } (X1 v u) hd p).1/\RC H ω2 (.at hd p) (Ak ρ st { us with hp:=H } (X1 v u) hd p).1 (Ak ρ st { us with hp:=H } (X1 v u) hd p).2:=by
  intro hd p N;have F:Ak ρ st { us with hp:=H } (X1 v u) hd p=Ak ρ st us X0 hd p\/(Ak ρ st { us with hp:=H } (X1 v u) hd p).1= .fl .undef:=by
   cases hd with
   |x i=>exact absurd rfl (N i)
   |s i=>exact .inl rfl
   |b i=>exact .inl rfl
   | h i=>
     rcases Bz i st.hp.length with h|h
     ·left;simp only[Ak,hV i h]
     right;have hz:Ao st.hp i=[]:=(by rw[Dx,BR h];rfl);simp only[Ak,hz];unfold Be;split<;>rfl
  rcases F with e|e
  ·rw[e];exact⟨λi L y e=>R.nx hd p i L y e,(R.core.rc hd p).tr0 t (λ_=>⟨λ_ _ _=>id,λr=>rfl⟩) (λD L y _=>⟨λ_ _ _=>id,λ_ _=>rfl,Ren.still.soft λ_=>rfl⟩) (λl i o _ e=>y l i e)⟩
  exact A4 e
 have J:∀hd p,Cs (Ak ρ st { us with hp:=H } (X1 v u) hd p).1/\RC H ω2 (.at hd p) (Ak ρ st { us with hp:=H } (X1 v u) hd p).1 (Ak ρ st { us with hp:=H } (X1 v u) hd p).2:=by
  intro hd p;by_cases N:∃i,hd= .x i
  ·obtain⟨i,rfl⟩:=N;by_cases hi:i=0
   ·subst hi;exact⟨Z p,hr p⟩
   exact A4 (F9 i hi p)
  exact C hd p λi h=>N ⟨i,h⟩
 refine⟨⟨λhd p=>(J hd p).2,λl l' hd p e A=>?_,λl l' i e A=>?_,λl e=>?_,λl e=>?_⟩,R.sh,λi=>?_,R.lsl,R.lbx,R.lb,R.cb,R.ch,λi hi=>?_,λl i e=>?_,λl i p e=>?_,⟨CW R.fr.len G,λl Y e=>?_,λl Y e=>?_,λl i e=>y l i (R.fr.ptr l i e)⟩,λhd p i L y=>(J hd p).1 i L y⟩
 ·rcases Bz l us.hp.length with h|h
  ·rcases Bz l' us.hp.length with h'|h'
   ·exact R.core.inj l l' hd p (by rw[<- z l h];exact e) (by rw[<- z l' h'];exact A)
   rcases U l' h' with n|⟨n,_,e3⟩
   ·rw[n]at A;cases A
   rw[n]at A;cases A;exact e3 l e
  rcases U l h with n|⟨n,_,e3⟩
  ·rw[n]at e;cases e
  rw[n]at e;cases e;exact(e3 l' A).symm
 ·exact R.core.injp l l' i (g e (by simp) (by simp)).2 (g A (by simp) (by simp)).2
 ·rcases Bz l us.hp.length with h|h
  ·rw[z l h]at e;obtain⟨b,h1,h2⟩:=R.core.kind l e;exact⟨b,by show H[l]?=_;rw[j l h];exact h1,h2⟩
  rcases U l h with n|⟨_,D,_⟩
  ·rw[n]at e;rcases e with⟨_,_,e⟩|⟨_,e⟩<;>cases e
  exact D
 ·have:=(g e (by simp) (by simp)).1;show l<H.length;omega
 ·by_cases hi:i=0
  ·subst hi;exact hs
  rw[D6 _ _ i hi];exact Bf _
 ·exact⟨y _ _ (R.hp i hi).1,by rw[hV i hi];exact(R.hp i hi).2⟩
 ·exact R.bdp l i (g e (by simp) (by simp)).2
 ·exact R.bdh l i p (g e (by simp) (by simp)).2
 ·have I:l<us.hp.length:=Ih Y R.fr.len;obtain⟨a,b⟩:=R.fr.old l Y e;exact⟨by rw[j l I];exact a,by rw[z l I];exact b⟩
 exact R.fr.new l Y (g e (by simp) (by simp)).2
theorem Zht{w:Nat}{es:List (List PV)}(h:∀e∈es,e.length=w){i:Nat}(hi:i<es.length):(Bs es i).length=w:=by
 induction es generalizing i with
 |nil=>simp at hi
 | cons e r ih=>cases i with
   |zero=>exact h e (by simp)
   |succ i=>exact ih (λe b=>h e (by simp[b])) (by simpa using hi)
theorem TK{w:Nat}:∀ {es:List (List PV)},(∀e∈es,e.length=w)->∀ {k c:Nat},k<es.length->c<w->Aa es.flatten (k*w+c)=Aa (Bs es k) c
 |[],_,k,c,hk,_=>by simp at hk
 | e::r,h,0,c,_,hc=>by
   have b:=h e (by simp);rw[LW,BJ,Ig,D1,D1,Bp (by omega)];rfl
 | e::r,h,k+1,c,hk,hc=>by
   have b:=h e (by simp);have g:(k+1)*w+c=w+(k*w+c):=(by rw[D2];omega);rw[g,Ig,D1,Dj (by omega),<- D1];rw[show w+(k*w+c)-e.length=k*w+c by omega];exact TK (λe b=>h e (by simp[b])) (by simpa using hk) hc
theorem RS.takeT (R:RS h0 ω0 ω ρ st us X0) {t w:Nat} {es:List (List PV)} (ht:Aa st.sl t= .sl .own es) (Z:0<w) (hW:∀e∈es,e.length=w) {idx:List Nat} (hp:idx.Pairwise (· < ·)) (hi:∀i∈idx,i<es.length)
 {r:V} {H:Ac} (D:us.hp.length<=H.length) (n:∀l,l<us.hp.length->H[l]?=us.hp[l]?)
 (M:idx=[]/\r= .X_\/idx≠[]/\∃l' b l0 n0,get us.sl t= .slice l0 0 n0/\us.hp.length<=l'/\H[l']?=some b/\b.k= .own/\b.w=w/\r= .slice l' 0 idx.length/\idx.length*w<=b.cs.length /\
  ∀k c,k<idx.length->c<w->get b.cs (k*w+c)=get (A6 us.hp l0) (idx.getD k 0*w+c)):
 ∃ω',RS h0 ω0 ω' ρ { st with sl:=clr (.s t) (BW st.sl t (.fl .undef)) } { us with hp:=H } (X1 (.sl .own (idx.map (Bs es))) r):=by
 have R1:=R.tk1 (t:=t) (idx:=idx) Z;have g:∀p,p≠[0]->(PV.sl .own (idx.map (Bs es))).S_ p= .fl .undef:=by
  intro p hp
  match p with
  |[]=>rfl
  |[0]=>exact absurd rfl hp
  |(_+1)::_=>rfl
  |0::_::_=>rfl
 have O:∀p,Cs ((PV.sl .own (idx.map (Bs es))).S_ p):=by
  intro p i pb tp;by_cases h:p=[0]
  ·subst h;simp[PV.S_,PV.q]
  rw[g p h];simp[PV.q]
 rcases M with⟨rfl,rfl⟩|⟨f9,l',b,l0,n0,hv,hl',z,I,J,rfl,hcl,C⟩
 ·refine⟨_,R1.grow D n (ω2:=λl=>Ag.ren (Ren.tk t w []) (ω l)) (λ_ _=>rfl) (λl F=>.inl ?_) ⟨λ_ h=>(by cases h),λ_ h=>(by cases h)⟩ (λp=>?_) O⟩
  ·cases j:ω l with
   |none=>rfl
   |Z_=>have:=R.core.lt l j;omega
   |own a q=>obtain⟨b,z,_⟩:=R.core.kind l (.inl ⟨a,q,j⟩);have:=BB z;omega
   |ptr i=>obtain⟨b,z,_⟩:=R.core.kind l (.inr ⟨i,j⟩);have:=BB z;omega
  by_cases h:p=[0]
  ·subst h;exact .nil _ _
  rw[g p h];exact .undef _ _
 have N : ∀l,us.hp.length<=l->ω l= .none:=λl F=>by
  cases j:ω l with
  |none=>rfl
  |Z_=>have:=R.core.lt l j;omega
  |own a q=>obtain⟨b,z,_⟩:=R.core.kind l (.inl ⟨a,q,j⟩);have:=BB z;omega
  |ptr i=>obtain⟨b,z,_⟩:=R.core.kind l (.inr ⟨i,j⟩);have:=BB z;omega
 have hno:∀l,Ag.ren (Ren.tk t w idx) (ω l)≠.own (.x 0) [0]:=λl e=>by
  obtain⟨a,q,_,G⟩:=D0 e;rcases Ren.tk_cases t w idx a q with h|⟨_,h2,h3⟩|⟨_,_,_,_,_,_,h4⟩
  ·rw[h]at G;cases G
  ·rw[h3]at G;cases G;exact h2 rfl
  rw[h4]at G;cases G
 refine⟨_,R1.grow D n (ω2:=λl=>if l=l' then .own (.x 0) [0]else Ag.ren (Ren.tk t w idx) (ω l)) (λl F=>Ae (by omega)) (λl F=>?_) ⟨λ_ h=>(by cases h),λ_ h=>(by cases h)⟩ (λp=>?_) O⟩
 ·by_cases h:l=l'
  ·subst h;refine .inr ⟨Ad rfl,⟨b,z,I⟩,λl2 e=>?_⟩;split at e
   ·assumption
   exact absurd e (hno l2)
  left;simp only[Ae h,N l F];rfl
 by_cases h:p=[0]
 ·subst h;have hr:=R.core.rc (.s t) [0];simp only[Ak,ht,hv]at hr;have hr:RC us.hp ω (.at (.s t) [0]) (.sl .own es) (.slice l0 0 n0):=hr;cases hr with
  | sl _ _ _ _ _ _ b0 h1 hk0 hc0 hne0 hn0 hw0 hle0 hr0=>
    have hwb:b0.w=w:=by
     cases es with
     | nil=>cases idx with
       |nil=>exact absurd rfl f9
       |cons i r=>have:=hi i (by simp);simp at this
     |cons e r=>rw[<- hw0 e (by simp),hW e (by simp)]
    have bc:A6 us.hp l0=b0.cs:=(by simp only[A6,h1]);have y:(idx.map (Bs es)).length=idx.length:=(by simp);have Y:∀e∈idx.map (Bs es),e.length=w:=λe he=>by
     obtain⟨i,A,rfl⟩:=List.mem_map.1 he;exact Zht hW (hi i A)
    refine RC.sl _ .own _ l' 0 idx.length b z (by rw[I];simp) ⟨Ad rfl,rfl,I⟩ (λ_ _=>by simpa using f9) y.symm (λe he=>by rw[J];exact Y e he) (by rw[BJ,y,J];exact hcl) λq hq=>?_;rw[y,J]at hq;have hc:q % w<w:=Ii q Z;have u:q / w<idx.length:=(by rw[T9 Z];exact hq);have eq:q=q / w*w+q % w:=(by rw[LX];exact(O9 q w).symm);have U:idx.getD (q / w) 0∈idx:=(by rw[C0,Bc u];exact Fc u);have A:=hi _ U;have e1:Aa (idx.map (Bs es)).flatten q=Aa (Bs es (idx.getD (q / w) 0)) (q % w):=by
     have:=TK Y (k:=q / w) (c:=q % w) (by simpa using u) hc;rw[<- eq]at this;rw[this];congr 1;have:∀(l:List Nat) (k:Nat),k<l.length->Bs (l.map (Bs es)) k=Bs es (l.getD k 0):=by
      intro l;induction l with
      |nil=>intro k I;simp at I
      | cons a r ih=>intro k I;cases k with
        |zero=>rfl
        |succ k=>exact ih k (by simpa using I)
     exact this idx (q / w) u
    have G:get b.cs q=get b0.cs (idx.getD (q / w) 0*w+q % w):=by
     have:=C (q / w) (q % w) u hc;rw[<- eq,bc]at this;exact this
    have hq0:idx.getD (q / w) 0*w+q % w<es.length*b0.w:=by
     rw[hwb];have:(idx.getD (q / w) 0+1)*w<=es.length*w:=Hz w A;rw[D2]at this;omega
    have L:=hr0 _ hq0;rw[BJ]at L;rw[TK hW A hc]at L;rw[e1,BJ,G];have t0:Tr0 us.hp ω H (λl=>if l=l' then .own (.x 0) [0]else Ag.ren (Ren.tk t w idx) (ω l)) (Ren.tk t w idx) (λ_=>False):=by
     refine⟨λl e=>?_,λl hd p e _=>?_⟩
     ·have F:=R.core.lt l e;refine⟨?_,n l F⟩;simp only[Ae (show l≠l' by omega),e];rfl
     obtain⟨b2,hb2,_⟩:=R.core.kind l (.inl ⟨hd,p,e⟩);have F:=BB hb2;refine⟨?_,n l F⟩;simp only[Ae (show l≠l' by omega),e];rfl
    have L:RC us.hp ω (.inn (.s t) ([0]++[idx.getD (q / w) 0*w+q % w])) (Aa (Bs es (idx.getD (q / w) 0)) (q % w)) (get b0.cs (idx.getD (q / w) 0*w+q % w)):=L;refine RC.inn0 (f_:=.x 0) (p':=[0]++[q]) t0 (λ_ _ _=>id) (λr=>?_) L;have d1:(idx.getD (q / w) 0*w+q % w) / w=idx.getD (q / w) 0:=(by rw[LX,Nat.mul_add_div Z,Nat.div_eq_of_lt hc,Fg]);have d2:(idx.getD (q / w) 0*w+q % w) % w=q % w:=(by rw[LX,Nat.mul_add_mod,Nat.mod_mod]);show Ren.tk t w idx (.s t) (0::(idx.getD (q / w) 0*w+q % w)::r)= .own (.x 0) (0::q::r);unfold Ren.tk;simp only[AX,d1,d2,sx hp u];rw[<- eq]
 rw[g p h];exact .undef _ _
theorem Zfl {f:Bg} {T:PTk} (hs:e8 f T) (R:RS h0 ω0 ω ρ st us X0) {x y:T_} {d:Option Nat} {k:PS->Prop} {K:St->Prop} (L:∀st us ω ρ,RS h0 ω0 ω ρ st us X0->k st->K us)
 (G:(x.t7 st.sl).argok=true->(x.t7 st.sl).q_=false->∃ω1,(∀p,RC us.hp ω1 (.at (.s 0) p) ((x.t7 st.sl).fz.nrm.S_ p) ((x.ev us.sl).S_ p))/\A9 (x.t7 st.sl).fz.nrm (x.ev us.sl)) (e:gA T x y d k st):
 ([x,y].map (·.ev us.sl)).all V.ok1=true/\Rs us.bx .all f ([x,y].map (·.ev us.sl)) us.hp λr h=>K (St.put { us with hp:=h } d r):=by
 obtain⟨t,es,rfl,ht,u,D,M,J,g⟩:=e;have z:T_.t7 st.sl (.t t)= .sl .own es:=ht;refine⟨TE R (by simp only[Cm,Nq,Ij,u,z];rfl),λr h=>(∀l,l<us.hp.length->h[l]?=us.hp[l]?)/\K (St.put { us with hp:=h } d r),?_,λr h q=>q⟩;obtain⟨ω1,I,A⟩:=G u D;have C:=R.core.rc (.s t) [0];have i:(∀v_,get us.sl t≠.agg v_)/\∀v_,get us.sl t≠.f8 v_:=by have:=R.sh t;rw[ht]at this;exact this
 simp only[Ak,ht]at C;rw[show (get us.sl t).S_ [0]=get us.sl t from FX i.1 i.2]at C;refine hs us.hp ω1 ω (.s t) _ es _ (get us.sl t) _ _ I A C g λidx r H N n b j=>⟨b,?_⟩;obtain⟨⟨hp,hi⟩,F⟩:=N;obtain⟨ω2,U⟩:=R.takeT ht J ((Jl T.w es).1 M) hp hi n b j;obtain⟨ω3,O⟩:=U.put d;exact L _ _ _ _ O F
end
section
variable {h0:Ac} {ω0 ω:Nat->W} {ρ ρ':Nat->Nat} {st f4 st1:PS} {us v_:St} {X X':CN}
theorem ZjN(R:RS h0 ω0 ω ρ st us X0){hd s:Hd}{c:Nat}{q:List Nat}{es b:List (List PV)}{u:V}(C:Df st hd [c]= .sl .own es)(z:RC us.hp ω (.at s q) (.sl (.i6 hd [c] true) b) u)(t:b.length=es.length):u=(Ak ρ st us X0 hd [c]).2:=by
 have rk:=X5 R C;generalize (Ak ρ st us X0 hd [c]).2=u2 at rk;cases z with
 | nil=>
   have:es=[]:=Dq (by rw[<- t];rfl);subst this;cases rk with
   |nil=>rfl
   |sl _ _ _ l o n F D A y x=>exact absurd rfl (x rfl (.inl rfl))
 | sl _ _ _ l o n b1 D A y x hn hw hle hr=>
   have g:b≠[]:=x rfl (.inr ⟨_,_,rfl⟩);obtain⟨j,rfl⟩:=y.2 rfl;cases rk with
   |nil=>exact absurd (Dq t) g
   | sl _ _ _ l' o' n' b2 hb2 hk2 hc2 hne2 hn2 hw2 hle2 hr2=>
     obtain⟨i,rfl,_⟩:=hc2;have:=R.core.inj l l' _ _ j i;subst this;rw[hn,hn2,t]
theorem Zh9(s:List V)(t:Nat):put s t (get s t)=s:=by
 induction s generalizing t with
 |nil=>rfl
 | cons x r ih=>cases t with
   |zero=>rfl
   |succ t=>simp only[put,get];rw[ih]
theorem RS.reword {g:List PV} {ws:List V} (R:RS h0 ω0 ω ρ st us (X1 (.agg g) (.agg ws))) {AN:List PV} {u:V} {j:List V} (y:u= .agg j) (z:j.length=AN.length)
 (A:∀c,(Aa AN c=Aa g c/\get j c=get ws c)\/Cs (Aa AN c)/\RC us.hp ω (.at (.x 0) [c]) (Aa AN c) (get j c)):RS h0 ω0 ω ρ st us (X1 (.agg AN) u):=by
 subst y;have:=RS.ren (f4:=st) (v_:=us) (X':=X1 (.agg AN) (.agg j)) R Ren.id_ok (λhd p i q e=>by simp[Ren.id]at e;exact e.1) (λf_ p=>?_) rfl R.sh (λi=>?_) R.lsl R.lbx R.lb R.cb R.ch rfl (λ_=>rfl)
 ·rwa [DF]at this
 ·cases f_ with
  | x i =>
    by_cases hi:i=0
    ·subst hi;have n:Ak ρ st us (X1 (.agg AN) (.agg j)) (.x 0) p=((PV.agg AN).S_ p,(V.agg j).S_ p):=rfl;have D:Ak ρ st us (X1 (.agg g) (.agg ws)) (.x 0) p=((PV.agg g).S_ p,(V.agg ws).S_ p):=rfl;by_cases hp:∃c,p=[c]
     ·obtain⟨c,rfl⟩:=hp;rcases A c with⟨h1,C⟩|h1
      ·refine .inl (Bv ?_);rw[n,D];show (Aa AN c,get j c)=(Aa g c,get ws c);rw[h1,C]
      refine .inr ?_;rw[n];rw[DF];exact h1
     refine .inr ?_;rw[n];have:(PV.agg AN).S_ p= .fl .undef:=by
      rcases bA (v:=.agg AN) (by simp) p with h|h
      ·exact absurd h hp
      exact h
     exact Dn this
    exact .inr (A4 (F9 i hi p))
  |s t=>exact .inl (Bv rfl)
  |b t=>exact .inl (Bv rfl)
  |h t=>exact .inl (Bv rfl)
 by_cases hi:i=0
 ·subst hi;show A9 (.agg AN) (.agg j);exact⟨j,rfl,z⟩
 rw[D6 _ _ i hi];exact Bf _
theorem m9{st:PS}{hd:Hd}:∀ {AN news:List PV} {b:Nat},UF st hd b AN news->news.length=AN.length/\∀i,i<AN.length ->
 (Aa news i=Aa AN i/\∀es,Aa AN i= .sl .own es->∃g,Df st hd [b+i]= .sl .own g)\/∃w es j,(∃e,Aa AN i= .sl .own e)/\Df st hd [b+i]= .sl (.i5 w) es/\hd= .b j/\Aa news i= .sl (.i5 0) es
 |[],[],b,_=>⟨rfl,λi hi=>by simp at hi⟩
 |[],_::_,b,h=>h.elim
 |_::_,[],b,h=>h.elim
 | v :: r,n::ns,b,⟨h1,h2⟩=>by
   obtain⟨s,q⟩:=m9 h2;refine⟨by simp[s],λi hi=>?_⟩;cases i with
   |zero=>exact h1
   | succ i=>
     have:=q i (by simpa using hi);rw[show b+1+i=b+(i+1) by omega]at this;exact this
theorem ZeF(R:RS h0 ω0 ω ρ st us X0){a:T_}{t:Nat}{K:PS->Prop}(e:gg a t K st):∃ω' ρ' st1,RS h0 ω0 ω' ρ' st1 us X0/\K st1:=by
 obtain⟨hd,b,AN,news,st1,I,hag,hC,hF,hL,hK⟩:=e;obtain⟨hl,hC⟩:=XE hC;obtain⟨hnl,hF⟩:=m9 hF;have hsh:=R.sh t;have M:∀c,RC us.hp ω (.at (.s t) [c]) ((Aa st.sl t).S_ [c]) ((get us.sl t).S_ [c]):=λc=>R.core.rc (.s t) [c];cases hv:Aa st.sl t with
 | agg cs=>
   rw[hv]at hl hC hsh M;obtain⟨vs,hu,hvl⟩:=hsh;rw[hu]at M;have key:∃C ws ω' ρ',RS h0 ω0 ω' ρ' st1 us (X1 (.agg C) (.agg ws))/\(∀c q es,c<AN.length->Df st hd [b+c]= .sl q es->Aa C c= .sl q es/\get ws c=(Ak ρ st us X0 hd [b+c]).2)/\C.length=AN.length/\∀j,hd= .b j->∀l c p,c<AN.length->ω l= .own hd ((b+c)::p)->ω' l= .own (.x 0) (c::p):=by
    cases L:a.t7 st.sl with
    | box i o=>
      rw[L]at I hL;simp only[PV.hld,Ap,Aq]at I;obtain⟨rfl,rfl⟩:=I;simp only[YG,Ch]at hL;obtain⟨⟨w,s1⟩,h1,A⟩:=hL;simp only at A;subst A;have g:=h1;unfold Jq at g;simp only at g;split at g
      ·rename_i J;simp only[AX,Ee,Cw,Ap,Aq]at g;obtain⟨rfl,_⟩:=g;have U:=R.ev_box L;obtain⟨u,bx,hp,ω',ρ',D,k2,k3⟩:=oW (a:=a) R (by rw[L];exact h1);simp only[Af,U,GD]at D;split at D
       ·simp only[Jr,CS,Cw,Ap,Aq]at D;obtain⟨rfl,rfl,rfl⟩:=D;refine⟨_,_,ω',ρ',k2,λc q es y hg=>⟨?_,?_⟩,F3 (by simpa using J.2),λ_ _=>k3 rfl o L⟩
        ·rw[DY,Ad (by simpa using y)];exact hg
        rw[H6,Ad (by simpa using y)];rfl
       cases D
      cases g
    | ptr i o=>
      rw[L]at I hL;simp only[PV.hld,Ap,Aq]at I;obtain⟨rfl,rfl⟩:=I;simp only[YG,Ch]at hL;obtain⟨⟨w,s1⟩,h1,A⟩:=hL;simp only at A;subst A;have g:=h1;unfold Jp at g;simp only at g;split at g
      ·rename_i J;simp only[AX,Ee,Cw,Ap,Aq]at g;obtain⟨rfl,_⟩:=g;obtain⟨U,_⟩:=R.ev_ptr L;obtain⟨bk,hb1,G,Y⟩:=R.Y_ J.1;have hlen:(A6 us.hp (ρ i)).length=(Ao st.hp i).length:=(R.hp i J.1).2;have hrd:rd us.hp (ρ i) o AN.length=some (((A6 us.hp (ρ i)).drop o).take AN.length):=by
        simp[rd,hb1,G,Y];rw[<- Y,hlen];exact J.2
       obtain⟨u,bx,hp,ω',ρ',D,k2⟩:=pR (a:=a) R (by rw[L];exact h1);simp only[Af,U,Jr,hrd,CS,Cw,Jn,Ap,Aq]at D;obtain⟨rfl,rfl,rfl⟩:=D;refine⟨_,_,ω',ρ',k2,λc q es y hg=>⟨?_,?_⟩,F3 (by simpa using J.2),λ_ e=>by cases e⟩
       ·rw[DY,Ad (by simpa using y)];exact hg
       rw[H6,Ad (by simpa using y)];rfl
      cases g
    |_=>rw[L]at I;cases I
   obtain⟨C,ws,ω',ρ',R1,hown,hsl,hren⟩:=key;have R2:= R1.reword (AN:=news) hu (by rw[hvl,hnl,hl];rfl) λc=>by
    rcases Bz c AN.length with y|y
    ·have z:= M c;have hgv:(V.agg vs).S_ [c]=get vs c:=rfl;rw[hgv]at z;rcases hC c y with⟨es,es',qh,h1,A,h3,h4⟩|⟨h1,A⟩
     ·obtain⟨D,k2⟩:=hown c qh es y A;rcases hF c y with⟨F,Z⟩|⟨w,es2,j,F,Z,g3,g4⟩
      ·obtain⟨es0,Z⟩:=Z es h1;rw[A]at Z;cases Z;obtain⟨_,h3⟩:=h3.resolve_right (λ⟨⟨w,e⟩,_⟩=>by cases e);refine .inl ⟨by rw[F,h1,D],?_⟩;rw[k2];exact ZjN R A (by have e3:(PV.agg cs).S_ [c]= .sl (.i6 hd [b+c] true) es':=h3;rw[e3]at z;exact z) h4
      rw [A]at Z;cases Z;subst g3;obtain⟨_,h3⟩:=h3.resolve_left (λ⟨e,_⟩=>by cases e);rw[g4];refine .inr ⟨λi pb tp=>by simp[PV.q],?_⟩;have e3:(PV.agg cs).S_ [c]= .sl (.pre (.b j) [b+c]) es':=h3;rw[e3]at z;have O:RC us.hp ω' (.at (.x 0) [c]) (Aa C c) (get ws c):=R1.core.rc (.x 0) [c];rw[D,k2]at O;have rk:=X5 R A;generalize get vs c=u1 at z;generalize (Ak ρ st us X0 (.b j) [b+c]).2=u2 at O rk;cases z with
      | nil=>
        have:es=[]:=Dq (by rw[<- h4];rfl);subst this;exact .nil _ _
      | sl _ _ _ l o n b1 hb hk J f9 hn hw hle hr=>
        obtain⟨N,rfl⟩:=J;have hl2:=hren j rfl l c [] y N;obtain⟨b2,G,hk2⟩:=R.core.kind l (.inl ⟨_,_,N⟩);rw[hb]at G;cases G;by_cases hz:es=[]
        ·subst hz;have he':es'=[]:=Dq h4;subst he';exact .sl _ _ _ _ _ _ b1 hb hk ⟨hl2,rfl,hk2,λh=>absurd h (by omega)⟩ (λ_ h=>by simp at h) hn (λe he=>by cases he) (by simp) (λk hk=>by simp at hk)
        cases rk with
        |nil=>exact absurd rfl hz
        | sl _ _ _ l' o' n' b3 Y hk3 hc3 hne3 hn3 hw3 hle3 hr3=>
          obtain⟨hl3,rfl,_⟩:=hc3;have:=R.core.inj l l' _ _ N hl3;subst this;cases O with
          | sl _ _ _ _ _ _ b4 hb4 hk4 hc4 hne4 hn4 hw4 hle4 hr4=>
            have:n=n':=(by rw[hn,hn3,h4]);subst this;exact .sl _ _ _ _ _ _ b4 hb4 hk4 ⟨hc4.1,hc4.2.1,hc4.2.2.1,λh=>absurd h (by omega)⟩ (λ_ h=>by simp at h) hn4 hw4 hle4 hr4
     have F:Aa news c=Aa AN c:=by
      rcases hF c y with⟨F,_⟩|⟨w,es2,j,F,_⟩
      ·exact F
      obtain⟨e,F⟩:=F;rw[F]at A;cases A
     have e3:(PV.agg cs).S_ [c]=Aa AN c:=h1;rw[e3]at z;rw[F];generalize Aa AN c=o at z A;cases o with
     | fl x=>
       refine .inr ⟨λi pb tp=>by simp[PV.q],?_⟩;cases z with
       |undef=>exact .undef _ _
       |v _ _ hx=>exact .v _ _ hx
     |_=>cases A
    have:Aa news c= .fl .undef:=GC _ _ (by omega);rw[this];exact .inr ⟨λi pb tp=>by simp[PV.q],.undef _ _⟩
   obtain⟨ω2,R3⟩:=R2.put (some t);refine⟨ω2,ρ',_,?_,hK⟩;have e4:us.put (some t) (get us.sl t)=us:=by
    show { us with sl:=put us.sl t (get us.sl t) }=us;rw[Zh9]
   rw[e4]at R3;exact R3
 |_=>rw[hv]at hag;cases hag
theorem dY(l:List PV)(c:Nat):Aa (PV.fzL l) c=(Aa l c).fz:=by
 induction l generalizing c with
 |nil=>rfl
 | cons v r ih=>cases c with
   |zero=>rfl
   |succ c=>exact ih c
theorem oM(l:List PV):(PV.fzL l).length=l.length:=by
 induction l with
 |nil=>rfl
 |cons v r b=>simp only[PV.fzL,A0,b]
theorem qL{v:PV}(h:v.lay=true):v.fz.lay=true:=by
 cases v with
 |fl _=>rfl
 |sl q es=>rfl
 |_=>cases h
theorem ZeS(R:RS h0 ω0 ω ρ st us X0){a:PV}(e:UJ a st=some st1):∃ω',RS h0 ω0 ω' ρ st1 us X0:=by
 have D:∀(hd:Hd) (f4:PS),(∀t,hd≠.s t)->(∀t,hd≠.x t)->f4.sl=clr hd st.sl->(∀f_ p,f_≠hd->(∀t,f_≠.s t)->Ak ρ f4 us X0 f_ p=Ak ρ st us X0 f_ p) ->
  (∀p,(Ak ρ f4 us X0 hd p).2=(Ak ρ st us X0 hd p).2/\((Ak ρ f4 us X0 hd p).1=(Ak ρ st us X0 hd p).1.fz\/(Ak ρ f4 us X0 hd p).1= .fl .undef))->(∀p,(Ak ρ st us X0 hd p).1.lay=true) ->
  f4.bx.length=st.bx.length->(∀i,(Ao f4.bx i).length=(Ao st.bx i).length)->(∀i c,(Aa (Ao f4.bx i) c).lay=true)->(∀i c,(Aa (Ao f4.hp i) c).lay=true) ->
  f4.hp.length=st.hp.length->(∀i,(Ao f4.hp i).length=(Ao st.hp i).length)->∃ω',RS h0 ω0 ω' ρ f4 us X0:=by
  intro hd f4 N n2 u j I A Z Y c1 c2 U O;refine⟨_,RS.ren (f4:=f4) (v_:=us) (X':=X0) R (Ren.drop_ok hd) TS (λf_ p=>?_) rfl (λt=>?_) (λi=>Bf _) (by rw[u,F4];exact R.lsl) (by rw[Z];exact R.lbx) (λi=>by rw[Y];exact R.lb i) c1 c2 U O⟩
  ·by_cases h:f_=hd
   ·subst h;obtain⟨e2,F⟩:=I p;refine .inr ?_;rcases F with F|F
    ·have G:=A p;have L:=R.core.rc f_ p;rw[F,e2];generalize (Ak ρ st us X0 f_ p).1=v at G L;refine⟨λi z y e=>?_,RC.fzo (λl e=>by simp[e,Ag.ren]) (λl q e=>by simp[e,Ag.ren,Ren.drop]) (λl i e=>by simp[e,Ag.ren]) L (C3 G) (Ue G).1 (Ue G).2⟩;cases v<;>simp[PV.fz,PV.q]at e
    exact A4 F
   cases f_ with
   |x i=>exact .inr (A4 (GK i p))
   | s t=>
     simp only[Ak,u,Fa];split
     ·exact .inr (Dn (Ba p))
     rename_i C;exact .inl (Bm rfl (λ_=>Ren.i7 (λh=>N t h.symm)) λhb' z y e _=>Ren.i7 (Ef (by simpa using C) e))
   | b t=>
     rw[j _ p h (by simp)];exact .inl (Bm rfl (λ_=>Ren.i7 h) λC z y e=>absurd e (R.nobor_b t p C z y))
   | h t=>
     rw[j _ p h (by simp)];exact .inl (Bm rfl (λ_=>Ren.i7 h) λC z y e=>absurd e (R.nobor_h t p C z y))
  rw[u,Fa];split
  ·exact Bf _
  exact R.sh t
 have g:∀(x:List (List PV)) (i k:Nat),Ao (Cf x i (PV.fzL (Ao x i))) k=if k=i then PV.fzL (Ao x i)else Ao x k:=by
  intro x i k;rw[J4];by_cases M:k=i
  ·subst M;rcases Bz k x.length with h|h
   ·simp[h]
   rw[Ae (by omega),Ad rfl];have:Ao x k=[]:=(by rw[Dx,BR h];rfl);rw[this];rfl
  simp[M]
 have n:∀(l:List PV) (ws:List V) (p:List Nat),(Be (PV.fzL l) ws p).2=(Be l ws p).2/\((Be (PV.fzL l) ws p).1=(Be l ws p).1.fz\/(Be (PV.fzL l) ws p).1= .fl .undef):=by
  intro l ws p;unfold Be;split
  ·exact⟨rfl,.inl (dY _ _)⟩
  exact⟨rfl,.inr rfl⟩
 unfold UJ at e;split at e
 ·rename_i i o;simp only[Ap]at e;subst e;refine D (.b i) _ (by simp) (by simp) rfl (λf_ p h h'=>?_) (λp=>?_) (λp=>Hc (R.cb i) p) (HY _ _ _) (λk=>?_) (λk c=>?_) R.ch rfl (λ_=>rfl)
  ·cases f_ with
   |b k=>simp only[Ak,g];rw[Ae (λJ=>h (by rw[J]))]
   |s t=>exact absurd rfl (h' t)
   |_=>rfl
  ·simp only[Ak,g,Ad];exact n _ _ p
  ·simp only[g];split
   ·rename_i h;rw[h,oM]
   rfl
  simp only[g];split
  ·rw[dY];exact qL (R.cb i c)
  exact R.cb k c
 ·rename_i i o;simp only[Ap]at e;subst e;refine D (.h i) _ (by simp) (by simp) rfl (λf_ p h h'=>?_) (λp=>?_) (λp=>Hc (R.ch i) p) rfl (λ_=>rfl) R.cb (λk c=>?_) (HY _ _ _) (λk=>?_)
  ·cases f_ with
   |h k=>simp only[Ak,g];rw[Ae (λJ=>h (by rw[J]))]
   |s t=>exact absurd rfl (h' t)
   |_=>rfl
  ·simp only[Ak,g,Ad];exact n _ _ p
  ·simp only[g];split
   ·rw[dY];exact qL (R.ch i c)
   exact R.ch k c
  simp only[g];split
  ·rename_i h;rw[h,oM]
  rfl
 cases e
end
section
variable {h0:Ac} {ω0 ω:Nat->W} {ρ ρ':Nat->Nat} {st f4 st1:PS} {us v_:St} {X X':CN}
theorem ZhR(n:Nat)(s:List PV):(clrP n s).length=s.length:=by
 induction s with
 |nil=>rfl
 |cons x r b=>simp[clrP,b]
theorem cJ(m:Nat)(s:List PV)(n:Nat):Aa (clrP m s) n=if ((Aa s n).isH||(Aa s n).pge m)=true then .fl .undef else Aa s n:=by
 induction s generalizing n with
 |nil=>rw[show Aa (clrP m []) n= .fl .undef from rfl,show Aa [] n= .fl .undef from rfl];split<;>rfl
 | cons x r ih=>cases n with
   |zero=>rfl
   |succ n=>exact ih n
theorem XR{m:Nat}:∀ {cs:List PV} {c:Nat},PV.pgeL m cs=false->(Aa cs c).pge m=false
 |[],_,_=>rfl
 |x::r,0,h=>by simp only[PV.pgeL,Cl]at h;exact h.1
 |x::r,c+1,h=>by simp only[PV.pgeL,Cl]at h;exact XR (cs:=r) h.2
theorem Zf6{m:Nat}{v:PV}(h:v.pge m=false)(c:Nat):(Aa v.cells c).pge m=false:=by
 cases v with
 |agg cs=>exact XR (cs:=cs) h
 |_=>cases c<;>first|exact h|rfl
theorem Zh2{m:Nat}{v:PV}(h:v.pge m=false)(p:List Nat){i o:Nat}(e:v.S_ p= .ptr i o):i<m:=by
 have b:∀ {w:PV},w.pge m=false->w= .ptr i o->i<m:=by
  rintro w h rfl;simp only[PV.pge]at h;exact Nat.lt_of_not_le λg=>by rw[Nat.ble_eq_true_of_le g]at h;cases h
 unfold PV.S_ at e;split at e
 ·exact b (XR h) e
 ·cases e
 ·exact b (Zf6 (XR h) _) e
 ·cases e
 ·exact b h e
 cases e
def Ren.cut(n:Nat):Ren:=λhd p=>match hd with
 |.h i=>if n<=i then .Z_ else .own hd p|_=>.own hd p
theorem Ren.cut_to(n:Nat)(hd:Hd)(p:List Nat):Ren.cut n hd p= .own hd p\/(Ren.cut n hd p= .Z_/\∃i,hd= .h i/\n<=i):=by
 unfold Ren.cut;split
 ·rename_i i;split
  ·rename_i h;exact .inr ⟨rfl,i,rfl,h⟩
  exact .inl rfl
 exact .inl rfl
theorem Ren.cut_still{n:Nat}{hd:Hd}(h:∀i,hd= .h i->i<n):(Ren.cut n).still hd:=λp=>by
 rcases Ren.cut_to n hd p with e|⟨_,i,rfl,hi⟩
 ·exact e
 have:=h i rfl;omega
def Kv(n:Nat):W->W
 |.ptr i=>if n<=i then .none else .ptr i|w=>ren (Ren.cut n) w
theorem XS{n:Nat}{w:W}{hd:Hd}{p:List Nat}(e:Kv n w= .own hd p):w= .own hd p/\∀i,hd= .h i->i<n:=by
 cases w with
 | own a q=>
   have e:Ren.cut n a q= .own hd p:=e;rcases Ren.cut_to n a q with b|⟨b,_⟩
   ·rw[b]at e;cases e;refine⟨rfl,λi hi=>?_⟩;subst hi;unfold Ren.cut at b;simp only at b;split at b
    ·cases b
    omega
   rw[b]at e;cases e
 |ptr i=>simp only[Kv]at e;split at e<;>cases e
 |_=>cases e
theorem XO{n:Nat}{w:W}{i:Nat}(e:Kv n w= .ptr i):w= .ptr i/\i<n:=by
 cases w with
 | own a q=>
   have e:Ren.cut n a q= .ptr i:=e;rcases Ren.cut_to n a q with b|⟨b,_⟩<;>rw[b]at e<;>cases e
 | ptr j=>
   simp only[Kv]at e;split at e
   ·cases e
   cases e;exact⟨rfl,by omega⟩
 |_=>cases e
theorem RS.trunc(R:RS h0 ω0 ω ρ st us X0){n:Nat}(hn:∀l i,ω0 l= .ptr i->i<n):∃ω',RS h0 ω0 ω' ρ (st.trunc n) us X0:=by
 have t:Tr0 us.hp ω us.hp (λl=>Kv n (ω l)) (Ren.cut n) (λ_=>False):=
  ⟨λl e=>⟨by rw[e];rfl,rfl⟩,λl hd p e _=>⟨by rw[e];rfl,rfl⟩⟩
 have N:∀l i,i<n->ω l= .ptr i->Kv n (ω l)= .ptr i:=λl i hi e=>by rw[e];simp only[Kv];rw[Ae (by omega)]
 have L:∀i,i<n->Ao (st.hp.take n) i=Ao st.hp i:=λi hi=>by rw[Dx,Dx,OV hi]
 have F:∀i,n<=i->Ao (st.hp.take n) i=[]:=λi hi=>by rw[Dx,BR (by rw[C9];omega)];rfl
 have Z:∀i p,n<=i->(Ak ρ (st.trunc n) us X0 (.h i) p).1= .fl .undef:=λi p hi=>by
  simp only[Ak,PS.trunc,F i hi];unfold Be;split<;>rfl
 refine⟨λl=>Kv n (ω l),⟨λhd p=>?_,λl l' hd p e J=>R.core.inj l l' hd p (XS e).1 (XS J).1,λl l' i e J=>R.core.injp l l' i (XO e).1 (XO J).1,λl e=>?_,λl e=>?_⟩,λM=>?_,λi=>Bf _,by simp only[PS.trunc,ZhR];exact R.lsl,R.lbx,R.lb,R.cb,λi c=>?_,λi hi=>?_,λl i e=>?_,λl i p e=>?_,⟨R.fr.len,λl G e=>?_,λl G e=>?_,λl i e=>N l i (hn l i e) (R.fr.ptr l i e)⟩,λhd p i z y=>?_⟩
 ·cases hd with
  |x i=>rw[GK];exact .undef _ _
  | b i=>
    exact(R.core.rc (.b i) p).tr0 t (λ_=>⟨λ_ _ _=>id,λr=>rfl⟩) (λg z y e=>absurd e (R.nobor_b i p g z y)) (λl j o e=>by
     have:=Hc (R.cb i) (ws:=A3 us.bx i) p;rw[show (Be (Ao st.bx i) (A3 us.bx i) p).1= .ptr j o from e]at this;cases this)
  | h i =>
    rcases Bz i n with hi|hi
    ·have Y:Ak ρ (st.trunc n) us X0 (.h i) p=Ak ρ st us X0 (.h i) p:=(by simp only[Ak,PS.trunc,L i hi]);rw[Y];exact(R.core.rc (.h i) p).tr0 t (λ_=>⟨λ_ _ _=>id,λr=>Ren.cut_still (λj e=>by cases e;exact hi) _⟩) (λg z y e=>absurd e (R.nobor_h i p g z y)) (λl j o e=>by
      have:=Hc (R.ch i) (ws:=A6 us.hp (ρ i)) p;rw[show (Be (Ao st.hp i) (A6 us.hp (ρ i)) p).1= .ptr j o from e]at this;cases this)
    rw[Z i p hi];exact .undef _ _
  | s i =>
    simp only[Ak,PS.trunc,cJ];split
    ·rw[Ba];exact .undef _ _
    rename_i g;have g:((Aa st.sl i).isH||(Aa st.sl i).pge n)=false:=(by simpa using g);rw[Cl]at g;have nh:=oq g.1 p;exact(R.core.rc (.s i) p).tr0 t (λ_=>⟨λ_ _ _=>id,λr=>rfl⟩) (λU z y e=>by
     have f4:(Ren.cut n).still U:=Ren.cut_still λj J=>(by subst J;exact absurd e (nh j z y));exact⟨λ_ _ _=>id,λ_=>f4,f4.soft⟩) (λl j o e h=>N l j (Zh2 g.2 p e) h)
 ·refine R.core.kind l ?_;rcases e with⟨hd,p,e⟩|⟨i,e⟩
  ·exact .inl ⟨hd,p,(XS e).1⟩
  exact .inr ⟨i,(XO e).1⟩
 ·cases A:ω l with
  |Z_=>exact R.core.lt l A
  |own a q=>obtain⟨b,g,_⟩:=R.core.kind l (.inl ⟨a,q,A⟩);exact BB g
  |ptr i=>obtain⟨b,g,_⟩:=R.core.kind l (.inr ⟨i,A⟩);exact BB g
  |none=>simp only[A,Kv,ren]at e;cases e
 ·simp only[PS.trunc,cJ];split
  ·exact Bf _
  exact R.sh M
 ·simp only[PS.trunc];rcases Bz i n with hi|hi
  ·rw[L i hi];exact R.ch i c
  rw[F i hi];rfl
 ·simp only[PS.trunc,C9]at hi ⊢;have I:i<n:=(by omega);obtain⟨C,D⟩:=R.hp i (by omega);exact⟨N _ i I C,by rw[L i I];exact D⟩
 ·obtain⟨C,D⟩:=XO e;have:=R.bdp l i C;simp only[PS.trunc,C9];omega
 ·obtain⟨C,D⟩:=XS e;have:=R.bdh l i p C;have:=D i rfl;simp only[PS.trunc,C9];omega
 ·obtain⟨C,D⟩:=R.fr.old l G e;refine⟨C,?_⟩;rw[D];rcases e with e|e<;>rw[e]<;>rfl
 ·cases A:ω l with
  |Z_=>exact R.fr.new l G A
  |none=>simp only[A,Kv,ren]at e;cases e
  | own a q=>
    intro u;have:=(R.fr.old l G (.inr u)).2;rw[A,u]at this;cases this
  | ptr i=>
    intro u;have:=(R.fr.old l G (.inr u)).2;rw[A,u]at this;cases this
 cases hd with
 |x j=>rw[GK];simp[PV.q]
 |b j=>exact R.nx (.b j) p i z y
 | h j=>
   rcases Bz j n with O|O
   ·have Y:Ak ρ (st.trunc n) us X0 (.h j) p=Ak ρ st us X0 (.h j) p:=(by simp only[Ak,PS.trunc,L j O]);rw[Y];exact R.nx (.h j) p i z y
   rw[Z j p O];simp[PV.q]
 | s M=>
   simp only[Ak,PS.trunc,cJ];split
   ·rw[Ba];simp[PV.q]
   exact R.nx (.s M) p i z y
end
theorem ZjV{l l':List PV}(b:l.length=l'.length)(h:∀t,Aa l t=Aa l' t):l=l':=by
 apply YB b;intro t h1 g;have:=h t;rwa [D1,D1,Bc h1,Bc g]at this
def cS(d:Nat)(v:PV):PV:=if v.i6 (.s d)then .fl .undef else v
def HL(d:Nat)(v:PV)(l:List PV):List PV:=clr (.s d) (BW l d v)
theorem de(d:Nat)(v:PV)(l:List PV):(HL d v l).length=l.length:=by simp[HL,F4,Gz]
theorem OE{d:Nat}{v:PV}(b:v.i6 (.s d)=false)(l:List PV)(t:Nat):Aa (HL d v l) t=if t=d/\d<l.length then v else cS d (Aa l t):=by
 unfold HL cS;rw[Fa,El];split
 ·rw[b];rfl
 rfl
theorem oQ(d:Nat):cS d (.fl .undef)= .fl .undef:=by unfold cS;split<;>rfl
theorem F5(a b:Nat)(v:PV):cS a (cS b v)=cS b (cS a v):=by
 unfold cS;by_cases h1:v.i6 (.s a)=true<;>by_cases g:v.i6 (.s b)=true<;>simp[h1,g,PV.i6]
theorem UB{d:Nat}{v:PV}(h:v.i6 (.s d)=false):cS d v=v:=by unfold cS;rw[h];rfl
def IB(s:Nat)(l:List PV):List PV:=if (Aa l s).own then HL s (.fl .undef) l else l
theorem eE(s:Nat)(l:List PV):(IB s l).length=l.length:=by unfold IB;split;exact de _ _ _;rfl
theorem Yo(s:Nat)(l:List PV)(t:Nat):Aa (IB s l) t=if (Aa l s).own then (if t=s/\s<l.length then .fl .undef else cS s (Aa l t))else Aa l t:=by
 unfold IB;split
 ·rw[OE rfl]
 rfl
theorem bF{v:PV}(h:BV v.cells=true)(hd:Hd):v.i6 hd=false:=by
 have b:∀ {x:PV},x.cell=true->x.i6 hd=false:=by
  intro x i;cases x with
  |sl q es=>cases q<;>first|rfl|cases i
  |fl a=>rfl
  |_=>cases i
 have g:∀ {cs:List PV},BV cs=true->PV.borL hd cs=false:=by
  intro cs;induction cs with
  |nil=>intro _;rfl
  | cons x r ih=>
    intro h;simp only[BV,Aj]at h;simp only[PV.borL,b h.1,ih h.2,Bool.or_false]
 cases v with
 |agg cs=>exact g h
 |f8 j=>simp[PV.cells,BV,PV.cell]at h
 |_=>simp only[PV.cells,BV,Aj]at h;exact b h.1
theorem fK{s:Nat}{st:PS}(h:(Aa st.sl s).i6 (.s s)=false):Ag.f' (.t s) st=(Aa st.sl s,{ st with sl:=IB s st.sl }):=by
 simp only[Ag.f',Gm,IB,HL];split
 ·rw[h];rfl
 rfl
theorem Zhu{cs cs':List PV}{off g s:Nat}{st f4:PS}(h:EX cs [(off,g,.t s)] st=some (cs',f4)):(Aa st.sl s).cells.length=g/\off+g<=cs.length/\BV (Aa st.sl s).cells=true/\cs'=AY cs off (Aa st.sl s).cells/\f4={ st with sl:=IB s st.sl }:=by
 unfold EX at h;split at h
 ·rename_i j;obtain⟨h1,n,b⟩:=j;have i:(Aa st.sl s).i6 (.s s)=false:=by
   cases i:(Aa st.sl s).i6 (.s s)with
   |false=>rfl
   | true=>
     simp only[Ag.f',Gm]at b;split at b
     ·simp[PV.cells,BV,PV.cell,V.flat]at b
     have:=bF b (.s s);rw[i]at this;cases this
  rw[fK i]at h1 b h;simp only[EX,Ap,Aq]at h;exact⟨h1,n,b,h.1.symm,h.2.symm⟩
 cases h
theorem Zi7{cs:List PV}{off b s:Nat}{st:PS}(h1:(Aa st.sl s).cells.length=b)(j:off+b<=cs.length)(g:BV (Aa st.sl s).cells=true):EX cs [(off,b,.t s)] st=some (AY cs off (Aa st.sl s).cells,{ st with sl:=IB s st.sl }):=by
 have i:=bF g (.s s);unfold EX;rw[fK i];simp only;rw[Ad ⟨h1,j,g⟩];rfl
def HN(y:Nat)(l:List PV):List PV:=match Aa l y with
 |.sl .own _=>IB y l|_=>l
theorem ZkO{w y:Nat}{st f4:PS}{u:List (List PV)}(h:FG w (.t y) st=some (u,f4)):f4={ st with sl:=HN y st.sl }/\Aa st.sl y≠.fl .undef/\∀b:PS,Aa b.sl y=Aa st.sl y->FG w (.t y) b=some (u,{ b with sl:=HN y b.sl }):=by
 unfold FG at h;simp only[T_.t7]at h;have g:∀(b:PS) (v:PV),Aa b.sl y=v->(∀es,v≠.sl .own es)->HN y b.sl=b.sl:=by
  intro b v j x;unfold HN;rw[j];cases v with
  |sl q es=>cases q<;>first|rfl|exact absurd rfl (x es)
  |_=>rfl
 split at h
 ·rename_i s j;split at h
  ·rename_i n;simp only[Ap,Aq]at h;obtain⟨rfl,rfl⟩:=h;refine⟨by rw[g _ _ j (by simp)],by rw[j];simp,λb i=>?_⟩;rw[j]at i;unfold FG;simp only[T_.t7,i,Ad n,g _ _ i (by simp)]
  cases h
 ·rename_i es j;split at h
  ·rename_i n;simp only[Ap,Aq]at h;obtain⟨rfl,rfl⟩:=h;refine⟨by rw[g _ _ j (by simp)],by rw[j];simp,λb i=>?_⟩;rw[j]at i;unfold FG;simp only[T_.t7,i,Ad n,g _ _ i (by simp)]
  cases h
 ·rename_i j;split at h
  ·rename_i n;simp only[Ap,Aq]at h;obtain⟨rfl,rfl⟩:=h;refine⟨by rw[g _ _ j (by simp)],by rw[j];simp,λb i=>?_⟩;rw[j]at i;unfold FG;simp only[T_.t7,i,Ad n,g _ _ i (by simp)]
  cases h
 ·rename_i j;split at h
  ·rename_i n;simp only[Ap,Aq]at h;obtain⟨rfl,rfl⟩:=h;refine⟨by rw[g _ _ j (by simp)],by rw[j];simp,λb i=>?_⟩;rw[j]at i;unfold FG;simp only[T_.t7,i,Ad n,g _ _ i (by simp)]
  cases h
 ·rename_i es j;split at h
  ·rename_i n;have hm:∀b:PS,Aa b.sl y= .sl .own es->(Ag.f' (.t y) b).2={ b with sl:=HN y b.sl }:=by
    intro b i;rw[fK (by rw[i];rfl)];unfold HN;rw[i]
   simp only[Ap,Aq]at h;obtain⟨rfl,rfl⟩:=h;refine⟨hm _ j,by rw[j];simp,λb i=>?_⟩;rw[j]at i;unfold FG;simp only[T_.t7,i,Ad n];rw[hm b i]
  cases h
 ·rename_i j;simp only[Ap,Aq]at h;obtain⟨rfl,rfl⟩:=h;refine⟨by rw[g _ _ j (by simp)],by rw[j];simp,λb i=>?_⟩;rw[j]at i;unfold FG;simp only[T_.t7,i,g _ _ i (by simp)]
 cases h
theorem oE(y:Nat)(l:List PV):(HN y l).length=l.length:=by unfold HN;split;exact eE _ _;rfl
def sw(v:PV):Bool:=match v with
 |.sl .own _=>true|_=>false
theorem cu(y:Nat)(l:List PV)(t:Nat):Aa (HN y l) t=if sw (Aa l y)then (if t=y/\y<l.length then .fl .undef else cS y (Aa l t))else Aa l t:=by
 unfold HN;cases b:Aa l y with
 | sl q es=>
   cases q with
   |own=>simp only;rw[Yo,b];rfl
   |_=>rfl
 |_=>rfl
theorem ZeX {p q : POper} (hp:p.canU q=true) {k:PS->Prop} {st:PS} (e:It p (It q k) st):It q (It p k) st:=by
 unfold POper.canU at hp;split at hp
 ·rename_i m w n O off sz s m' w' y z j hpo Z hpd hqd hpg hqg;simp only[Aj,TV,Hu]at hp;obtain⟨⟨⟨⟨hn,hab⟩,M⟩,I⟩,D⟩:=hp;unfold It at e ⊢;rw[hpg,hpo,hpd,hqg,Z,hqd]at e ⊢;simp only[CU]at e ⊢;split at e
  ·rename_i U sa x;split at e
   ·rename_i R sb g;simp only[BC,Ae hn]at x;split at x
    ·rename_i hz;simp only[Ch,Prod.exists,Aq]at x;obtain⟨cs,sa',hf,rfl,rfl⟩:=x;obtain⟨f1,f2,f3,rfl,rfl⟩:=Zhu hf;simp only[BC,T_.t7,BT]at g;split at g
     ·rename_i C s1 hs;obtain⟨rfl,b,A⟩:=ZkO hs;simp only[JI,T_.t7,BT,Ag.f',A7,BJ,CL,C4]at g;split at g
      ·rename_i hc;simp only[Ap,Aq]at g;obtain⟨rfl,rfl⟩:=g;have u:∀(st:PS) (d:Nat) (es:List (List PV)),st.put (some d) (.sl .own es)={ st with sl:=HL d (.sl .own es) st.sl }:=λ_ _ _=>rfl;rw[u]at b A e;rw[u]at e;simp only at b A e;have i:=λhd=>bF f3 hd;have gy:Aa (HL z (.sl .own (ET w n (AY (O.map BT) off (Aa st.sl s).cells))) (IB s st.sl)) y=Aa st.sl y:=by
        rw[OE rfl]at b ⊢;rw[Ae (λh=>I h.1)]at b ⊢;rw[Yo]at b ⊢;split at b
        ·rename_i ho;rw[Ad ho];rw[Ae (λh=>D h.1.symm)]at b ⊢;unfold cS at b ⊢;split at b
         ·exact absurd rfl b
         rename_i h2;rw[Ae h2];split at b
         ·exact absurd rfl b
         rename_i h3;rw[Ae h3]
        rename_i ho;rw[Ae ho];unfold cS at b ⊢;split at b
        ·exact absurd rfl b
        rename_i h2;rw[Ae h2]
       have Y:=A st gy.symm;simp only[BC,T_.t7,BT,Y,JI,Ag.f',A7,BJ,CL,C4];rw[Ad hc];simp only[u];have N:Aa (HL j (.sl .own C) (HN y st.sl)) s=Aa st.sl s:=by
        rw[OE rfl,Ae (λh=>M h.1),cu];split
        ·rw[Ae (λh=>D h.1),UB (i _),UB (i _)]
        rw[UB (i _)]
       simp only[BC,Ae hn,Ad hz];rw[Zi7 (by simp only[N];exact f1) f2 (by simp only[N];exact f3)];simp only[Cw,N,u];have fin:HL z (.sl .own (ET w n (AY (O.map BT) off (Aa st.sl s).cells))) (IB s (HL j (.sl .own C) (HN y st.sl)))=HL j (.sl .own C) (HN y (HL z (.sl .own (ET w n (AY (O.map BT) off (Aa st.sl s).cells))) (IB s st.sl))):=by
        generalize L:PV.sl .own (ET w n (AY (O.map BT) off (Aa st.sl s).cells))=U;rw[L]at gy;generalize J:PV.sl .own C=R;rw[J]at N;have ba:∀hd,U.i6 hd=false:=λhd=>(by rw[<- L];rfl);have bb:∀hd,R.i6 hd=false:=λhd=>(by rw[<- J];rfl);refine ZjV (by simp only[de,eE,oE]) λt=>?_;rw[OE (ba _),Yo,N,OE (bb _),cu,OE (bb _),cu,gy,OE (ba _),Yo];simp only[de,eE,oE];generalize (Aa st.sl s).own=os;generalize sw (Aa st.sl y)=oy;generalize Aa st.sl t=V;have cva:∀d,cS d U=U:=λd=>UB (ba _);have cvb:∀d,cS d R=R:=λd=>UB (bb _);by_cases x:t=z/\z<st.sl.length
        ·have g:¬(t=j/\j<st.sl.length):=λh=>hab (x.1.symm.trans h.1);have F:¬(t=y/\y<st.sl.length):=λh=>I (h.1.symm.trans x.1);cases os<;>cases oy<;>simp only[Ad x,Ae g,Ae F,cva,AX,A5,AZ]
        by_cases g:t=j/\j<st.sl.length
        ·have G:¬(t=s/\s<st.sl.length):=λh=>M (h.1.symm.trans g.1);cases os<;>cases oy<;>simp only[Ae x,Ad g,Ae G,cvb,AX,A5,AZ]
        by_cases G:t=s/\s<st.sl.length
        ·have F:¬(t=y/\y<st.sl.length):=λh=>D (G.1.symm.trans h.1);cases os<;>cases oy<;>simp only[Ae x,Ae g,Ad G,Ae F,oQ,AX,A5,AZ]
         ·exact F5 _ _ _
         rw[F5 z j,F5 z y]
        by_cases F:t=y/\y<st.sl.length
        ·cases os<;>cases oy<;>simp only[Ae x,Ae g,Ae G,Ad F,oQ,AX,A5,AZ]
         ·exact F5 _ _ _
         rw[F5 s j,F5 z j]
        cases os<;>cases oy<;>simp only[Ae x,Ae g,Ae G,Ae F,AX,A5,AZ]
        ·exact F5 _ _ _
        ·rw[F5 z j,F5 z y]
        ·rw[F5 s j,F5 z j]
        rw[F5 s j,F5 z j,F5 s y,F5 z y]
       rw[fin];exact e
      cases g
     cases g
    cases x
   exact e.elim
  exact e.elim
 cases hp
end
end Go.Ag
