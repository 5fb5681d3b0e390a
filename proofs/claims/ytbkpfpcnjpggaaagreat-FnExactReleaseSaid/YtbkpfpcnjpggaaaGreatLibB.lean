/- Part 2 of what FnExactRelease needs. No conditions. -/
import Derived.Still
import Derived.Test.YtbkpfpcnjpggaaaGreatLibA
namespace Go.Ag
set_option linter.unusedSimpArgs false
set_option linter.unusedVariables false
noncomputable section
def Rc(ops:Array Oper)(i x:Nat):Bool:=match ops[i]? with|some o=>o.after.any λ e=>Region.binds .any e&&e.on == x|none=>false
def KW(ops:Array Oper)(seen:List Nat):List AOper->Bool
 |[]=>true
 |ao::r=>(match ops[ao.id]? with|some o=>o.after.all λ e=>!Region.binds .any e||seen.contains e.on|none=>false)&&!seen.contains ao.id&&KW ops (ao.id::seen) r
def Lf(ops:Array Oper)(seen:List AOper):List AOper->Bool
 |[]=>true
 |ao::r=>(ao.anc.all λ x=>Rc ops ao.id x||seen.any λ bo=>Rc ops ao.id bo.id&&bo.anc.contains x)&&Lf ops (ao::seen) r
def Ke(ex:Option (Nat×Nat))(p q:AOper):Bool:=match ex with|some (i,j)=>p.id == i&&q.id == j|none=>false
def KM(ex:Option (Nat×Nat)):List AOper->Bool
 |[]=>true
 |p::r=>(r.all λ q=>q.anc.contains p.id||ED p q||Ke ex p q)&&KM ex r
def JM(ex:Option (Nat×Nat))(l:List AOper):Bool:=match ex with
 |none=>true
 |some (i,j)=>l.all λ q=>!q.op.isCall||q.anc.contains i||q.anc.contains j
def Uy(ex:Option (Nat×Nat))(P:Program)(ops:Array Oper)(l:List AOper):Bool:=
 l.all (KS P ops)&&l.length == ops.size&&KW ops [] (BW l 0)&&Lf ops [] (BW l 0)&&KM ex (BW l 0)&&JM ex (BW l 0)
def LZ:List AOper->Option (Nat×Nat)
 |p::q::r=>if p.pairU q then some (p.id,q.id) else LZ (q::r)
 |_=>none
theorem b8:∀ {l:List AOper} {i j:Nat},LZ l=some (i,j)->∃ X a b Y,l=X++a::b::Y/\Mx l=some (X++b::a::Y)/\a.id=i/\b.id=j/\a.pairU b=true
 | p :: q::r,i,j,h=>by
   unfold LZ at h
   unfold Mx
   split at h
   . rename_i hp
     simp only[Am,Ao] at h
     exact⟨[],p,q,r,rfl,by rw[Ac hp];rfl,h.1,h.2,hp⟩
   . rename_i hp
     obtain⟨X,a,b,Y,h1,h2,h3⟩:=b8 h
     exact⟨p::X,a,b,Y,by rw[h1];rfl,by rw[Af hp,h2];rfl,h3⟩
 |[],_,_,h=>by cases h
 |[_],_,_,h=>by cases h
theorem wu{a b:AOper}(h:a.pairU b=true):a.cst=none/\b.cst=none:=by
 unfold AOper.pairU at h;split at h
 . rename_i e1 e2;refine⟨?_,?_⟩
   . unfold AOper.cst;rw[e1];cases a.guard<;>simp[AOp.cst,Qi,Opnd.slots]
   . unfold AOper.cst;rw[e2];cases b.guard<;>rfl
 . cases h
theorem bG:∀ (X:List AOper) (a b:AOper) (Y:List AOper) (n:Nat),a.cst=none->b.cst=none->∃ X',BW (X++a::b::Y) n=X'++a::b::Y/\BW (X++b::a::Y) n=X'++b::a::Y/\Fu (X++a::b::Y)=Fu (X++b::a::Y)
 |[],a,b,Y,n,h1,h2=>⟨[],by simp[BW,h1],by simp[BW,h2],by simp[Fu,h1,h2]⟩
 | o :: X,a,b,Y,n,h1,h2=>by
   simp only[CP]
   unfold BW Fu
   cases hc:o.cst with
   |none=>exact⟨o::X,rfl,rfl,rfl⟩
   | some p=>
     obtain⟨mk,bb⟩:=p
     obtain⟨X',e1,e2,e3⟩:=bG X a b Y (n+1) h1 h2
     exact⟨Kg o (mk.v n)::X',by simp only[e1];rfl,by simp only[e2];rfl,by simp only[e3]⟩
theorem XM{ops:Array Oper}:∀ (l:List AOper) (seen:List Nat),KW ops seen (l.map Du)=KW ops seen l
 |[],_=>rfl
 |o::r,seen=>by simp only[B0,KW,(HS o).1,XM r]
theorem Ye{ops:Array Oper}:∀ (l seen:List AOper),Lf ops (seen.map Du) (l.map Du)=Lf ops seen l
 |[],_=>rfl
 | o::r,seen=>by
   have ih:=Ye (ops:=ops) r (o::seen)
   simp only[B0] at ih
   simp only[B0,Lf,ih,(HS o).1,(HS o).2.1,List.any_map]
   congr 2
   funext x
   congr 2
   funext bo
   simp only[Function.comp,(HS bo).1,(HS bo).2.1]
theorem ZcA(ex:Option (Nat×Nat))(p q:AOper):Ke ex (Du p) (Du q)=Ke ex p q:=by
 unfold Ke;rw[(HS p).1,(HS q).1]
theorem Xk{ex:Option (Nat×Nat)}:∀ (l:List AOper),KM ex (l.map Du)=KM ex l
 |[]=>rfl
 | p::r=>by
   simp only[B0,KM,Xk r,List.all_map]
   congr 2
   funext q
   simp only[Function.comp,(HS q).2.1,(HS p).1,Zbc,ZcA]
theorem Zaz(q:AOper):(Du q).op.isCall=q.op.isCall:=by
 unfold Du;split
 . rename_i e;rw[e];rfl
 . rfl
theorem dM{ex:Option (Nat×Nat)}(l:List AOper):JM ex (l.map Du)=JM ex l:=by
 unfold JM
 cases ex with
 |none=>rfl
 | some p=>
   simp only[List.all_map];congr 1;funext q;simp only[Function.comp,Zaz,(HS q).2.1]
section
variable {P:Program} {ops:Array Oper} {ι0:AA} {σ0:Ab} {Φ:Phm} {w0:World} {Q:Exit->Act->World->Prop}
def Ho(listed:Array Bool)(x:Nat):Prop:=listed.getD x false=true
def Io(ops:Array Oper)(i:Nat)(S:Nat->Prop):Prop:=∀ x,Rc ops i x=true->S x
def TopoL(ops:Array Oper)(S:Nat->Prop):List AOper->Prop
 |[]=>True
 |ao::r=>Io ops ao.id S/\TopoL ops (λ x=>S x\/x=ao.id) r
theorem TopoL.mono{S S':Nat->Prop}(h:∀ x,S x->S' x):∀ {l:List AOper},TopoL ops S l->TopoL ops S' l
 |[],_=>trivial
 |_::_,ht=>⟨λ x hx=>h x (ht.1 x hx),TopoL.mono (λ x hx=>hx.imp (h x) id) ht.2⟩
theorem TopoL.remove{ao:AOper}:∀ {r1 r2:List AOper} {S:Nat->Prop},TopoL ops S (r1++ao::r2)->TopoL ops (λ x=>S x\/x=ao.id) (r1++r2)
 |[],_,_,h=>h.2
 | p::r1,r2,S,h=>by
   refine⟨λ x hx=>.inl (h.1 x hx),?_⟩
   refine TopoL.mono ?_ (TopoL.remove (r1:=r1) (r2:=r2) h.2)
   intro x hx
   rcases hx with(hx|hx)|hx
   . exact .inl (.inl hx)
   . exact .inr hx
   . exact .inl (.inr hx)
theorem aM{p:AOper}(hc:p.op.isCall=false\/p.op.isKeep=true){k k':St->Prop}(h:∀ st,k st->k' st){st:St}(ha:B3 p k st):B3 p k' st:=by
 unfold B3 at *
 have h1:∀ {st:St},AE p.op p.dst k st->AE p.op p.dst k' st:=by
  intro st;rcases hc with hc|hc
  case inr=>
   cases hp:p.op<;>simp[hp,AOp.isKeep] at hc;rename_i kp f args;cases kp<;>simp at hc;rintro⟨a,Q0,b,c⟩;exact⟨a,Q0,b,λ r h' q=>⟨(c r h' q).1,h _ (c r h' q).2⟩⟩
  cases hp:p.op<;>first|(rw[hp] at hc;simp[AOp.isCall] at hc;done)|(simp only[AE];split<;>first|exact h _|exact λ x=>x)
 split at ha
 . exact h1 ha
 . split at ha
   . split at ha
     . rename_i hb;simp only[hb,A9];exact h1 ha
     . rename_i hb;simp only[Af hb];exact h _ ha
   . exact h _ ha
   . exact ha.elim
theorem cw{p q:AOper}(h:ED p q=true):p.op.isCall=false\/p.op.isKeep=true:=by
 unfold ED J0 at h;simp only[Ai,Cg (_&&_),BJ] at h;rcases h.2 with h|h
 . exact .inl h.1.2
 . exact .inr h.1.1
theorem Qk{ao:AOper}{k:St->Prop}:∀ (r1 r2:List AOper) (st:St),(∀ p∈r1,ED p ao=true)->Bw (r1++ao::r2) k st->B3 ao (Bw (r1++r2) k) st
 |[],_,_,_,h=>h
 | p::r1,r2,st,hs,h=>by
   have hp:=hs p (by simp)
   have h1:B3 p (B3 ao (Bw (r1++r2) k)) st:=aM (cw hp) (λ st' h'=>Qk r1 r2 st' (λ x hx=>hs x (by simp[hx])) h') h
   exact bH hp h1
theorem vK{listed:Array Bool}{i:Nat}(h:listed.getD i true=false)(x:Nat):Ho (listed.setIfInBounds i true) x↔Ho listed x\/x=i:=by
 have hi:i<listed.size:=by
  rcases Br i listed.size with q|q
  . exact q
  . simp[Array.getD,Nat.not_lt.2 q] at h
 unfold Ho;by_cases hx:x=i
 . subst hx;simp[Array.getD,hi]
 . simp only[hx,or_false];simp only[Lb,QN,Af (Gq hx)]
theorem tE{listed:Array Bool}{i j:Nat}:(listed.setIfInBounds i true).getD j true=false↔j≠i/\listed.getD j true=false:=by
 simp only[Lb,QN];by_cases hx:i=j
 . subst hx;by_cases hs:i<listed.size
   . simp[hs]
   . simp[hs]
 . simp[Af hx,Gq hx]
theorem wc{listed:Array Bool}{i:Nat}(h:listed.getD i true=false):¬ Ho listed i:=by
 unfold Ho;intro h2;simp only[Lb] at h h2
 cases hq:listed[i]? with
 |none=>rw[hq] at h2;simp at h2
 |some b=>rw[hq] at h h2;simp at h h2;rw[h] at h2;cases h2
theorem bd {G:AOper->Prop} {R:List AOper->St->Act->World->Prop} {A:List AOper->St->Prop} (hQ:∀ st' a' w',R [] st' a' w'->A [] st'->Q .normal a' w')
 (hA:∀ (r1:List AOper) (ao:AOper) (r2:List AOper) (st:St),((r1++ao::r2).map (·.id)).Nodup->A (r1++ao::r2) st->(∀ p∈r1++ao::r2,p.id ∉ ao.anc)->∃ k':St->Prop,B3 ao k' st/\∀ st',k' st'->A (r1++r2) st')
 (hitem:∀ (r1:List AOper) (ao:AOper) (r2:List AOper) (st:St) (a:Act) (w:World) (k':St->Prop) (K:Act->World->Prop),((r1++ao::r2).map (·.id)).Nodup->G ao->R (r1++ao::r2) st a w->B3 ao k' st->(∀ st' a' w',R (r1++r2) st' a' w'->k' st'->K a' w')->wpOp P ops Q ao.id K a w):∀ (fuel:Nat) (l:List AOper) (listed:Array Bool) (st:St) (a:Act) (w:World),
 l.length=fuel->(∀ ao∈l,∃ o,ops[ao.id]?=some o)->(∀ ao∈l,G ao)->(l.map (·.id)).Nodup->(∀ i,listed.getD i true=false↔∃ ao∈l,ao.id=i) ->
 TopoL ops (Ho listed) l->(∀ j,Ho listed j->Io ops j (Ho listed))->(∀ S:Nat->Prop,(∀ j,S j->Io ops j S)->∀ ao∈l,Io ops ao.id S->∀ x∈ao.anc,S x) ->
 R l st a w->A l st->wpAny P .any ops Q fuel listed a w
 | 0,l,listed,st,a,w,hl,hok,hc,hnd,hun,ht,hcl,han,hr,h=>by
   have:l=[]:=List.length_eq_zero_iff.1 hl;subst this;refine⟨?_,hQ _ _ _ hr h⟩
   cases hq:Region.ready .any ops listed with
   |nil=>rfl
   | cons i _=>
     have hi:i∈Region.ready .any ops listed:=by rw[hq];simp
     have:=(hun i).1 (mem_ready.1 hi).1;simp at this
 | fuel+1,l,listed,st,a,w,hl,hok,hc,hnd,hun,ht,hcl,han,hr,h=>by
   have dirsOf:∀ {i:Nat} {o:Oper},ops[i]?=some o->((∀ e∈o.after,Region.binds .any e=true->listed.getD e.on false=true)↔Io ops i (Ho listed)):=by
    intro i o ho;unfold Io Rc;rw[ho];simp only[Array.any_eq_true',Ai,A6];constructor
    . rintro h x ⟨e,he,hb,rfl⟩;exact h e he hb
    . intro h e he hb;exact h e.on ⟨e,he,hb,rfl⟩
   refine⟨λ hre=>?_,λ i hi=>?_⟩
   ·
    match l,hl with
    | ao::r,_=>
      exfalso;have hun1:=(hun ao.id).2 ⟨ao,by simp,rfl⟩;obtain⟨o,ho⟩:=hok ao (by simp);have:ao.id∈Region.ready .any ops listed:=mem_ready.2 ⟨hun1,o,ho,(dirsOf ho).2 ht.1⟩;rw[hre] at this;cases this
   . obtain⟨hi1,o,ho,hall⟩:=mem_ready.1 hi;obtain⟨ao,hao,rfl⟩:=(hun i).1 hi1;obtain⟨r1,r2,rfl⟩:=Qj hao;have hdir:=(dirsOf ho).1 hall;have hanc:=han (Ho listed) hcl ao (by simp) hdir
     have hno:∀ p∈r1++ao::r2,p.id ∉ ao.anc:=λ p hpm hx=>wc ((hun p.id).2 ⟨p,hpm,rfl⟩) (hanc p.id hx)
     obtain⟨k',hk1,hk2⟩:=hA r1 ao r2 st hnd h hno
     refine hitem r1 ao r2 st a w _ _ hnd (hc ao (by simp)) hr hk1 λ st' a' w' hr' h'=>?_
     have hls:=vK hi1
     refine bd hQ hA hitem fuel (r1++r2) (listed.setIfInBounds ao.id true) st' a' w' (by simp at hl ⊢;omega) (λ x hx=>hok x (by simp at hx ⊢;rcases hx with hx|hx<;>simp[hx])) (λ x hx=>hc x (by simp at hx ⊢;rcases hx with hx|hx<;>simp[hx]))
      ?_ ?_ ?_ ?_ (λ S hS x hx=>han S hS x (by simp at hx ⊢;rcases hx with hx|hx<;>simp[hx])) hr' (hk2 st' h')
     . have hsub:(r1++r2).Sublist (r1++ao::r2):=List.Sublist.append (List.Sublist.refl r1) (List.sublist_cons_self ao r2);exact(hsub.map (·.id)).nodup hnd
     . intro j;rw[tE,hun j];constructor
       . rintro⟨hne,x,hx,rfl⟩;refine⟨x,?_,rfl⟩;simp only[D5,Ck] at hx ⊢;rcases hx with hx|hx|hx
         . exact .inl hx
         . exact absurd (by rw[hx]) hne
         . exact .inr hx
       . rintro⟨x,hx,rfl⟩;refine⟨λ e=>?_,x,by simp at hx ⊢;rcases hx with hx|hx<;>simp[hx],rfl⟩;rw[Gz,B0,Oj] at hnd;obtain⟨n1,n2,n3⟩:=hnd;rcases D5.1 hx with hx|hx
         . exact n3 x.id (Hv hx) ao.id (by simp) e
         . rw[KX] at n2;exact n2.1 (by rw[<- e];exact Hv hx)
     . exact(TopoL.remove ht).mono λ x hx=>(hls x).2 hx
     . intro j hj x hx;rw[hls] at hj ⊢;rcases hj with hj|rfl
       . exact .inl (hcl j hj x hx)
       . exact .inl (hdir x hx)
theorem cA:∀ (l:List AOper) (seen:List Nat),KW ops seen l=true->TopoL ops (·∈seen) l/\(l.map (·.id)).Nodup/\(∀ ao∈l,ao.id ∉ seen)/\∀ ao∈l,ao.id<ops.size
 |[],_,_=>⟨trivial,by simp,by simp,by simp⟩
 | ao::r,seen,h=>by
   simp only[KW,Ai,BJ,XW,B7] at h
   obtain⟨⟨h1,h2⟩,h3⟩:=h
   obtain⟨i1,i2,i3,i4⟩:=cA r (ao.id::seen) h3
   split at h1
   . rename_i o ho
     refine⟨⟨λ x hx=>?_,i1.mono λ x hx=>by simpa [or_comm] using hx⟩,?_,?_,?_⟩
     . unfold Rc at hx
       rw[ho] at hx
       simp only[Array.any_eq_true',Ai,A6] at hx
       obtain⟨e,he,hb,rfl⟩:=hx
       rw[Array.all_eq_true'] at h1
       have:=h1 e he
       rw[hb] at this
       simpa using this
     . rw[B0,KX]
       refine⟨λ hm=>?_,i2⟩
       obtain⟨x,hx,e⟩:=List.mem_map.1 hm
       exact i3 x hx (by rw[e];simp)
     . intro x hx
       rcases Ck.1 hx with rfl|hx
       . exact h2
       . exact λ hm=>i3 x hx (by simp[hm])
     . intro x hx
       rcases Ck.1 hx with rfl|hx
       . exact(Array.getElem?_eq_some_iff.1 ho).1
       . exact i4 x hx
   . cases h1
theorem dH:∀ (l seen:List AOper),Lf ops seen l=true->∀ S:Nat->Prop,(∀ j,S j->Io ops j S)->(∀ bo∈seen,Io ops bo.id S->∀ x∈bo.anc,S x)->∀ ao∈l,Io ops ao.id S->∀ x∈ao.anc,S x
 |[],_,_,_,_,_=>by simp
 | ao::r,seen,h,S,hS,hseen=>by
   simp only[Lf,Ai] at h;obtain⟨h1,h2⟩:=h
   have hao:Io ops ao.id S->∀ x∈ao.anc,S x:=by
    intro hd x hx;rw[CV] at h1;have:=h1 x hx;rw[Cg] at this;rcases this with h|h
    . exact hd x h
    . rw[List.any_eq_true] at h;obtain⟨bo,hb,hc⟩:=h;rw[Ai] at hc;exact hseen bo hb (hS bo.id (hd bo.id hc.1)) x (by simpa using hc.2)
   intro bo hb;rcases Ck.1 hb with rfl|hb
   . exact hao
   . exact dH r (ao::seen) h2 S hS (λ c hc=>by rcases Ck.1 hc with rfl|hc;exact hao;exact hseen c hc) bo hb
theorem bR{ex:Option (Nat×Nat)}:∀ (l:List AOper),KM ex l=true->l.Pairwise (λ p q=>(q.anc.contains p.id=true\/ED p q=true)\/Ke ex p q=true)
 |[],_=>.nil
 | p::r,h=>by
   simp only[KM,Ai] at h
   refine .cons (λ q hq=>?_) (bR r h.2)
   have:=CV.1 h.1 q hq
   rwa [Cg,Cg] at this
theorem xj{p:AOper}(hc:p.op.isCall=false){K1 K2:St->Prop}{st:St}(h1:B3 p K1 st)(h2:B3 p K2 st):B3 p (λ st=>K1 st/\K2 st) st:=by
 have key:∀ {st:St},AE p.op p.dst K1 st->AE p.op p.dst K2 st->AE p.op p.dst (λ st=>K1 st/\K2 st) st:=by
  intro st
  cases hp:p.op<;>first|(rw[hp] at hc;simp[AOp.isCall] at hc;done)|(simp only[AE];split<;>first|exact λ a b=>⟨a,b⟩|exact λ a _=>a)
 unfold B3 at *;split at h1
 . rename_i hg;rw[hg] at h2;exact key h1 h2
 . rename_i g wt hg;rw[hg] at h2;simp only at h2;split at h1
   . rename_i b hb;rw[hb] at h2;simp only at h2;split at h1
     . rename_i hw;rw[Ac hw] at h2 ⊢;exact key h1 h2
     . rename_i hw;rw[Af hw] at h2 ⊢;exact⟨h1,h2⟩
   . rename_i hb;rw[hb] at h2;exact⟨h1,h2⟩
   . exact h1.elim
def Kn(ex:Option (Nat×Nat))(k:St->Prop)(l:List AOper)(st:St):Prop:=
 l.Pairwise (λ p q=>(q.anc.contains p.id=true\/ED p q=true)\/Ke ex p q=true)/\JM ex l=true/\Bw l k st /\
 ∀ a b,a∈l->b∈l->ex=some (a.id,b.id)->∃ X Y,l=X++a::b::Y/\Bw (X++b::a::Y) k st
theorem S8{ao:AOper}:∀ {r1 X:List AOper} {r2 Y:List AOper},((r1++ao::r2).map (·.id)).Nodup->r1++ao::r2=X++ao::Y->r1=X/\r2=Y
 |[],[],_,_,_,h=>by simp at h;exact⟨rfl,h⟩
 | [],x::X,r2,Y,hn,h=>by
   simp only[CA,CP,Hr] at h
   obtain⟨rfl,rfl⟩:=h
   simp at hn
 | p::r1,[],r2,Y,hn,h=>by
   simp only[CA,CP,Hr] at h
   obtain⟨rfl,rfl⟩:=h
   simp at hn
 | p::r1,x::X,r2,Y,hn,h=>by
   simp only[CP,Hr] at h
   obtain⟨rfl,h⟩:=h
   simp only[CP,B0,KX] at hn
   obtain⟨e1,e2⟩:=S8 hn.2 h
   exact⟨by rw[e1],e2⟩
theorem xl{ex:Option (Nat×Nat)}{l l':List AOper}(h:∀ x∈l',x∈l)(hc:JM ex l=true):JM ex l'=true:=by
 unfold JM at *
 cases ex with
 |none=>rfl
 |some p=>exact CV.2 λ x hx=>CV.1 hc x (h x hx)
theorem ZaM{ex:Option (Nat×Nat)}{k:St->Prop}(r1:List AOper)(ao:AOper)(r2:List AOper)(st:St)(hnd:((r1++ao::r2).map (·.id)).Nodup)(hk:Kn ex k (r1++ao::r2) st)(hno:∀ p∈r1++ao::r2,p.id ∉ ao.anc) :
 ∃ k':St->Prop,B3 ao k' st/\∀ st',k' st'->Kn ex k (r1++r2) st':=by
 obtain⟨hp,hc,h1,h2⟩:=hk
 have hsub:(r1++r2).Sublist (r1++ao::r2):=List.Sublist.append (List.Sublist.refl r1) (List.sublist_cons_self ao r2)
 have hp':=hp.sublist hsub
 have hc':=xl (λ x hx=>hsub.subset hx) hc
 have hidne:∀ x∈r1++r2,x.id≠ao.id:=by
  intro x hx e;rw[Gz,B0,Oj] at hnd;obtain⟨n1,n2,n3⟩:=hnd;rcases D5.1 hx with hx|hx
  . exact n3 _ (Hv hx) ao.id (by simp) e
  . rw[KX] at n2;exact n2.1 (by rw[<- e];exact Hv hx)
 rw[List.pairwise_append] at hp
 obtain⟨hp1,hp2,hp3⟩:=hp
 have hrel:∀ p∈r1,ED p ao=true\/Ke ex p ao=true:=by
  intro p hpm;rcases hp3 p hpm ao (by simp) with(h|h)|h
  . exact absurd (by simpa using h) (hno p (by simp[hpm]))
  . exact .inl h
  . exact .inr h
 by_cases hex:∃ a∈r1,ex=some (a.id,ao.id)
 . obtain⟨a,ha,hex⟩:=hex
   obtain⟨X,Y,hl,h3⟩:=h2 a ao (by simp[ha]) (by simp) hex
   have hl':r1++ao::r2=(X++[a])++ao::Y:=by rw[hl];simp
   obtain⟨rfl,rfl⟩:=S8 hnd hl'
   have hsw:∀ p∈X,ED p ao=true:=by
    intro p hpX;rcases hrel p (by simp[hpX]) with h|h
    . exact h
    . exfalso;rw[hex] at h;simp only[Ke,Ai,A6] at h;rw[hl'] at hnd;simp only[BP,Gz,B0,Mb] at hnd;rw[Oj] at hnd;exact hnd.2.2 p.id (Hv hpX) a.id (by simp) h.1
   refine⟨_,Qk X (a::r2) st hsw h3,λ st' h'=>⟨hp',hc',by simpa using h',λ a' b' _ hb' hex'=>?_⟩⟩;rw[hex] at hex';simp only[Am,Ao] at hex';exact absurd hex'.2.symm (hidne b' hb')
 . have hsw:∀ p∈r1,ED p ao=true:=by
    intro p hpm;rcases hrel p hpm with h|h
    . exact h
    . exfalso
      cases hx:ex with
      |none=>rw[hx] at h;cases h
      | some ij=>
        obtain⟨i,j⟩:=ij;rw[hx] at h;simp only[Ke,Ai,A6] at h;exact hex ⟨p,hpm,by rw[hx,h.1,h.2]⟩
   have hb:=Qk r1 r2 st hsw h1;by_cases hboth:∃ a b,a∈r1++r2/\b∈r1++r2/\ex=some (a.id,b.id)
   . obtain⟨a,b,ha,hbm,hex'⟩:=hboth;obtain⟨X,Y,hl,h3⟩:=h2 a b (hsub.subset ha) (hsub.subset hbm) hex'
     have hnc:ao.op.isCall=false:=by
      rw[hex'] at hc;have:=CV.1 hc ao (by simp);simp only[Cg,BJ,XW,AB] at this;rcases this with(h|h)|h
      . exact h
      . exact absurd h (hno a (hsub.subset ha))
      . exact absurd h (hno b (hsub.subset hbm))
     have hne1:=hidne a ha;have hne2:=hidne b hbm
     have hmem:ao∈X++a::b::Y:=by rw[<- hl];simp
     obtain⟨X',Y',e1,e2⟩:∃ X' Y',r1++r2=X'++a::b::Y'/\B3 ao (Bw (X'++b::a::Y') k) st:=by
      simp only[D5,Ck] at hmem;rcases hmem with hm|rfl|rfl|hm
      . obtain⟨X1,X2,rfl⟩:=Qj hm
        have hl2:r1++ao::r2=X1++ao::(X2++a::b::Y):=by rw[hl];simp
        obtain⟨rfl,rfl⟩:=S8 hnd hl2;refine⟨r1++X2,Y,by simp,?_⟩;have:=Qk r1 (X2++b::a::Y) st hsw (by simpa using h3);simpa using this
      . exact absurd rfl hne1
      . exact absurd rfl hne2
      . obtain⟨Y1,Y2,rfl⟩:=Qj hm
        have hl2:r1++ao::r2=(X++a::b::Y1)++ao::Y2:=by rw[hl];simp
        obtain⟨rfl,rfl⟩:=S8 hnd hl2;refine⟨X,Y1++r2,by simp,?_⟩;have:=Qk (X++b::a::Y1) r2 st (λ p hpm=>hsw p (by simp only[D5,Ck] at hpm ⊢;rcases hpm with h|h|h|h<;>simp[h])) (by simpa using h3);simpa using this
     refine⟨_,xj hnc hb e2,λ st' h'=>⟨hp',hc',h'.1,λ a' b' ha' hb' hex2=>?_⟩⟩;rw[hex'] at hex2;simp only[Am,Ao] at hex2;have nd':((r1++r2).map (·.id)).Nodup:=(hsub.map (·.id)).nodup hnd
     have same:∀ x y:AOper,x∈r1++r2->y∈r1++r2->x.id=y.id->x=y:=λ x y hx hy e=>by
      obtain⟨A1,A2,hA⟩:=Qj hx;rw[hA] at hy nd';rw[Gz,B0,Oj] at nd';obtain⟨m1,m2,m3⟩:=nd';simp only[D5,Ck] at hy;rcases hy with hy|hy|hy
      . exact absurd e.symm (m3 _ (Hv hy) x.id (by simp))
      . exact hy.symm
      . rw[KX] at m2;exact absurd (by rw[e];exact Hv hy) m2.1
     have ea:=same a a' ha ha' hex2.1;have eb:=same b b' hbm hb' hex2.2;subst ea;subst eb;exact⟨X',Y',e1,h'.2⟩
   . exact⟨_,hb,λ st' h'=>⟨hp',hc',h',λ a b ha hbm hex'=>absurd ⟨a,b,ha,hbm,hex'⟩ hboth⟩⟩
theorem zo{st:St}{a:Act}{w:World}(h:Cx ι0 σ0 w0 Φ st a w):Cx ι0 σ0 w0 Φ st a w.drew:=by
 obtain⟨hd,hH,ι,β,H,B,S,T⟩:=h;exact⟨hd,hH,ι,β,H.drew,B.drew,S,T.trans (Step.drew _ _ _)⟩
theorem W0:∀ (n:Nat) (l:List Nat),l.Nodup->(∀ x∈l,x<n)->l.length<=n
 | 0,l,_,h=>by
   cases l with
   |nil=>simp
   |cons x r=>exact absurd (h x (by simp)) (by omega)
 | n + 1,l,hn,h=>by
   by_cases hm:n∈l
   . have:=W0 n (l.erase n) (hn.erase n) λ x hx=>by
      have h1:=(List.Nodup.mem_erase_iff hn).1 hx
      have:=h x h1.2
      have:=h1.1
      omega
     rw[List.length_erase_of_mem hm] at this
     omega
   . have:=W0 n l hn λ x hx=>by
      have h1:=h x hx
      have:x≠n:=λ e=>hm (e▸hx)
      omega
     omega
theorem vk{l:List Nat}{n:Nat}(h1:l.Nodup)(h2:l.length=n)(h3:∀ x∈l,x<n):∀ i,i<n->i∈l:=by
 intro i hi;apply Classical.byContradiction;intro hni
 have:=W0 n (i::l) (KX.2 ⟨hni,h1⟩) λ x hx=>by
  rcases Ck.1 hx with rfl|hx
  . exact hi
  . exact h3 x hx
 simp at this;omega
variable [hG:GlC P ι0 σ0 w0]
theorem bC {id:Nat} {l:List AOper} {k:St->Prop} {st:St} {a:Act} {w:World} (ex:Option (Nat×Nat)) (hex:ex=none\/ex=LZ l) (hm:P.follows .mixedOrders=true) (hk:Uy ex P ops l=true) (hc:∀ ao∈l,∀ p∈JS P ops ao,Aw P p.1 p.2)
 (hQ:∀ st' a' w',Cx ι0 σ0 w0 Φ st' a' w'->k st'->Q .normal a' w') (hr:Cx ι0 σ0 w0 Φ st a w) (h:Bw l k st) (h2:ex≠none->∀ l2,Mx l=some l2->Bw l2 k st):(Code.region id ops true).wp P Q a w:=by
 unfold Uy at hk
 simp only[Ai,A6] at hk
 obtain⟨⟨⟨⟨⟨k1,k2⟩,k3⟩,k4⟩,k5⟩,k6⟩:=hk
 generalize hn:st.hp.length=n
 have k3:KW ops [] (BW l n)=true:=by rw[<- XM,P8 l n 0,XM];exact k3
 have k4:Lf ops [] (BW l n)=true:=by
  rw[<- Ye (BW l n) [],P8 l n 0];exact(Ye (BW l 0) []).trans k4
 have k5:KM ex (BW l n)=true:=by rw[<- Xk,P8 l n 0,Xk];exact k5
 have k6:JM ex (BW l n)=true:=by rw[<- dM,P8 l n 0,dM];exact k6
 have h:=Wj l st.sl st.hp h
 rw[hn] at h
 have hr0:=zo (bJ (Fu l) hr)
 rw[hn] at hr0
 have hσ:σ0.length<=n:=by rw[<- hn];exact zR hr
 have hΦ:∀ m b,Φ m=some b->m<n:=λ m b e=>by rw[<- hn];exact hr.2.1.lt e
 have ok1:∀ o∈l,KS P ops o=true:=λ o ho=>CV.1 k1 o ho
 obtain⟨t1,t2,t3,t4⟩:=cA (BW l n) [] k3
 have same:∀ {L:List AOper},(L.map (·.id)).Nodup->∀ x y:AOper,x∈L->y∈L->x.id=y.id->x=y:=λ {L} nd x y hx hy e=>by
  obtain⟨A1,A2,rfl⟩:=Qj hx;rw[Gz,B0,Oj] at nd;obtain⟨m1,m2,m3⟩:=nd;simp only[D5,Ck] at hy;rcases hy with hy|hy|hy
  . exact absurd e.symm (m3 _ (Hv hy) x.id (by simp))
  . exact hy.symm
  . rw[KX] at m2;exact absurd (by rw[e];exact Hv hy) m2.1
 have hkn:Kn ex k (BW l n) ⟨st.sl,st.bx,st.hp++Fu l⟩:=by
  refine⟨bR _ k5,k6,h,λ a b ha hb e=>?_⟩
  have hpi:LZ l=some (a.id,b.id):=by
   rcases hex with h|h
   . rw[h] at e;cases e
   . rw[<- h];exact e
  obtain⟨X,a',b',Y,q1,q2,q3,q4,q5⟩:=b8 hpi;have h3:=Wj _ st.sl st.hp (h2 (by rw[e];simp) _ q2);obtain⟨c1,c2⟩:=wu q5;obtain⟨X',r1,r2,r3⟩:=bG X a' b' Y n c1 c2;rw[hn,r2,<- r3,<- q1] at h3;rw[<- q1] at r1;have ea:=same t2 a a' ha (by rw[r1];simp) q3.symm;have eb:=same t2 b b' hb (by rw[r1];simp) q4.symm;subst ea;subst eb;exact⟨X',Y,r1,h3⟩
 refine wp_region_any hm (bd (G:=λ ao=>(KS P ops ao=true/\(∀ p∈JS P ops ao,Aw P p.1 p.2)/\∀ m b,¬ EI l n ao m b)\/∃ m b,EI l n ao m b)
  (R:=λ L st a w=>∃ Φ',Cx ι0 σ0 w0 Φ' st a w/\∀ m b,Φ' m=some b↔Φ m=some b\/∃ ao∈L,EI l n ao m b)
  (A:=Kn ex k) (λ st' a' w' hr' h'=>?_) ZaM (λ r1 ao r2 st a w k' K hnd hg hr h hK=>?_) ops.size (BW l n) (Array.replicate ops.size false) ⟨st.sl,st.bx,st.hp++Fu l⟩ a _ (by rw[(WS l n).2];exact k2)
  (λ ao hao=>⟨_,Array.getElem?_eq_getElem (t4 ao hao)⟩) (λ ao hao=>?_) t2 (λ i=>?_) (t1.mono (by simp)) (λ j hj=>?_) (λ S hS=>dH (BW l n) [] k4 S hS (by simp)) ⟨_,hr0,λ m b=>?_⟩ hkn)
 ·
  obtain⟨Φ',hr',hcv⟩:=hr'
  have:Φ'=Φ:=by
   funext m
   cases e:Φ' m with
   | some b=>
     rcases (hcv m b).1 e with h|⟨_,h,_⟩
     . exact h.symm
     . cases h
   | none=>
     cases e2:Φ m with
     |none=>rfl
     |some b=>have:=(hcv m b).2 (.inl e2);rw[e] at this;cases this
  subst this;exact hQ st' a' w' hr' h'.2.2.1
 . obtain⟨Φ',hr',hcv⟩:=hr
   rcases hg with⟨g1,g2,g3⟩|⟨m,b,hC⟩
   . refine bj g1 g2 hr' h λ st' a' w' hr2 h'=>hK st' a' w' ⟨Φ',hr2,λ m b=>?_⟩ h'
     rw[hcv m b];constructor
     . rintro(h|⟨x,hx,hx2⟩)
       . exact .inl h
       . simp only[D5,Ck] at hx;rcases hx with hx|rfl|hx
         . exact .inr ⟨x,by simp[hx],hx2⟩
         . exact absurd hx2 (g3 m b)
         . exact .inr ⟨x,by simp[hx],hx2⟩
     . rintro(h|⟨x,hx,hx2⟩)
       . exact .inl h
       . refine .inr ⟨x,?_,hx2⟩;simp only[D5,Ck] at hx ⊢;rcases hx with hx|hx
         . exact .inl hx
         . exact .inr (.inr hx)
   . obtain⟨_,hnm,o,ho,mk,hcst,rfl⟩:=Mr hC;have hok:=ok1 o ho
     have hg:o.guard=none/\o.op.cst=some (mk,b):=by
      unfold AOper.cst at hcst;split at hcst
      . rename_i hg;exact⟨hg,hcst⟩
      . cases hcst
     unfold KS at hok;split at hok
     . rename_i oo hoo;simp only[Ai,A6,hg.1] at hok;obtain⟨⟨q1,q2⟩,q3⟩:=hok
       have q2':oo.guard=none:=by
        cases e:oo.guard with
        |none=>rfl
        |some p=>obtain⟨j,wt⟩:=p;rw[e] at q2;simp[Xw] at q2
       have q3':En P oo.op o.op=true:=by
        have hnc:=(Xh hg.2).2.2.2.2.1;revert q3 hnc
        cases o.op<;>first|exact λ h _=>h|(intro _ h;cases h)
       have hΦm:Φ' m=some b:=(hcv m b).2 (.inr ⟨_,by simp,hC⟩)
       have h2:k' (st.put o.dst (mk.v m)):=by
        unfold B3 Kg at h;simpa [hg.1,AE,Ad,AOp.clears,Opnd.ev] using h
       unfold wpOp;have hid:(Kg o (mk.v m)).id=o.id:=rfl;rw[hid,hoo];simp only
       have hw:Region.wanted oo (yielded ops a.tmps)=true:=by unfold Region.wanted;rw[q2']
       rw[Ac hw];refine .inl (tF hg.2 q3' hΦm (by omega) hr' q1 λ a' w' hr2=>hK _ a' w' ⟨_,hr2,λ m' b'=>?_⟩ h2);constructor
       . intro e;split at e
         . cases e
         . rename_i hne;rcases (hcv m' b').1 e with h|⟨x,hx,hx2⟩
           . exact .inl h
           . simp only[D5,Ck] at hx;rcases hx with hx|rfl|hx
             . exact .inr ⟨x,by simp[hx],hx2⟩
             . exact absurd (z6 hx2 hC) hne
             . exact .inr ⟨x,by simp[hx],hx2⟩
       . rintro(h|⟨x,hx,hx2⟩)
         . have:=hΦ m' b' h;rw[Af (by omega)];exact(hcv m' b').2 (.inl h)
         . have hne:m'≠m:=λ e=>by
            subst e;obtain⟨rfl,_⟩:=dX hx2 hC;rw[Gz,B0,Oj] at hnd;obtain⟨n1,n2,n3⟩:=hnd;rcases D5.1 hx with hx|hx
            . exact n3 _ (Hv hx) _ (by simp) rfl
            . rw[KX] at n2;exact n2.1 (Hv hx)
           rw[Af hne];refine(hcv m' b').2 (.inr ⟨x,?_,hx2⟩);simp only[D5,Ck] at hx ⊢;rcases hx with hx|hx
           . exact .inl hx
           . exact .inr (.inr hx)
     . cases hok
 . by_cases hC:∃ m b,EI l n ao m b
   . exact .inr hC
   . rcases fb hao with h|h
     . exact absurd h hC
     . exact .inl ⟨ok1 ao h,hc ao h,λ m b hh=>hC ⟨m,b,hh⟩⟩
 . constructor
   . intro hi
     have hlt:i<ops.size:=by
      rcases Br i ops.size with q|q
      . exact q
      . simp[Array.getD,Nat.not_lt.2 q] at hi
     have:=vk t2 (by rw[Ba,(WS l n).2];exact k2) (λ x hx=>by obtain⟨y,hy,rfl⟩:=List.mem_map.1 hx;exact t4 y hy) i hlt;obtain⟨y,hy,rfl⟩:=List.mem_map.1 this;exact⟨y,hy,rfl⟩
   . rintro⟨ao,hao,rfl⟩;simp[Array.getD,t4 ao hao]
 . exfalso
   unfold Ho at hj;simp only[Array.getD] at hj;split at hj<;>simp at hj
 . exact fp l n Φ hΦ m b
end
def Uh(i:Nat):List AOper->Option (AOper×List AOper)
 |[]=>none
 | o::r=>if o.id == i then some (o,r) else match Uh i r with
   |some (q,r')=>if ED o q then some (q,o::r') else none
   |none=>none
def UK:List Nat->List AOper->Bool
 |[],[]=>true
 | i::is,l=>match Uh i l with
   |some (_,r)=>UK is r
   |none=>false
 |_,_=>false
theorem cj{i:Nat}{k:St->Prop}:∀ {l:List AOper} {q:AOper} {r:List AOper},Uh i l=some (q,r)->q.id=i/\q∈l/\(∀ x∈r,x∈l)/\∀ st,Bw l k st->B3 q (Bw r k) st
 |[],_,_,h=>by cases h
 | o :: l, q,r,h=>by
   unfold Uh at h
   split at h
   . rename_i e
     cases h
     exact⟨by simpa using e,by simp,λ x hx=>by simp[hx],λ st h=>h⟩
   . split at h
     . rename_i q' r' e
       split at h
       . rename_i hs
         cases h
         obtain⟨h1,h2,h3,h4⟩:=cj (k:=k) e
         refine⟨h1,by simp[h2],λ x hx=>?_,λ st ha=>?_⟩
         . rcases Ck.1 hx with rfl|hx
           . simp
           . simp[h3 x hx]
         . exact bH hs (aM (cw hs) h4 ha)
       . cases h
     . cases h
theorem dh{P:Program}{ops:Array Oper}{ι0:AA}{σ0:Ab}{Φ:Phm}{w0:World}{Q:Exit->Act->World->Prop} [hG:GlC P ι0 σ0 w0]{k:St->Prop}(hQ:∀ st' a' w',Cx ι0 σ0 w0 Φ st' a' w'->k st'->Q .normal a' w'):∀ (is:List Nat) (l:List AOper) (st:St) (a:Act) (w:World),UK is l=true->(∀ ao∈l,KS P ops ao=true)->(∀ ao∈l,∀ p∈JS P ops ao,Aw P p.1 p.2) ->
 Cx ι0 σ0 w0 Φ st a w->Bw l k st->wpOps P ops Q is a w
 |[],[],st,a,w,_,_,_,hr,h=>hQ _ _ _ hr h
 |[],_::_,_,_,_,hs,_,_,_,_=>by cases hs
 | i :: is,l,st,a,w,hs,hk,hc,hr,h=>by
   unfold UK at hs
   split at hs
   . rename_i q r e
     obtain⟨h1,h2,h3,h4⟩:=cj (k:=k) e
     rw[<- h1,wpOps_cons]
     exact bj (hk q h2) (hc q h2) hr (h4 st h) λ st' a' w' hr' h'=>dh hQ is r st' a' w' hs (λ x hx=>hk x (h3 x hx)) (λ x hx=>hc x (h3 x hx)) hr' h'
   . cases hs
def Ei(P:Program):Code->ACode->Bool
 |.skip,.skip=>true
 |.region _ ops draw,.region l=>if draw then Uy none P ops l else UK (List.range ops.size) l&&l.all (KS P ops)
 |.region _ ops draw,.regionU l=>draw&&Uy (LZ l) P ops l
 |.seq a b,.seq a' b'=>Ei P a a'&&Ei P b b'
 |.cond c a b,.cond c' a' b'=>Az c c'&&Ei P a a'&&Ei P b b'
 |.block i a,.block j a'=>i == j&&Ei P a a'
 |.loop a,.loop _ a'=>Ei P a a'
 |.exit i,.exit j=>i == j
 |.ret,.ret=>true
 |_,_=>false
def K4(P:Program):Code->ACode->List (FuncId×A7)
 |.region _ ops _,.region l=>l.flatMap (JS P ops)
 |.region _ ops _,.regionU l=>l.flatMap (JS P ops)
 |.seq a b,.seq a' b'=>K4 P a a'++K4 P b b'
 |.cond _ a b,.cond _ a' b'=>K4 P a a'++K4 P b b'
 |.block _ a,.block _ a'=>K4 P a a'
 |.loop a,.loop _ a'=>K4 P a a'
 |_,_=>[]
def AExit.exit':AExit->Exit
 |.normal=>.normal
 |.exit i=>.exit i
 |.ret=>.ret
section
variable {P:Program} {ι0:AA} {σ0:Ab} {Φ:Phm} {w0:World} [hG:GlC P ι0 σ0 w0] (hm:P.follows .mixedOrders=true)
include hm
theorem LN:∀ (ac:ACode) (c:Code),Ei P c ac=true->(∀ p∈K4 P c ac,Aw P p.1 p.2)->∀ (k:B6) (Q:Exit->Act->World->Prop),(∀ e st a w,Cx ι0 σ0 w0 Φ st a w->k e st->Q e.exit' a w) ->
 ∀ (st:St) (a:Act) (w:World),Cx ι0 σ0 w0 Φ st a w->BB ac k st->c.wp P Q a w
 | .skip,c,hk,_,k,Q,hQ,st,a,w,hr,h=>by
   cases c<;>simp[Ei] at hk;exact wp_skip (hQ .normal _ _ _ hr h)
 | .region l,c,hk,hob,k,Q,hQ,st,a,w,hr,h=>by
   cases c<;>simp only[Ei,Bd] at hk;rename_i id ops draw
   have hc:∀ ao∈l,∀ p∈JS P ops ao,Aw P p.1 p.2:=λ ao hao p hp=>hob p (List.mem_flatMap.2 ⟨ao,hao,hp⟩)
   cases draw with
   | true=>
     simp only[A9] at hk;exact bC none (.inl rfl) hm hk hc (λ st' a' w' hr' h'=>hQ .normal st' a' w' hr' h') hr h (λ e=>absurd rfl e)
   | false=>
     simp only[Bd,Bs,Ai] at hk;refine wp_region ?_;exact dh (k:=k .normal) (λ st' a' w' hr' h'=>hQ .normal st' a' w' hr' h') _ l st a w hk.1 (λ x hx=>CV.1 hk.2 x hx) hc hr h
 | .regionU l,c,hk,hob,k,Q,hQ,st,a,w,hr,h=>by
   cases c<;>simp only[Ei,Bd] at hk;rename_i id ops draw
   have hc:∀ ao∈l,∀ p∈JS P ops ao,Aw P p.1 p.2:=λ ao hao p hp=>hob p (List.mem_flatMap.2 ⟨ao,hao,hp⟩)
   rw[Ai] at hk;obtain⟨rfl,hk⟩:=hk;exact bC (LZ l) (.inr rfl) hm hk hc (λ st' a' w' hr' h'=>hQ .normal st' a' w' hr' h') hr h.1 (λ _=>h.2)
 | .seq x y,c,hk,hob,k,Q,hQ,st,a,w,hr,h=>by
   cases c<;>simp only[Ei,Bd] at hk;rename_i c1 c2;rw[Ai] at hk;refine wp_seq (LN x c1 hk.1 (λ p hp=>hob p (X4 _ hp)) (E6 (BB y k) k) _ (λ e st a w hr h=>?_) st a w hr h)
   cases e with
   |normal=>exact LN y c2 hk.2 (λ p hp=>hob p (X6 _ hp)) k Q hQ st a w hr h
   |exit i=>exact hQ (.exit i) st a w hr h
   |ret=>exact hQ .ret st a w hr h
 | .cond t x y,c,hk,hob,k,Q,hQ,st,a,w,hr,h=>by
   cases c<;>simp only[Ei,Bd] at hk;rename_i tt c1 c2;simp only[Ai] at hk;have hr':=hr;obtain⟨hd,hH,ι,β,H,B,S,T⟩:=hr';have rt:=Bq hk.1.1 S;simp only[BB] at h;split at h
   . rename_i b hb;rw[hb] at rt;have e:=NQ rt;refine wp_cond_split e (λ hb=>?_) (λ hb=>?_)
     . subst hb;exact LN x c1 hk.1.2 (λ p hp=>hob p (X4 _ hp)) k Q hQ st a w hr (by simpa using h)
     . subst hb;exact LN y c2 hk.2 (λ p hp=>hob p (X6 _ hp)) k Q hQ st a w hr (by simpa using h)
   . exact h.elim
 | .block i x,c,hk,hob,k,Q,hQ,st,a,w,hr,h=>by
   cases c<;>simp only[Ei,Bd] at hk;rename_i j c1;simp only[Ai,A6] at hk;obtain⟨rfl,hk⟩:=hk;refine wp_block (LN x c1 hk hob (Ht j k) _ (λ e st a w hr h=>?_) st a w hr h)
   cases e with
   |normal=>exact hQ .normal st a w hr h
   | exit i=>
     simp only[Ht] at h;simp only[AExit.exit',Exit.inBlock];split at h
     . rename_i e;rw[Ac e];exact hQ .normal st a w hr h
     . rename_i e;rw[Af e];exact hQ (.exit i) st a w hr h
   |ret=>exact hQ .ret st a w hr h
 | .loop live x,c,hk,hob,k,Q,hQ,st,a,w,hr,h=>by
   cases c<;>simp only[Ei,Bd] at hk;rename_i c1;obtain⟨n,hn⟩:=h;intro b kk cs
   have key:∀ (n:Nat) (st:St) (a:Act) (w:World),Cx ι0 σ0 w0 Φ st a w->ML (BB x) live k n st->∃ e a' w',Q e a' w'/\Arrives P (lone (b.at a (.code c1::.inLoop c1::kk)) cs w) b kk cs e a' w':=by
    intro n
    induction n with
    |zero=>intro st a w _ h;exact h.elim
    | succ n ih=>
      intro st a w hr h
      have hr2:Cx ι0 σ0 w0 Φ { st with sl:=keep live 0 st.sl } a w:=by
       obtain⟨hd,hH,ι,β,H,B,S,T⟩:=hr;refine⟨hd,hH,ι,β,H,B,⟨by simpa using S.1,λ i=>?_⟩,T⟩;rcases yD live 0 st.sl i with e|e
       . rw[e];exact .undef _
       . rw[e];exact S.2 i
      have hbody:=LN x c1 hk hob (E6 (ML (BB x) live k n) k) (Exit.then (λ a w=>∃ st,Cx ι0 σ0 w0 Φ st a w/\ML (BB x) live k n st) Q) (λ e st a w hr h=>by
       cases e with
       |normal=>exact⟨st,hr,h⟩
       |exit i=>exact hQ (.exit i) st a w hr h
       |ret=>exact hQ .ret st a w hr h) _ a w hr2 h
      obtain⟨e,a1,w1,hq,harr⟩:=hbody b (.inLoop c1::kk) cs
      cases e with
      | normal=>
        obtain⟨st',hr',h'⟩:=hq;obtain⟨e2,a2,w2,hq2,harr2⟩:=ih st' a1 w1 hr' h';exact⟨e2,a2,w2,hq2,.of_steps (Steps.trans harr (.one step_inLoop)) harr2⟩
      |exit id=>exact⟨_,a1,w1,hq,.pass (x:=.inLoop c1) rfl (λ _ _=>.inl (by simp)) harr⟩
      |goto l=>exact⟨_,a1,w1,hq,.pass (x:=.inLoop c1) rfl (λ _ _=>.inl (by simp)) harr⟩
      |ret=>exact⟨_,a1,w1,hq,.pass (x:=.inLoop c1) rfl (λ _ _=>.inl (by simp)) harr⟩
      |panic ch=>exact⟨_,a1,w1,hq,.pass (x:=.inLoop c1) rfl (λ _ _=>.inl (by simp)) harr⟩
      |outgrown=>exact⟨_,a1,w1,hq,.pass (x:=.inLoop c1) rfl (λ _ _=>.inl (by simp)) harr⟩
   obtain⟨e,a',w',hq,harr⟩:=key n st a w hr hn;exact⟨e,a',w',hq,.of_steps (.one step_loop) harr⟩
 | .exit i,c,hk,_,k,Q,hQ,st,a,w,hr,h=>by
   cases c<;>simp only[Ei,Bd] at hk;rename_i j _
   have:j=i:=by simpa using hk
   subst this;exact wp_exit (hQ (.exit j) _ _ _ hr h)
 | .ret,c,hk,_,k,Q,hQ,st,a,w,hr,h=>by
   cases c<;>simp[Ei] at hk;exact wp_ret (hQ .ret _ _ _ hr h)
end
def E4(P:Program):List ResultVar->List ARes->Bool
 |[],[]=>true
 |.tmp t::r,.tmp u::s=>t == u&&E4 P r s
 |.cell a ty::r,.cell b n::s=>a == b&&GJ P ty n&&E4 P r s
 |_,_=>false
def Fs(P:Program)(fn:Func)(f:AFun):Bool:=
 (match fn.body with|some c=>Ei P c f.body|none=>false)&&E4 P fn.results.toList f.res&&decide (f.nparams<=f.nslots)&&decide (f.nslots<=fn.ntmps)
def Ft(P:Program)(fn:Func)(f:AFun):List (FuncId×A7):=match fn.body with|some c=>K4 P c f.body|none=>[]
theorem Co(s:List V)(i:Nat):get s i=s[i]?.getD .undef:=by
 induction s generalizing i with
 |nil=>rfl
 | cons x r ih=>cases i with
   |zero=>rfl
   |succ i=>simp only[get,Qs];exact ih i
theorem yw(n i:Nat):(DY n)[i]?.getD V.undef= .undef:=by
 induction n generalizing i with
 |zero=>rfl
 | succ n ih=>cases i with
   |zero=>rfl
   |succ i=>simpa [DY] using ih i
theorem dA(n:Nat):(DY n).length=n:=by
 induction n with
 |zero=>rfl
 |succ n ih=>simp[DY,ih]
theorem TJ(n i:Nat)(cs:List V)(h:(F8 n)[i]?=some cs):cs=[]:=by
 induction n generalizing i with
 |zero=>simp[F8] at h
 | succ n ih=>cases i with
   |zero=>simp[F8] at h;exact h
   |succ i=>exact ih i (by simpa [F8] using h)
theorem Rel.ok1{ι:AA}{σ:Ab}{β:Nat->Nat}{v:V}{x:Value}(hv:v.ok1=true)(h:Rel ι σ β v x)(β':Nat->Nat):Rel ι σ β' v x:=
 h.mono (.refl _ _) λ i o e=>by subst e;simp[V.ok1,V.cell] at hv
section
variable {P:Program} {ι:AA} {β:Nat->Nat} {st:St} {a:Act} {w0 w:World} (H:HRel ι st.hp w) (B:BRel ι st.hp β st.bx w0 w) (S:SRel ι st.hp β st.sl a.tmps)
include H B S
def KU(tmps:Array Value):ResultVar->Sem Value
 |.tmp t=>pure (tmps.getD t undef)
 |.cell a t=>do loadVar t (<- asAddr (tmps.getD a undef))
theorem Zbn{r:ResultVar}{ar:ARes}{v:V}(hk:E4 P [r] [ar]=true)(e:F4 st ar=some v):∃ x,(KU a.tmps r).run P w= .ok x w/\v.ok1=true/\∀ β,Rel ι st.hp β v x:=by
 cases r with
 | tmp t=>cases ar with
   | tmp u=>
     simp[E4] at hk;subst hk;simp only[F4] at e;split at e
     . rename_i ho;cases e;exact⟨_,rfl,ho,λ β'=>(S.2 t).ok1 ho β'⟩
     . cases e
   |cell u n=>simp[E4] at hk
 | cell t ty => cases ar with
   |tmp u=>simp[E4] at hk
   | cell u n=>
     simp[E4] at hk;obtain⟨rfl,hk⟩:=hk;simp only[F4] at e
     have fin:∀ (ad:Addr) (cs:List V) (ws:List Value),a.tmps.getD t Go.undef= .pointer (some ad)->Ci n cs=some v->ws.length=n.getD 1->cs.length=n.getD 1->(∀ u,u∈cs->u.cell=true) ->
      (∀ (j:Nat) y,ws[j]?=some y->w.cell? (ad.add j)=some y)->(∀ (j:Nat) u y,cs[j]?=some u->ws[j]?=some y->∀ β',Rel ι st.hp β' u y)->∃ x,(KU a.tmps (.cell t ty)).run P w= .ok x w/\v.ok1=true/\∀ β,Rel ι st.hp β v x:=by
      intro ad cs ws ea e1 h1 h2 h3 h4 h5
      have hl:=SS (P:=P) hk h1 h4
      have hok:v.ok1=true:=by
       cases n with
       |some m=>simp[Ci] at e1;subst e1;simpa [V.ok1] using h3
       | none=>
         match cs,h2 with
         |[c],_=>simp[Ci] at e1;subst e1;have:=h3 c (by simp);cases c<;>first|exact this|simp[V.cell] at this
      rcases Tn (ι:=ι) (σ:=st.hp) (β:=β) e1 (by rw[h1,h2]) h3 (λ j u y hu hy=>h5 j u y hu hy _) with⟨hn,hr⟩|⟨hn,y,hy,hr⟩
      . exact⟨_,by simp only[KU,ea,asAddr,Dr,N6,CN];exact hl.1 hn,hok,λ β'=>hr.ok1 hok β'⟩
      . exact⟨y,by simp only[KU,ea,asAddr,Dr,N6,CN];exact hl.2 hn y hy,hok,λ β'=>hr.ok1 hok β'⟩
     split at e
     . rename_i i q hq;have hs:=S.2 t;rw[hq] at hs;have ea:=Qc hs;split at e
       . rename_i hle;by_cases h0:n.getD 1=0
         . exact fin _ [] [] ea (by rw[h0] at e;simpa using e) (by rw[h0];rfl) (by rw[h0];rfl) (by simp) (by simp) (by simp)
         . have hne:AR st.bx i≠[]:=λ h=>by rw[h] at hle;simp at hle;omega
           have hbi:st.bx[i]?=some (AR st.bx i):=by
            rw[Qd] at hne ⊢
            cases h:st.bx[i]? with
            |none=>rw[h] at hne;exact absurd rfl hne
            |some c=>rfl
           obtain⟨arr,el,harr,hsz,hcells⟩:=B.cells i _ hbi hne;refine fin _ _ ((arr.toList.drop q).take (n.getD 1)) ea e (by simp;omega) (Pr hle) (λ u hu=>?_) (λ j y hy=>?_) (λ j u y hu hy=>?_)
           . obtain⟨k,hk⟩:=H7 hu;obtain⟨_,hk⟩:=Ew hk;exact(hcells _ _ hk).1
           . obtain⟨_,hy⟩:=Ew hy;rw[KD];simp only[World.cell?,harr];simpa using hy
           . obtain⟨_,hu⟩:=Ew hu;obtain⟨_,y',hy',hr⟩:=hcells _ _ hu;obtain⟨_,hy⟩:=Ew hy
             have:arr[q+j]?=some y:=by simpa using hy
             rw[hy'] at this;cases this;exact hr
       . cases e
     . rename_i l q hq;have hs:=S.2 t;rw[hq] at hs;have ea:=(Hl hs).2;simp only[BL] at e;obtain⟨cs,e0,e1⟩:=e;obtain⟨ws,h1,h2,h3,h4,h5⟩:=TD H e0;exact fin _ cs ws ea e1 h1 h2 h3 h4 h5
     . cases e
theorem dR:∀ (rs:List ResultVar) (ars:List ARes) (vs:List V),E4 P rs ars=true->Ek st ars=some vs->∃ xs:List Value,(rs.mapM (KU a.tmps)).run P w= .ok xs w/\vs.length=xs.length/\(∀ v,v∈vs->v.ok1=true) /\
 ∀ (i:Nat) v x,vs[i]?=some v->xs[i]?=some x->∀ β,Rel ι st.hp β v x
 |[],[],vs,_,e=>by simp[Ek] at e;subst e;exact⟨[],by simp,rfl,by simp,by simp⟩
 |[],_::_,_,h,_=>by simp[E4] at h
 |r::rs,[],_,h,_=>by cases r<;>simp[E4] at h
 | r :: rs,ar::ars,vs,h,e=>by
   have h1:E4 P [r] [ar]=true/\E4 P rs ars=true:=by
    cases r<;>cases ar<;>simp[E4] at h ⊢<;>simp[h]
   simp only[Ek] at e;split at e
   . rename_i v vs' e1 e2;cases e;obtain⟨x,q1,q2,q3⟩:=Zbn H B S h1.1 e1;obtain⟨xs,p1,p2,p3,p4⟩:=dR rs ars vs' h1.2 e2;refine⟨x::xs,by simp only[List.mapM_cons,Dr,q1,p1,CN,N6],by simp[p2],λ u hu=>?_,λ i u y hu hy=>?_⟩
     . rcases Ck.1 hu with rfl|hu
       . exact q2
       . exact p3 u hu
     . cases i with
       |zero=>simp at hu hy;subst hu;subst hy;exact q3
       |succ i=>exact p4 i u y (by simpa using hu) (by simpa using hy)
   . cases e
theorem wN{fn:Func}{ars:List ARes}{v:V}(hk:E4 P fn.results.toList ars=true)(e:Ep st ars=some v):∃ x,(results fn a.tmps).run P w= .ok x w/\∀ β,Rel ι st.hp β v x:=by
 have hres:∀ xs:List Value,(fn.results.toList.mapM (KU a.tmps)).run P w= .ok xs w->(results fn a.tmps).run P w= .ok (if h:xs.toArray.size=1 then xs.toArray[0] else .tuple xs.toArray) w:=by
  intro xs h
  have:(fn.results.mapM (KU a.tmps)).run P w= .ok xs.toArray w:=by
   rw[Array.mapM_eq_mapM_toList];simp only[Sem.run_map,h,CN]
  have e:results fn a.tmps=(fn.results.mapM (KU a.tmps)) >>= λ vs=>pure (if h:vs.size=1 then vs[0] else .tuple vs):=by
   unfold results;congr 1
  rw[e];simp only[Dr,this,CN];rfl
 have all:∀ vs,Ek st ars=some vs->(ars.length≠1/\v= .tup vs\/vs=[v])->∃ x,(results fn a.tmps).run P w= .ok x w/\∀ β,Rel ι st.hp β v x:=by
  intro vs hvs hcase;obtain⟨xs,p1,p2,p3,p4⟩:=dR H B S _ _ vs hk hvs;have hr:=hres xs p1;rcases hcase with⟨hne,rfl⟩|rfl
  . have hlen:∀ (l:List ARes) (vs:List V),Ek st l=some vs->vs.length=l.length:=by
     intro l
     induction l with
     |nil=>intro vs h;simp[Ek] at h;subst h;rfl
     | cons x r ih=>
       intro vs h;simp only[Ek] at h;split at h
       . rename_i v' vs' _ e2;cases h;simp[ih vs' e2]
       . cases h
    have:xs.toArray.size≠1:=by
     have:=hlen ars vs hvs;simp;omega
    rw[dif_neg this] at hr;exact⟨_,hr,λ β=>.tup vs xs p2 p3 λ i u x hu hx=>p4 i u x hu hx β⟩
  . match xs,p2 with
    | [x],_=>
      rw[dif_pos (by rfl)] at hr;exact⟨x,hr,p4 0 v x rfl rfl⟩
 match ars,e with
 |[],e=>simp[Ep,Ek] at e;subst e;exact all [] rfl (.inl ⟨by simp,rfl⟩)
 |[r],e=>exact all [v] (by simp only[Ep] at e;simp[Ek,e]) (.inr rfl)
 | r1::r2::rs,e=>
   simp only[Ep,B4] at e;obtain⟨vs,e1,e2⟩:=e;exact all vs e1 (.inl ⟨by simp,e2.symm⟩)
end
theorem Rel.flat{ι ι':AA}{σ σ':Ab}{β β':Nat->Nat}{v:V}{x:Value}(hv:v.flat2=true)(h:Rel ι σ β v x):Rel ι' σ' β' v x:=by
 have f0:∀ {v:V} {x:Value},v.flat=true->Rel ι σ β v x->Rel ι' σ' β' v x:=by
  intro v x hv h
  cases h<;>first
   |exact .bool _
   |exact .int _ _
   |exact .str _
   |exact .nils _
   |exact .nilIfc
   |exact .ifc _ _
   |simp[V.flat] at hv
 have f1:∀ {v:V} {x:Value},v.flat1=true->Rel ι σ β v x->Rel ι' σ' β' v x:=by
  intro v x hv h
  cases h with
  | agg cs ws hl hk h=>
    simp only[V.flat1,CV] at hv
    exact .agg cs ws hl hk λ i u y hu hy=>f0 (hv u (GB hu)) (h i u y hu hy)
  |tup cs ws hl hk h=>simp[V.flat1,V.flat] at hv
  |_=>exact f0 hv (by constructor<;>assumption)
 cases h with
 | tup cs ws hl hk h=>
   simp only[V.flat2,CV] at hv
   exact .tup cs ws hl hk λ i u y hu hy=>f1 (hv u (GB hu)) (h i u y hu hy)
 |agg cs ws hl hk h=>exact f1 hv (.agg cs ws hl hk h)
 |_=>exact f1 hv (by constructor<;>assumption)
theorem NJ{σ h0:Ab}(hp:σ.take h0.length=h0){l:Nat}{blk:Blk}(h:h0[l]?=some blk):σ[l]?=some blk:=by
 rw[<- hp,Hq] at h;split at h
 . exact h
 . cases h
theorem bU{Φ:Phm}{st:St}{ι:AA}{β:Nat->Nat}{tm:Array Value}(S:SRel ι (kill Φ st.hp) β st.sl tm)(r:ARes):∀ {v},F4 st r=some v->F4 ⟨st.sl,st.bx,kill Φ st.hp⟩ r=some v:=by
 intro v e
 cases r with
 |tmp t=>exact e
 | cell t n=>
   simp only[F4] at e ⊢;have hr:=S.2 t;generalize get st.sl t=u at *
   cases u<;>first|exact e|skip
   rename_i l o;simp only at e ⊢;rw[NZ ((XC hr).2 l o rfl)];exact e
theorem bA{Φ:Phm}{st:St}{ι:AA}{β:Nat->Nat}{tm:Array Value}(S:SRel ι (kill Φ st.hp) β st.sl tm):∀ (rs:List ARes) {vs},Ek st rs=some vs->Ek ⟨st.sl,st.bx,kill Φ st.hp⟩ rs=some vs
 |[],vs,e=>e
 | r :: rs,vs,e=>by
   simp only[Ek] at e ⊢
   split at e
   . rename_i v vs' e1 e2
     rw[bU S r e1,bA S rs e2];exact e
   . cases e
theorem wP{Φ:Phm}{st:St}{ι:AA}{β:Nat->Nat}{tm:Array Value}(S:SRel ι (kill Φ st.hp) β st.sl tm)(rs:List ARes){v:V}(e:Ep st rs=some v):Ep ⟨st.sl,st.bx,kill Φ st.hp⟩ rs=some v:=by
 match rs,e with
 |[],e=>exact e
 |[r],e=>exact bU S r e
 | r1::r2::rs,e=>
   simp only[Ep,B4] at e ⊢;obtain⟨vs,e1,e2⟩:=e;exact⟨vs,bA S _ e1,e2⟩
theorem ZbW{ι ι':AA}{h0 σ:Ab}{w w':World}(H0:HRel ι h0 w)(H:HRel ι' σ w')(T:Step ι h0 w ι' σ w')(hp:σ.take h0.length=h0):HRel ι' h0 w'/\Step ι h0 w ι' h0 w':=by
 refine⟨⟨λ l blk hl hk i v hv=>?_,λ l blk hl hk=>H.own l blk (NJ hp hl) hk,λ l l' b b' hne hl hl' hk hk'=>H.apart l l' b b' hne (NJ hp hl) (NJ hp hl') hk hk',λ l blk hl hk=>H.there l blk (NJ hp hl) hk⟩,?_⟩
 . obtain⟨q1,x,q2,q3⟩:=H.cells l blk (NJ hp hl) hk i v hv;obtain⟨_,x0,_,q4⟩:=H0.cells l blk hl hk i v hv;refine⟨q1,x,q2,λ β=>?_⟩;have h1:=q3 β;have h2:=q4 β
   cases v with
   | slice m o n=>
     obtain⟨b0,g0,_⟩:=Ff h2;have g1:=NJ hp g0;obtain⟨b1,g2,hc⟩:=Ff h1;rw[g1] at g2;cases g2;rcases hc with⟨c,rfl,c1,c2⟩|⟨rfl,a,rfl⟩
     . exact .slice m o n c b0 g0 c1 c2 (Kr h2 g0)
     . exact .sliceEnd m o b0 g0 a (Kr h2 g0)
   | ptr m o=>
     obtain⟨⟨b0,g0⟩,_⟩:=Hl h2;rw[(Hl h1).2];exact .ptr m o b0 g0 (Tp h2 g0)
   |undef=>simp[V.cell] at q1
   |box i o=>simp[V.cell] at q1
   |agg cs=>simp[V.cell] at q1
   |tup cs=>simp[V.cell] at q1
   |bool b=>exact h1.flat rfl
   |int k n=>exact h1.flat rfl
   |str s=>exact h1.flat rfl
   |nils=>exact h1.flat rfl
   |ifc b=>exact h1.flat rfl
 . exact { keeps:=⟨T.keeps.place,λ l blk h=>⟨blk,h,rfl⟩⟩
           kinds:=λ l b b' h h'=>.inl (by rw[h] at h';cases h';rfl)
           fresh:=λ l b hl h _=>by have:=Bj h;omega
           frame:=T.frame,size:=T.size,os:=T.os,output:=T.output,tape:=T.tape }
theorem xH{P:Program}(hm:P.follows .mixedOrders=true){f:FuncId}{fn:Func}{af:AFun}(hf:P.funcs[f]?=some fn)(hk:Fs P fn af=true)(hob:∀ p∈Ft P fn af,Aw P p.1 p.2):Aw P f (E3 af):=by
 intro Φ ι σ w args xs Q hΦ H hargs hsem hgl;haveI:GlC P ι (kill Φ σ) w:=⟨hgl⟩;obtain⟨hlen,hawp⟩:=hsem;unfold Fs at hk;simp only[Ai,AB] at hk;obtain⟨⟨⟨k1,k2⟩,k3⟩,k4⟩:=hk;split at k1
 . rename_i c hb;unfold Ft at hob;rw[hb] at hob;have hl:args.length=xs.length:=hargs.1;refine calls_of_wp hf hb (LN hm af.body c k1 hob (UX af σ Q) _ ?_ _ _ _ (?_:Cx ι (kill Φ σ) w Φ _ _ w) hawp)
   . intro e st a w' hr h;obtain⟨hd,hH',ι',β,H',B',S',T'⟩:=hr
     have done:(match Ep st af.res with|some v=>if af.pure then v.flat2=true/\st.hp.take σ.length=σ/\Q v σ else Q v st.hp|none=>False)->a.defers=[]/\∃ v,(results fn a.tmps).run P w'= .ok v w'/\jb Φ ι σ w Q (.returned v) w':=by
      intro h;split at h
      . rename_i v hv;obtain⟨x,hx,hrel⟩:=wN (st:=⟨st.sl,st.bx,kill Φ st.hp⟩) H' B' S' k2 (wP S' af.res hv);refine⟨hd,x,hx,?_⟩;split at h
        . obtain⟨h1,h2,h3⟩:=h;obtain⟨n1,n2⟩:=ZbW H H' T' (by rw[DK,<- xL,h2]);exact⟨x,v,σ,ι',rfl,h3,hΦ,λ β=>(hrel β).flat h1,n1,n2⟩
        . exact⟨x,v,st.hp,ι',rfl,h,hH',hrel,H',T'⟩
      . exact h.elim
     cases e with
     |normal=>exact done h
     |ret=>exact done h
     |exit i=>exact h.elim
   . refine⟨rfl,hΦ,ι,λ _=>0,H,⟨λ i cs hi hne=>absurd (TJ _ _ _ hi) hne,λ i cs hi hne=>absurd (TJ _ _ _ hi) hne,λ i j cs cs' _ hi _ hne=>absurd (TJ _ _ _ hi) hne,λ i cs l blk hi hne=>absurd (TJ _ _ _ hi) hne⟩,⟨?_,λ i=>?_⟩,.refl _ _ _⟩
     . simp[dA];omega
     . rw[Co];by_cases hi:i<args.length
       . rw[Bc hi]
         have hi':i<xs.length:=by omega
         have e1:args[i]?=some args[i]:=A3 hi
         have e2:(xs.toArray++Array.replicate (fn.ntmps-xs.toArray.size) Go.undef).getD i Go.undef=xs[i]:=by
          rw[Lb,Array.getElem?_append_left (by simpa using hi')];simp[hi']
         rw[e1,e2];exact hargs.2 i _ _ e1 (A3 hi') _
       . rw[CF (by omega),yw];exact .undef _
 . cases k1
def AllSound(P:Program):List (FuncId×A7)->Prop
 |[]=>True
 |[p]=>Aw P p.1 p.2/\True
 |p::r=>Aw P p.1 p.2/\AllSound P r
theorem AllSound.mem{P:Program}:∀ {l:List (FuncId×A7)},AllSound P l->∀ p∈l,Aw P p.1 p.2
 |[],_,p,h=>by simp at h
 | [q],h,p,hp=>by
   rw[List.mem_singleton] at hp
   subst hp;exact h.1
 | q::r::l,h,p,hp=>by
   rcases Ck.1 hp with rfl|hp
   . exact h.1
   . exact AllSound.mem h.2 p hp
theorem G6{P:Program}(hm:P.follows .mixedOrders=true){f:FuncId}{fn:Func}{af:AFun}{obs:List (FuncId×A7)}(hf:P.funcs[f]?=some fn)(hk:Fs P fn af=true)(ho:Ft P fn af=obs)(hob:AllSound P obs) :
 Aw P f (E3 af):=
 xH hm hf hk (by rw[ho];exact hob.mem)
inductive Hd where
 |s (t:Nat)|b (i:Nat)|h (i:Nat)|x (i:Nat)
 deriving DecidableEq
inductive Ql where
 |frz|own|ownw (w:Nat)|bor (hd:Hd) (p:List Nat) (top:Bool)|pre (hd:Hd) (p:List Nat)
 deriving DecidableEq
def Ql.isOwn:Ql->Bool
 |.own|.ownw _=>true
 |_=>false
inductive PV where
 |fl (x:V)
 |sl (q:Ql) (es:List (List PV))
 |ep (q:Ql) (es:List (List PV)) (j o:Nat)
 |box (i o:Nat)
 |ptr (i o:Nat)
 |agg (cs:List PV)
 |tup (vs:List PV)
structure PS where
 sl:List PV
 bx:List (List PV)
 hp:List (List PV)
abbrev C3:=List PV->List (List PV)->(PV->List (List PV)->Prop)->Prop
structure PMk where
 agg:Bool
 f:List PV->Int->(List PV->Int->Prop)->Prop
 vd:Bool
structure PTk where
 w:Nat
 sel:PV->List (List PV)->(List Nat->Prop)->Prop
inductive POp where
 |a (m:Bool) (o:AOp)
 |aw (ws:List (Nat×Nat)) (m:Bool) (o:AOp)
 |call (m:Bool) (f:A7) (p:C3) (args:List Opnd)
 |callk (m:Bool) (f:A7) (p:C3) (args:List Opnd)
 |callv (m:Bool) (f:A7) (p:C3) (args:List Opnd) (i c:Nat)
 |mark (f:A7) (M:PMk) (x k:Opnd)
 |tk (f:A7) (T:PTk) (x y:Opnd)
 |fz (x:Opnd)
 |clm (a:Opnd) (t:Nat) (o:AOp)
 |fzb (a:Opnd) (o:AOp)
structure POper where
 id:Nat
 dst:Option Nat
 op:POp
 guard:Option (Nat×Bool)
 anc:List Nat
inductive PCode where
 |skip
 |region (ops:List POper)
 |regionU (ops:List POper)
 |seq (l:List Nat) (a b:PCode)
 |cond (c:Opnd) (a b:PCode)
 |block (id:Nat) (a:PCode)
 |scope (a:PCode)
 |loop (live:List Nat) (a:PCode)
 |exit (id:Nat)
 |ret
def POp.er:POp->AOp
 |.a _ o=>o
 |.aw _ _ o=>o
 |.call _ f _ args=>.call f args
 |.callk _ f _ args=>.callB .all f args
 |.callv _ f _ args i c=>.callB (.box i c) f args
 |.fz x=>.mv x
 |.clm _ _ o=>o
 |.fzb _ o=>o
 |.tk f _ x y=>.call f [x,y]
 |.mark f M x k=>.call f (match M.vd with|true=>[x]|false=>[x,k])
def POper.er(o:POper):AOper:=⟨o.id,o.dst,o.op.er,o.guard,o.anc⟩
def PCode.er:PCode->ACode
 |.skip=>.skip
 |.region ops=>.region (ops.map POper.er)
 |.regionU ops=>.regionU (ops.map POper.er)
 |.seq _ a b=>.seq a.er b.er
 |.cond c a b=>.cond c a.er b.er
 |.block i a=>.block i a.er
 |.scope a=>a.er
 |.loop l a=>.loop l a.er
 |.exit i=>.exit i
 |.ret=>.ret
def Aa:List PV->Nat->PV
 |[],_=>.fl .undef
 |x::_,0=>x
 |_::r,n+1=>Aa r n
def BA:List PV->Nat->PV->List PV
 |[],_,_=>[]
 |_::r,0,v=>v::r
 |x::r,n+1,v=>x::BA r n v
def Ak:List (List PV)->Nat->List PV
 |[],_=>[]
 |x::_,0=>x
 |_::r,n+1=>Ak r n
def BR:List (List PV)->Nat->List PV->List (List PV)
 |[],_,_=>[]
 |_::r,0,v=>v::r
 |x::r,n+1,v=>x::BR r n v
def AS:List PV->Nat->List PV->List PV
 |cs,_,[]=>cs
 |[],_,_::_=>[]
 |_::r,0,v::vs=>v::AS r 0 vs
 |c::r,n+1,v::vs=>c::AS r n (v::vs)
def segm:List PV->Nat->Nat->List PV
 |_,0,0=>[]
 |[],_,_=>[]
 |c::r,0,n+1=>c::segm r 0 n
 |_::r,o+1,n=>segm r o n
def Bb:List (List PV)->Nat->List PV
 |[],_=>[]
 |e::_,0=>e
 |_::r,n+1=>Bb r n
def CL:List (List PV)->Nat->List PV->List (List PV)
 |[],_,_=>[]
 |_::r,0,e=>e::r
 |x::r,n+1,e=>x::CL r n e
def CC(w:Nat):List (List PV)->Bool
 |[]=>true
 |e::r=>e.length == w&&CC w r
def Fm(w:Nat):Nat->List PV->List (List PV)
 |0,_=>[]
 |n+1,cs=>cs.take w::Fm w n (cs.drop w)
def PV.cells:PV->List PV
 |.agg cs=>cs
 |v=>[v]
def BO:V->PV
 |.nils=>.sl .own []
 |.tup []=>.tup []
 |.bool b=>.fl (.bool b)
 |.int k n=>.fl (.int k n)
 |.str s=>.fl (.str s)
 |.ifc b=>.fl (.ifc b)
 |_=>.fl .undef
mutual
def PV.own:PV->Bool
 |.sl .own _=>true
 |.sl (.ownw _) _=>true
 |.agg cs=>PV.ownL cs
 |.tup vs=>PV.ownL vs
 |_=>false
def PV.ownL:List PV->Bool
 |[]=>false
 |v::r=>v.own||PV.ownL r
end
mutual
def PV.bor(hd:Hd):PV->Bool
 |.sl (.bor h _ _) _=>h == hd
 |.sl (.pre h _) _=>h == hd
 |.ep (.bor h _ _) _ _ _=>h == hd
 |.ep (.pre h _) _ _ _=>h == hd
 |.agg cs=>PV.borL hd cs
 |.tup vs=>PV.borL hd vs
 |_=>false
def PV.borL(hd:Hd):List PV->Bool
 |[]=>false
 |v::r=>v.bor hd||PV.borL hd r
end
mutual
def PV.hold:PV->Bool
 |.sl .frz _=>false
 |.sl _ _=>true
 |.ep .frz _ _ _=>false
 |.ep _ _ _ _=>true
 |.agg cs=>PV.holdL cs
 |.tup vs=>PV.holdL vs
 |_=>false
def PV.holdL:List PV->Bool
 |[]=>false
 |v::r=>v.hold||PV.holdL r
end
mutual
def PV.fz:PV->PV
 |.sl _ es=>.sl .frz es
 |.ep _ es j o=>.ep .frz es j o
 |.agg cs=>.agg (PV.fzL cs)
 |.tup vs=>.tup (PV.fzL vs)
 |v=>v
def PV.fzL:List PV->List PV
 |[]=>[]
 |v::r=>v.fz::PV.fzL r
end
mutual
def PV.detop:PV->PV
 |.sl (.bor h p _) es=>.sl (.bor h p false) es
 |.sl (.pre h p) es=>.sl (.bor h p false) es
 |.ep (.bor h p _) es j o=>.ep (.bor h p false) es j o
 |.ep (.pre h p) es j o=>.ep (.bor h p false) es j o
 |.agg cs=>.agg (PV.detopL cs)
 |.tup vs=>.tup (PV.detopL vs)
 |v=>v
def PV.detopL:List PV->List PV
 |[]=>[]
 |v::r=>v.detop::PV.detopL r
end
mutual
def PV.deep:PV->Bool
 |.fl _=>true
 |.sl .own es=>PV.deepE es
 |.sl (.ownw _) es=>PV.deepE es
 |.agg cs=>PV.deepL cs
 |.tup vs=>PV.deepL vs
 |.ptr _ _=>true
 |_=>false
def PV.deepL:List PV->Bool
 |[]=>true
 |v::r=>v.deep&&PV.deepL r
def PV.deepE:List (List PV)->Bool
 |[]=>true
 |e::r=>PV.deepL e&&PV.deepE r
end
mutual
def PV.hasPtr:PV->Bool
 |.ptr _ _=>true
 |.agg cs=>PV.hasPtrL cs
 |.tup vs=>PV.hasPtrL vs
 |_=>false
def PV.hasPtrL:List PV->Bool
 |[]=>false
 |v::r=>v.hasPtr||PV.hasPtrL r
end
mutual
def PV.shift(n:Nat):PV->PV
 |.ptr i o=>.ptr (n+i) o
 |.agg cs=>.agg (PV.shiftL n cs)
 |.tup vs=>.tup (PV.shiftL n vs)
 |v=>v
def PV.shiftL(n:Nat):List PV->List PV
 |[]=>[]
 |v::r=>v.shift n::PV.shiftL n r
end
def PV.cell:PV->Bool
 |.fl x=>x.flat
 |.sl .own _|.sl .frz _|.sl (.ownw _) _=>true
 |_=>false
def PV.flatc:PV->Bool
 |.fl x=>x.flat
 |_=>false
def B1:List PV->Bool
 |[]=>true
 |v::r=>v.cell&&B1 r
def GM:List PV->Bool
 |[]=>true
 |v::r=>v.flatc&&GM r
def Ic:List (List PV)->Bool
 |[]=>true
 |e::r=>GM e&&Ic r
def PV.argc:PV->Bool
 |.fl x=>x.flat
 |.sl _ _|.ptr _ _=>true
 |_=>false
def Is:List PV->Bool
 |[]=>true
 |v::r=>v.argc&&Is r
def PV.argok:PV->Bool
 |.agg cs=>Is cs
 |v=>v.argc
def Gx:List PV->Bool
 |[]=>true
 |v::r=>v.argok&&Gx r
def PV.retc:PV->Bool
 |.ptr _ _=>true
 |v=>v.cell
def EK:List PV->Bool
 |[]=>true
 |v::r=>v.retc&&EK r
def PV.retok:PV->Bool
 |.agg cs=>EK cs
 |v=>v.retc
def clr(hd:Hd):List PV->List PV
 |[]=>[]
 |v::r=>(if v.bor hd then .fl .undef else v)::clr hd r
def PV.isBox(i:Nat):PV->Bool
 |.box j _=>i == j
 |_=>false
def FP(i:Nat):List PV->List PV
 |[]=>[]
 |v::r=>(if v.isBox i then .fl .undef else v)::FP i r
def El(live:List Nat):Nat->List PV->List PV
 |_,[]=>[]
 |n,v::r=>(if live.contains n then v.detop else .fl .undef)::El live (n+1) r
def Fp(live:List Nat):Nat->List PV->List PV
 |_,[]=>[]
 |n,v::r=>(if live.contains n then v else .fl .undef)::Fp live (n+1) r
mutual
def PV.isH:PV->Bool
 |.sl (.bor (.h _) _ _) _=>true
 |.sl (.pre (.h _) _) _=>true
 |.ep (.bor (.h _) _ _) _ _ _=>true
 |.ep (.pre (.h _) _) _ _ _=>true
 |.agg cs=>PV.isHL cs
 |.tup vs=>PV.isHL vs
 |_=>false
def PV.isHL:List PV->Bool
 |[]=>false
 |v::r=>v.isH||PV.isHL r
end
def clrH:List PV->List PV
 |[]=>[]
 |v::r=>(if v.isH then .fl .undef else v)::clrH r
def Opnd.pev(s:List PV):Opnd->PV
 |.t n=>Aa s n
 |.c v=>BO v
def PS.put(st:PS)(d:Option Nat)(v:PV):PS:=
 match d with
 |none=>st
 |some d=>if v.own then { st with sl:=clr (.s d) (BA st.sl d v) } else { st with sl:=BA st.sl d v }
def Gd(v:PV)(n:Nat)(st:PS):PV×PS:=if v.own then (if v.bor (.s n) then (.fl .undef,st) else (v,{ st with sl:=clr (.s n) (BA st.sl n (.fl .undef)) })) else (v,st)
def mvOut(x:Opnd)(st:PS):PV×PS:=match x with
 |.c v=>(BO v,st)
 |.t n=>Gd (Aa st.sl n) n st
def U8(v:PV)(n:Nat)(st:PS):PV×PS:=if v.own then (if v.retok then (v.fz,{ st with sl:=clr (.s n) (BA st.sl n v.fz) }) else (.fl .undef,st)) else (v,st)
def fzOut(x:Opnd)(st:PS):PV×PS:=match x with
 |.c v=>(BO v,st)
 |.t n=>U8 (Aa st.sl n) n st
def PV.fcell:PV->List Nat->PV
 |.agg cs,[c]=>Aa cs c
 |.agg _,_=>.fl .undef
 |.tup vs,[i,c]=>Aa (Aa vs i).cells c
 |.tup _,_=>.fl .undef
 |v,[0]=>v
 |_,_=>.fl .undef
def PV.setc:PV->List Nat->PV->PV
 |.agg cs,[c],w=>.agg (BA cs c w)
 |.agg cs,_,_=>.agg cs
 |.tup vs,_,_=>.tup vs
 |_,[0],w=>w
 |v,_,_=>v
def CB(st:PS):Hd->List Nat->PV
 |.s t,p=>(Aa st.sl t).fcell p
 |.b i,[c]=>Aa (Ak st.bx i) c
 |.h i,[c]=>Aa (Ak st.hp i) c
 |_,_=>.fl .undef
def setK(st:PS)(v:PV):Hd->List Nat->PS
 |.s t,p=>{ st with sl:=clr (.s t) (BA st.sl t ((Aa st.sl t).setc p v)) }
 |.b i,[c]=>{ st with sl:=clr (.b i) st.sl,bx:=BR st.bx i (BA (Ak st.bx i) c v) }
 |.h i,[c]=>{ st with sl:=clr (.h i) st.sl,hp:=BR st.hp i (BA (Ak st.hp i) c v) }
 |_,_=>st
def CD(hd:Hd)(p:List Nat):PV->PV
 |.sl .own es=>.sl (.bor hd p true) es
 |.sl (.ownw _) es=>.sl (.pre hd p) es
 |v=>v
def F9(hd:Hd):Nat->List PV->List PV
 |_,[]=>[]
 |c,v::r=>CD hd [c] v::F9 hd (c+1) r
def Kc:Ql->PV->PV
 |_,.fl x=>.fl x
 |.frz,.sl _ es=>.sl .frz es
 |.bor hd _ _,.sl .own es=>.sl (.bor hd [] false) es
 |.bor hd _ _,.sl (.ownw _) es=>.sl (.bor hd [] false) es
 |.bor ..,.sl .frz es=>.sl .frz es
 |.pre hd _,.sl .own es=>.sl (.bor hd [] false) es
 |.pre hd _,.sl (.ownw _) es=>.sl (.bor hd [] false) es
 |.pre ..,.sl .frz es=>.sl .frz es
 |_,_=>.fl .undef
def Hz(hd:Hd):PV->PV
 |.agg cs=>.agg (F9 hd 0 cs)
 |.tup vs=>if PV.ownL vs then .fl .undef else .tup vs
 |v=>CD hd [0] v
def K9(x:Opnd)(st:PS):PV×PS:=match x with
 |.c v=>(BO v,st)
 |.t n=>(Hz (.s n) (Aa st.sl n),st)
def E7(q:Ql):List PV->List PV
 |[]=>[]
 |v::r=>Kc q v::E7 q r
def CK:List PV->List PV
 |[]=>[]
 |v::r=>(if v.own then .fl .undef else v)::CK r
def Ds(n:Option Nat)(cs:List PV):Option PV:=
 match n,cs with
 |some _,cs=>some (.agg cs)
 |none,[v]=>some v
 |none,_=>none
def Mq(d:Nat):Option PV->Option Nat
 |none=>some d
 |some (.fl (.int _ i))=>if 0<=i then some i.toNat else none
 |some _=>none
def DZ:List PV->Option (List V)
 |[]=>some []
 |.fl x::r=>(match DZ r with|some l=>some (x::l)|none=>none)
 |_::_=>none
def F2:List PV->List (Nat×Nat×Opnd)->PS->Option (List PV×PS)
 |cs,[],st=>some (cs,st)
 | cs,(off,size,x)::r,st=>
   if (mvOut x st).1.cells.length=size/\off+size<=cs.length/\B1 (mvOut x st).1.cells=true then F2 (AS cs off (mvOut x st).1.cells) r (mvOut x st).2 else none
def Uc:PV->Option PV
 |.box i o=>some (.box i o)
 |.ptr i o=>some (.ptr i o)
 |.ep q es j o=>some (.ep q es j o)
 |_=>none
def Oy(op:BinOp):PV->PV->Option PV
 |.fl a,.fl b=>(Ca op a b).map .fl
 |_,_=>none
def QE(neg:Bool):PV->PV->Option PV
 |.fl (.bool a),.fl (.bool b)=>some (.fl (.bool (if neg then !(a == b) else a == b)))
 |_,_=>none
def QP(neg:Bool):PV->Option PV
 |.fl (.ifc a)=>some (.fl (.bool (if neg then !a else a)))
 |_=>none
def QU(n:Nat)(neg:Bool):PV->PV->Option PV
 | .agg a,.agg b=>(match DZ a,DZ b with
   |some a,some b=>if a.length=n/\b.length=n/\a.all V.flat=true/\b.all V.flat=true then (DQ a b).map λ t=>.fl (.bool (if neg then !t else t)) else none
   |_,_=>none)
 |_,_=>none
def Q5(op:UnOp):PV->Option PV
 |.fl a=>(Hy op a).map .fl
 |_=>none
def Qn(k:IntKind):PV->Option PV
 |.fl (.int _ n)=>some (.fl (.int k (k.wrap n)))
 |_=>none
def YF(_:PV):Option PV:=none
def EM(x:Opnd)(l:Nat):Ql->Option Ql
 |.frz=>some .frz
 |.own=>(match x with|.t n=>some (if l=0 then .pre (.s n) [0] else .bor (.s n) [0] false)|.c _=>none)
 |.ownw _=>none
 |.bor hd p t=>some (if t=true/\l=0 then .pre hd p else .bor hd p false)
 |.pre hd p=>some (if l=0 then .pre hd p else .bor hd p false)
def EH(x:Opnd):Ql->Option Ql
 |.frz=>some .frz
 |.own=>(match x with|.t n=>some (.bor (.s n) [0] true)|.c _=>none)
 |.ownw _=>none
 |.bor hd p t=>some (.bor hd p t)
 |.pre hd p=>some (.bor hd p true)
def P7(w:Nat)(x:Opnd)(lo hi:Option PV):PV->Option PV
 | .sl q es=>(match Mq 0 lo,Mq es.length hi with
   |some l,some h=>if l<=h/\h<=es.length/\0<es.length/\CC w es=true then (EM x (if lo.isNone then 0 else 1) q).map λ q=>.sl q ((es.drop l).take (h-l)) else none
   |_,_=>none)
 |_=>none
def Xd(_ _:Option PV)(_:PV):Option PV:=none
def TN(off:Nat):PV->Option PV
 |.box i o=>some (.box i (o+off))
 |.ptr i o=>some (.ptr i (o+off))
 |.ep q es j o=>some (.ep q es j (o+off))
 |_=>none
def P6(off:Nat)(n:Option Nat)(x:Opnd):PV->Option PV
 | .agg cs=>(match x with
   |.t t=>if off+n.getD 1<=cs.length then Ds n (F9 (.s t) off (segm cs off (n.getD 1))) else none
   |.c _=>none)
 |_=>none
def PN(w:Nat)(x:Opnd):PV->PV->Option PV
 |.sl q es,.fl (.int _ j)=>if 0<=j/\j<es.length/\CC w es=true then (EH x q).map λ q=>.ep q es j.toNat 0 else none
 |_,_=>none
def XG(_ _:PV):Option PV:=none
def QK:PV->Option PV
 |.sl _ es=>some (.fl (.int .i64 es.length))
 |_=>none
def XX(_:PV):Option PV:=none
def QM:PV->PV->Option PV
 |.fl (.int .i64 a),.fl (.int .i64 b)=>some (.fl (.int .i64 (if b<a then b else a)))
 |_,_=>none
def QI:PV->PV->Option PV
 |.fl (.int .i64 a),.fl (.int .i64 b)=>some (.fl (.int .i64 (if b > a then b else a)))
 |_,_=>none
def Hi(m:Bool)(i:Nat)(n:Option Nat)(a:PV)(st:PS):Option (PV×PS):=
 match a with
 | .box j o=>
   if i=j/\o+n.getD 1<=(Ak st.bx i).length then
    if m then (Ds n (segm (Ak st.bx i) o (n.getD 1))).map λ v=>(v,{ st with sl:=clr (.b i) st.sl,bx:=BR st.bx i (AS (Ak st.bx i) o (CK (segm (Ak st.bx i) o (n.getD 1)))) })
    else (Ds n (F9 (.b i) o (segm (Ak st.bx i) o (n.getD 1)))).map λ v=>(v,st)
   else none
 |_=>none
def Hn(m:Bool)(n:Option Nat)(a:PV)(st:PS):Option (PV×PS):=
 match a with
 | .ptr i o=>
   if i<st.hp.length/\o+n.getD 1<=(Ak st.hp i).length then
    if m then (Ds n (segm (Ak st.hp i) o (n.getD 1))).map λ v=>(v,{ st with sl:=clr (.h i) st.sl,hp:=BR st.hp i (AS (Ak st.hp i) o (CK (segm (Ak st.hp i) o (n.getD 1)))) })
    else (Ds n (F9 (.h i) o (segm (Ak st.hp i) o (n.getD 1)))).map λ v=>(v,st)
   else none
 |.ep q es j o=>if j<es.length/\o+n.getD 1<=(Bb es j).length/\q.isOwn=false then (Ds n (E7 q (segm (Bb es j) o (n.getD 1)))).map λ v=>(v,st) else none
 |_=>none
def PO(i n:Nat)(a x:Opnd)(st0:PS):Option (PV×PS):=
 match mvOut x st0 with
 | (v, st)=>match a.pev st0.sl with
   |.box j o=>if i=j/\i<st.bx.length/\v.cells.length=n/\o+n<=(Ak st.bx i).length/\B1 v.cells=true then
    some (.fl .undef,{ st with sl:=if PV.ownL (segm (Ak st.bx i) o n)||v.own then clr (.b i) st.sl else st.sl,bx:=BR st.bx i (AS (Ak st.bx i) o v.cells) }) else none
   |_=>none
def PL(n:Nat)(a x:Opnd)(st0:PS):Option (PV×PS):=
 match mvOut x st0 with
 | (v, st)=>match a.pev st.sl with
   |.ptr i o=>if i<st.hp.length/\v.cells.length=n/\o+n<=(Ak st.hp i).length/\B1 v.cells=true then
    some (.fl .undef,{ st with sl:=if PV.ownL (segm (Ak st.hp i) o n)||v.own then clr (.h i) st.sl else st.sl,hp:=BR st.hp i (AS (Ak st.hp i) o v.cells) }) else none
   | .ep (.bor hd [p] true) _ j o=>(match CB st hd [p] with
     |.sl .own es=>if j<es.length/\v.cells.length=n/\o+n<=(Bb es j).length/\B1 v.cells=true then some (.fl .undef,setK st (.sl .own (CL es j (AS (Bb es j) o v.cells))) hd [p]) else none
     |_=>none)
   |_=>none
def K7(_:Bool)(_:Option Nat)(_:PV)(_:PS):Option (Option PV):=none
def PV.nestX(i c:Nat):PV->Bool
 |.ep (.bor (.b i') [c'] true) _ _ _=>i == i'&&c == c'
 |_=>false
def PV.nest(_:PV):Option (Hd×Nat×Nat×Nat×Nat):=none
def W9(_:Nat)(_:Hd)(_ _ _ _:Nat)(_:PV)(_:PS):Option (PV×PS):=none
def ME(w:Nat)(y:Opnd)(st:PS):Option (List (List PV)×PS):=
 match y.pev st.sl with
 |.fl (.str s)=>if w=1 then some (s.map λ b=>[.fl (.int .u8 b.toNat)],st) else none
 |.sl .frz es=>if CC w es=true/\Ic es=true then some (es,st) else none
 |.sl (.bor ..) es=>if CC w es=true/\Ic es=true then some (es,st) else none
 |.sl (.pre ..) es=>if CC w es=true/\Ic es=true then some (es,st) else none
 |.sl .own es=>if CC w es=true then some (es,(mvOut y st).2) else none
 |.sl (.ownw _) []=>some ([],st)
 |_=>none
def J6(w:Nat)(x:Opnd)(new:List (List PV))(st:PS):Option (PV×PS):=
 match x.pev st.sl with
 |.sl .own es=>if 0<w/\CC w es=true/\AK ((es.length+new.length)*w) then some (.sl .own (es++new),(mvOut x st).2) else none
 |.sl (.ownw w') es=>if 0<w/\w'=w/\CC w es=true/\AK ((es.length+new.length)*w) then some (.sl (if new.length=0 then .ownw w else .own) (es++new),(mvOut x st).2) else none
 | .sl (.bor hd [c] true) es=>(match CB st hd [c] with
   |.sl .own eh=>if 0<w/\CC w eh=true/\es.length=eh.length/\AK ((eh.length+new.length)*w) then some (.sl .own (eh++new),setK st (.fl .undef) hd [c]) else none
   |_=>none)
 | .sl (.pre hd [c]) es=>(match CB st hd [c] with
   |.sl .own eh=>if 0<w/\CC w eh=true/\0<eh.length/\es.length<=eh.length/\AK ((es.length+new.length)*w) then some (.sl (if es.length+new.length=0 then .ownw w else .own) (eh.take es.length++new),setK st (.fl .undef) hd [c]) else none
   |.sl (.ownw w') eh=>if 0<w/\w'=w/\CC w eh=true/\0<eh.length/\es.length<=eh.length/\AK ((es.length+new.length)*w) then some (.sl (if es.length+new.length=0 then .ownw w else .own) (eh.take es.length++new),setK st (.fl .undef) hd [c]) else none
   |_=>none)
 |_=>none
def CW(st:PS)(o:Option PV):Option (PV×PS):=o.map λ v=>(v,st)
def Bu(m:Bool)(o:AOp)(st:PS):Option (PV×PS):=
 let e (x:Opnd):=x.pev st.sl
 match o with
 |.mv x=>some (if m then K9 x st else mvOut x st)
 |.nilck x=>CW st (Uc (e x))
 | .pick c a b=>(match e c with
   |.fl (.bool t)=>some (if t then mvOut a st else mvOut b st)
   |_=>none)
 |.allocB i zs=>if i<st.bx.length/\zs.all V.flat=true then some (.box i 0,{ st with sl:=clr (.b i) (FP i st.sl),bx:=BR st.bx i (zs.map BO) }) else none
 | .boxB i n x=>(match mvOut x st with
   |(v,st)=>if i<st.bx.length/\v.cells.length=n/\B1 v.cells=true then some (.box i 0,{ st with sl:=clr (.b i) (FP i st.sl),bx:=BR st.bx i v.cells }) else none)
 |.allocH zs=>if zs.all V.flat=true then some (.ptr st.hp.length 0,{ st with sl:=clr (.h st.hp.length) st.sl,hp:=st.hp++[zs.map BO] }) else none
 | .boxH n x=>(match mvOut x st with
   |(v,st)=>if v.cells.length=n/\B1 v.cells=true then some (.ptr st.hp.length 0,{ st with sl:=clr (.h st.hp.length) st.sl,hp:=st.hp++[v.cells] }) else none)
 |.build zs ps=>if zs.all V.flat=true then (F2 (zs.map BO) ps st).map fun(cs,st)=>(.agg cs,st) else none
 | .mkSlice w z len=>(match e len with
   |.fl (.int .i64 n)=>if 0<=n/\z.length=w/\0<w/\z.all V.flat=true/\AK (n.toNat*w) then some (.sl .own (List.replicate n.toNat (z.map BO)),st) else none
   |_=>none)
 | .litSlice w n zs ps=>
   if n=0 then some (.sl .own [],st)
   else if zs.all V.flat=true/\zs.length=n*w/\0<w then (F2 (zs.map BO) ps st).map fun(cs,st)=>(.sl .own (Fm w n cs),st)
   else none
 |.loadB i n a=>Hi m i n (e a) st
 | .loadH n a=>(match K7 m n (e a) st with
   |some r=>CW st r
   |none=>Hn m n (e a) st)
 | .loadX i c n a=>if (e a).nestX i c=true then (match K7 m n (e a) st with
   |some r=>CW st r
   |none=>none) else none
 |.storeB i n a x=>PO i n a x st
 | .storeH n a x=>(match (e a).nest with
   |some (hd,p,k,j,o)=>W9 n hd p k j o (e x) st
   |none=>PL n a x st)
 |.bin op x y=>CW st (Oy op (e x) (e y))
 |.eqB neg x y=>CW st (QE neg (e x) (e y))
 |.eqN neg x y=>(match y with|.c (.ifc true)=>CW st (QP neg (e x))|_=>none)
 |.eqA n neg x y=>CW st (QU n neg (e x) (e y))
 |.un op x=>CW st (Q5 op (e x))
 |.conv k x=>CW st (Qn k (e x))
 |.bstr x=>CW st (YF (e x))
 |.slice w x lo hi=>CW st (P7 w x (lo.map e) (hi.map e) (e x))
 |.substr x lo hi=>CW st (Xd (lo.map e) (hi.map e) (e x))
 |.fieldA off a=>CW st (TN off (e a))
 |.field off n x=>CW st (P6 off n x (e x))
 |.indexA w x i=>CW st (PN w x (e x) (e i))
 |.index x i=>CW st (XG (e x) (e i))
 |.len x=>CW st (QK (e x))
 |.lenT x=>CW st (XX (e x))
 | .app w x y=>(match ME w y st with
   |some (new,st)=>J6 w x new st
   |none=>none)
 | .appN w x y=>(match x.pev st.sl with
   | .sl .own []=>(match ME w y st with
     |some (new,st)=>J6 w x new st
     |none=>none)
   |_=>none)
 |.minI x y=>CW st (QM (e x) (e y))
 |.maxI x y=>CW st (QI (e x) (e y))
 | .extract x i=>(match x with
   | .t t=>(match Aa st.sl t with
     |.tup vs=>if i<vs.length then (if (Aa vs i).own then (if (Aa vs i).bor (.s t) then none else some (Aa vs i,{ st with sl:=clr (.s t) (BA st.sl t (.tup (BA vs i (.fl .undef)))) })) else some (Aa vs i,st)) else none
     |_=>none)
   |.c _=>none)
 |.callB ..=>none
mutual
def PV.ownr:PV->PV
 |.sl _ es=>.sl .own (PV.ownrE es)
 |v=>v
def PV.ownrL:List PV->List PV
 |[]=>[]
 |v::r=>v.ownr::PV.ownrL r
def PV.ownrE:List (List PV)->List (List PV)
 |[]=>[]
 |e::r=>PV.ownrL e::PV.ownrE r
end
def PV.nrm1:PV->PV
 |.sl .frz es=>.sl .frz (PV.ownrE es)
 |v=>v
def PV.nrmA:List PV->List PV
 |[]=>[]
 |v::r=>v.nrm1::PV.nrmA r
def PV.nrm:PV->PV
 |.agg cs=>.agg (PV.nrmA cs)
 |v=>v.nrm1
def fzArgs:List Opnd->PS->PS
 |[],st=>st
 |x::r,st=>fzArgs r (fzOut x st).2
def QB(p:C3)(args:List Opnd)(d:Option Nat)(k:PS->Prop)(st:PS):Prop:=
 let as:=args.map (·.pev st.sl)
 Gx as=true /\
 if as.any PV.hasPtr then
  (as.all λ v=>!v.hold)=true/\p ((as.map PV.fz).map PV.nrm) st.hp λ r H=>st.hp.length<=H.length/\r.hasPtr=false/\k (PS.put { st with sl:=clrH st.sl,hp:=H } d r)
 else
  p ((as.map PV.fz).map PV.nrm) [] λ r H=>(((!r.hasPtr&&r.deep)||as.all λ v=>!v.hold)=true) /\
    k (PS.put { st with hp:=if r.hasPtr then st.hp++H else st.hp } d (if r.hasPtr then r.shift st.hp.length else r))
def Yk(p:C3)(args:List Opnd)(d:Option Nat)(k:PS->Prop)(st:PS):Prop:=(args.map (·.pev st.sl)).any PV.hasPtr=false/\QB p args d k st
def gj(i c:Nat)(p:C3)(args:List Opnd)(d:Option Nat)(k:PS->Prop)(st:PS):Prop:=((args.map (·.pev st.sl)).any PV.hasPtr=true/\∃ es,CB st (.b i) [c]= .sl .own es)/\QB p args d k st
def EN(w:Nat):PV->Option PV
 |.sl .own es=>if w=0\/CC w es=true then some (.sl (.ownw w) es) else none
 |.sl (.ownw w') es=>if w=0\/w'=w then some (.sl (.ownw w) es) else none
 |_=>none
def MV:List (Nat×Nat)->List PV->Option (List PV)
 |[],l=>some l
 | (c,w)::r,l=>match EN w (Aa l c) with
   |some v=>MV r (BA l c v)
   |none=>none
def Es(ws:List (Nat×Nat)):PV->Option PV
 |.agg l=>(MV ws l).map .agg
 |.tup _=>none
 | v=>match ws with
   |[(0,w)]=>EN w v
   |_=>none
def Hd.sb:Hd->Bool
 |.s _|.b _|.h _=>true
 |_=>false
def PV.isAgg:PV->Bool
 |.agg _=>true
 |_=>false
def HB(st:PS)(hd:Hd):Nat->List PV->List PV->Prop
 |_,[],[]=>True
 |c,.sl q es::r,a::as=>q= .own/\(∃ qh,CB st hd [c]= .sl qh es/\∃ es',(qh= .own/\a= .sl (.bor hd [c] true) es'\/(∃ w,qh= .ownw w)/\a= .sl (.pre hd [c]) es')/\es'.length=es.length)/\HB st hd (c+1) r as
 |c,o::r,a::as=>a=o/\o.flatc=true/\HB st hd (c+1) r as
 |_,_,_=>False
def Ln:List PV->List PV->Prop
 |[],[]=>True
 |.sl .own _::r,n::ns=>(∃ es,n= .sl .own es)/\Ln r ns
 |_::r,n::ns=>(∀ q es,n≠.sl q es)/\Ln r ns
 |_,_=>False
def MG(hd:Hd):Nat->List PV->(PS->Prop)->PS->Prop
 |_,[],K,st=>K st
 |c,.sl _ es::r,K,st=>∃ q es0,q.isOwn=true/\CB st hd [c]= .sl q es0/\MG hd (c+1) r K (setK st (.sl q es) hd [c])
 |c,_::r,K,st=>MG hd (c+1) r K st
def YL(M:PMk)(x k:Opnd)(d:Option Nat)(K:PS->Prop)(st:PS):Prop:=
 ∃ (m:Int) (hd:Hd) (b:Nat) (AH:List PV),k.pev st.sl= .fl (.int .i64 m)/\(x.pev st.sl).isAgg=M.agg/\hd.sb=true/\(x.pev st.sl).argok=true/\HB st hd b AH (x.pev st.sl).cells /\
   M.f AH m λ news m'=>Ln AH news/\MG hd b news (λ st=>K (st.put d (match M.vd with|true=>.fl .undef|false=>.fl (.int .i64 m')))) st
def PV.hld:PV->Option (Hd×Nat)
 |.box i o=>some (.b i,o)
 |.ptr i o=>some (.h i,o)
 |_=>none
def UG(a:PV)(n:Nat)(st:PS):Option PS:=
 match a with
 |.box i o=>(Hi true i (some n) (.box i o) st).map (·.2)
 |.ptr i o=>(Hn true (some n) (.ptr i o) st).map (·.2)
 |_=>none
def U0(_:PV)(_:PS):Option PS:=none
def QD(st:PS)(hd:Hd):Nat->List PV->List PV->Prop
 |_,[],[]=>True
 |c,v::r,n::ns=>(n=v/\(∀ es,v= .sl .own es->∃ es0,CB st hd [c]= .sl .own es0)\/∃ w es i,(∃ e,v= .sl .own e)/\CB st hd [c]= .sl (.ownw w) es/\hd= .b i/\n= .sl (.ownw 0) es)/\QD st hd (c+1) r ns
 |_,_,_=>False
def YW(a:Opnd)(t:Nat)(K:PS->Prop)(st:PS):Prop:=
 ∃ hd b AH news st1,(a.pev st.sl).hld=some (hd,b)/\(Aa st.sl t).isAgg=true/\HB st hd b AH (Aa st.sl t).cells/\QD st hd b AH news/\UG (a.pev st.sl) AH.length st=some st1/\K (st1.put (some t) (.agg news))
def Zb(T:PTk)(x y:Opnd)(d:Option Nat)(K:PS->Prop)(st:PS):Prop:=
 ∃ t es,y= .t t/\Aa st.sl t= .sl .own es/\(x.pev st.sl).argok=true/\(x.pev st.sl).hasPtr=false/\CC T.w es=true/\0<T.w /\
   T.sel (x.pev st.sl).fz.nrm es λ idx=>(idx.Pairwise (· < ·)/\∀ i∈idx,i<es.length)/\K (PS.put { st with sl:=clr (.s t) (BA st.sl t (.fl .undef)) } d (.sl .own (idx.map (Bb es))))
def Cm(o:POp)(d:Option Nat)(k:PS->Prop)(st:PS):Prop:=
 match o with
 | .a m o=>match Bu m o st with
   |some (v,st)=>k (st.put d v)
   |none=>False
 | .aw ws m o=>match Bu m o st with
   | some (v,st)=>(match Es ws v with
     |some v=>k (st.put d v)
     |none=>False)
   |none=>False
 |.call m _ p args=>QB p args d k (if m then fzArgs args st else st)
 |.callk m _ p args=>Yk p args d k (if m then fzArgs args st else st)
 |.callv m _ p args i c=>gj i c p args d k (if m then fzArgs args st else st)
 |.mark _ M x y=>YL M x y d k st
 |.tk _ T x y=>Zb T x y d k st
 |.fz x=>k ((fzOut x st).2.put d (fzOut x st).1.nrm)
 | .fzb a o=>(match U0 (a.pev st.sl) st with
   | some st=>(match Bu false o st with
     |some (v,st)=>k (st.put d v)
     |none=>False)
   |none=>False)
 | .clm a t o=>YW a t (λ st=>match Bu false o st with
   |some (v,st)=>k (st.put d v)
   |none=>False) st
def Hx(o:POper)(k:PS->Prop)(st:PS):Prop:=
 match o.guard with
 |none=>Cm o.op o.dst k st
 | some (g,want)=>match Aa st.sl g with
   |.fl (.bool b)=>if b=want then Cm o.op o.dst k st else k (st.put o.dst (.tup []))
   |.tup []=>k (st.put o.dst (.tup []))
   |_=>False
def Ip:List POper->(PS->Prop)->PS->Prop
 |[],k,st=>k st
 |o::r,k,st=>Hx o (Ip r k) st
abbrev Fq:=AExit->PS->Prop
def YK(next:PS->Prop)(k:Fq):Fq
 |.normal,st=>next st
 |e,st=>k e st
def XB(id:Nat)(k:Fq):Fq
 |.exit j,st=>if j=id then k .normal st else k (.exit j) st
 |e,st=>k e st
mutual
def PV.pge(n:Nat):PV->Bool
 |.ptr i _=>Nat.ble n i
 |.agg cs=>PV.pgeL n cs
 |.tup vs=>PV.pgeL n vs
 |_=>false
def PV.pgeL(n:Nat):List PV->Bool
 |[]=>false
 |v::r=>v.pge n||PV.pgeL n r
end
def clrP(n:Nat):List PV->List PV
 |[]=>[]
 |v::r=>(if v.isH||v.pge n then .fl .undef else v)::clrP n r
def PS.trunc(n:Nat)(st:PS):PS:={ st with sl:=clrP n st.sl,hp:=st.hp.take n }
def QG(body:Fq->PS->Prop)(live:List Nat)(k:Fq):Nat->PS->Prop
 |0,_=>False
 |n+1,st=>body (YK (QG body live k n) k) { st with sl:=El live 0 st.sl }
def POper.plain(p:POper):Bool:=match p.op with
 |.a ..|.aw ..=>true
 |_=>false
def POper.canU(_ _:POper):Bool:=false
def QQ:List POper->Bool
 |p::q::r=>if p.er.pairU q.er then p.canU q else p.plain&&QQ (q::r)
 |_=>true
def Fv:PCode->Fq->PS->Prop
 |.skip,k,st=>k .normal st
 |.region ops,k,st=>Ip ops (k .normal) st
 |.regionU ops,k,st=>QQ ops=true/\Ip ops (k .normal) st
 |.seq l a b,k,st=>Fv a (YK (λ st=>Fv b k { st with sl:=Fp l 0 st.sl }) k) st
 | .cond c a b,k,st=>match c.pev st.sl with
   |.fl (.bool t)=>if t then Fv a k st else Fv b k st
   |_=>False
 |.block id a,k,st=>Fv a (XB id k) st
 |.scope a,k,st=>Fv a (λ e st'=>k e (st'.trunc st.hp.length)) st
 |.loop live a,k,st=>∃ n,QG (Fv a) live k n st
 |.exit id,k,st=>k (.exit id) st
 |.ret,k,st=>k .ret st
structure PFun where
 nparams:Nat
 nslots:Nat
 nbox:Nat
 pure:Bool
 res:List ARes
 body:PCode
def PFun.er(f:PFun):AFun:=⟨f.nparams,f.nslots,f.nbox,f.pure,f.res,f.body.er⟩
def H8(st:PS):ARes->Option (PV×PS)
 |.tmp t=>if (Aa st.sl t).retok then some (Gd (Aa st.sl t) t st) else none
 | .cell t n=>match Aa st.sl t with
   |.box i o=>if o+n.getD 1<=(Ak st.bx i).length/\EK (segm (Ak st.bx i) o (n.getD 1))=true then Hi true i n (.box i o) st else none
   |.ptr i o=>if i<st.hp.length/\o+n.getD 1<=(Ak st.hp i).length/\EK (segm (Ak st.hp i) o (n.getD 1))=true then Hn true n (.ptr i o) st else none
   |_=>none
def HW(st:PS):List ARes->Option (List PV×PS)
 |[]=>some ([],st)
 | r :: rs=>match H8 st r with
   | some (v,st)=>(match HW st rs with
     |some (vs,st)=>some (v::vs,st)
     |none=>none)
   |none=>none
def Mw(st:PS):List ARes->Option (PV×PS)
 |[r]=>H8 st r
 |rs=>(HW st rs).map fun(vs,st)=>(.tup vs,st)
def H9:Nat->List PV
 |0=>[]
 |n+1=>.fl .undef::H9 n
def K8:Nat->List (List PV)
 |0=>[]
 |n+1=>[]::K8 n
mutual
def PV.flt:PV->Bool
 |.fl x=>x.flat
 |.agg cs=>PV.fltL cs
 |.tup vs=>PV.fltL vs
 |_=>false
def PV.fltL:List PV->Bool
 |[]=>true
 |v::r=>v.flt&&PV.fltL r
end
def jh(pu:Bool)(res:List ARes)(Q:PV->List (List PV)->Prop):Fq
 | .normal,st|.ret,st=>match Mw st res with
   |some (v,st)=>if pu then v.flt=true/\Q v [] else Q v st.hp
   |none=>False
 |.exit _,_=>False
def N8(f:PFun):C3:=λ args H Q=>
 args.length=f.nparams/\(f.pure=true->H=[])/\Fv f.body (jh f.pure f.res Q) ⟨args++H9 (f.nslots-f.nparams),K8 f.nbox,H⟩
inductive W where
 |none|frz|own (hd:Hd) (p:List Nat)|ptr (i:Nat)
 deriving DecidableEq
inductive Md where
 |at (hd:Hd) (p:List Nat)|inn (hd:Hd) (p:List Nat)|fz|un (hd:Hd)
def Md.sub:Md->Ql->Nat->Md
 |.at hd p,.own,k=>.inn hd (p++[k])
 |.at hd p,.ownw _,k=>.inn hd (p++[k])
 |.at _ _,.frz,_=>.fz
 |.at _ _,.bor hd _ _,_=>.un hd
 |.at _ _,.pre hd _,_=>.un hd
 |.inn hd p,.own,k=>.inn hd (p++[k])
 |.inn hd p,.ownw _,k=>.inn hd (p++[k])
 |.inn _ _,_,_=>.fz
 |.fz,_,_=>.fz
 |.un hd,.own,_=>.un hd
 |.un hd,.ownw _,_=>.un hd
 |.un _,_,_=>.fz
def Md.tight:Md->Bool
 |.fz=>false
 |_=>true
def chk(ω:Nat->W):Md->Ql->Nat->Nat->Blk->Prop
 |.at hd p,.own,l,o,b=>ω l= .own hd p/\o=0/\b.k= .own
 |.at hd p,.ownw w,l,o,b=>ω l= .own hd p/\o=0/\b.k= .own/\(0<w->b.w=w)
 |.at _ _,.frz,l,_,_=>ω l= .frz
 |.at _ _,.bor hd p top,l,o,_=>((∃ p',ω l= .own hd p')\/ω l= .frz)/\(top=true->ω l= .own hd p/\o=0)
 |.at _ _,.pre hd p,l,o,_=>ω l= .own hd p/\o=0
 |.inn hd p,.own,l,o,b=>ω l= .own hd p/\o=0/\b.k= .own
 |.inn hd p,.ownw w,l,o,b=>ω l= .own hd p/\o=0/\b.k= .own/\(0<w->b.w=w)
 |.inn _ _,.frz,l,_,_=>ω l= .frz
 |.inn _ _,.bor ..,_,_,_=>False
 |.inn _ _,.pre ..,_,_,_=>False
 |.fz,_,l,_,_=>ω l= .frz
 |.un hd,.own,l,_,_=>(∃ p',ω l= .own hd p')\/ω l= .frz
 |.un hd,.ownw _,l,_,_=>(∃ p',ω l= .own hd p')\/ω l= .frz
 |.un _,.frz,l,_,_=>ω l= .frz
 |.un _,.bor ..,_,_,_=>False
 |.un _,.pre ..,_,_,_=>False
inductive RC (h:Ab) (ω:Nat->W):Md->PV->V->Prop
 |undef (m:Md) (u:V):RC h ω m (.fl .undef) u
 |v (m:Md) (x:V) (hx:x.flat=true):RC h ω m (.fl x) x
 |nil (m:Md) (q:Ql):RC h ω m (.sl q []) .nils
 |sl (m:Md) (q:Ql) (es:List (List PV)) (l o n:Nat) (b:Blk) (hb:h[l]?=some b) (hk:b.k≠.dead) (hc:chk ω m q l o b) (hne:m.tight=true->(q= .own\/∃ a p,q= .bor a p true)->es≠[]) (hn:n=es.length) (hw:∀ e∈es,e.length=b.w)
  (hle:o+es.length*b.w<=b.cs.length) (hr:∀ k,k<es.length*b.w->RC h ω (m.sub q k) (Aa es.flatten k) (get b.cs (o+k))):RC h ω m (.sl q es) (.slice l o n)
 |ep (m:Md) (q:Ql) (es:List (List PV)) (j o' l o p:Nat) (b:Blk) (hb:h[l]?=some b) (hk:b.k≠.dead) (hq:q.isOwn=false) (hc:chk ω m q l o b) (hw:∀ e∈es,e.length=b.w)
  (hle:o+es.length*b.w<=b.cs.length) (hr:∀ k,k<es.length*b.w->RC h ω (m.sub q k) (Aa es.flatten k) (get b.cs (o+k))) (hp:p=o+j*b.w+o'):RC h ω m (.ep q es j o') (.ptr l p)
 |box (m:Md) (i o:Nat):RC h ω m (.box i o) (.box i o)
 |ptr (hd:Hd) (p:List Nat) (i o l:Nat) (hl:ω l= .ptr i):RC h ω (.at hd p) (.ptr i o) (.ptr l o)
def PV.q:PV->Option Ql
 |.sl (.pre a b) _=>some (.bor a b true)
 |.sl q _=>some q
 |.ep .frz _ _ _=>some .frz
 |.ep (.pre a b) _ _ _=>some (.bor a b true)
 |.ep (.bor a b c) _ _ _=>some (.bor a b c)
 |_=>none
def PV.qo:PV->Bool
 |.sl q _=>q.isOwn
 |_=>false
theorem RC.map {h h':Ab} {ω ω':Nat->W} (S:Md->Md->Prop)
 (hs:∀ m m' q k,S m m'->S (m.sub q k) (m'.sub q k))
 (hb:∀ m m' q l o b,S m m'->h[l]?=some b->chk ω m q l o b->h'[l]?=some b/\chk ω' m' q l o b)
 (hp:∀ hd p m',¬ S (.at hd p) m')
 (ht:∀ m m',S m m'->m'.tight=true->m.tight=true)
 {m:Md} {v:PV} {u:V} (r:RC h ω m v u):∀ {m':Md},S m m'->RC h' ω' m' v u:=by
 induction r with
 |undef m u=>intros;exact .undef _ _
 |v m x hx=>intros;exact .v _ _ hx
 |nil m q=>intros;exact .nil _ _
 | sl m q es l o n b h1 hk hc hne hn hw hle _ ih=>
   intro m' hS;obtain⟨h2,hc'⟩:=hb m m' q l o b hS h1 hc
   exact .sl _ _ _ _ _ _ b h2 hk hc' (λ e=>hne (ht m m' hS e)) hn hw hle λ k hk=>ih k hk (hs m m' q k hS)
 | ep m q es j o' l o p b h1 hk hqo hc hw hle _ hp' ih=>
   intro m' hS;obtain⟨h2,hc'⟩:=hb m m' q l o b hS h1 hc;exact .ep _ _ _ _ _ _ _ _ b h2 hk hqo hc' hw hle (λ k hk=>ih k hk (hs m m' q k hS)) hp'
 |box m i o=>intros;exact .box _ _ _
 |ptr hd p i o l hl=>intro m' hS;exact absurd hS (hp hd p m')
abbrev Ren:=Hd->List Nat->W
def ren(f:Ren):W->W
 |.own hd p=>f hd p
 |w=>w
structure Ren.Ok (f:Ren):Prop where
 inj:∀ hd p hd' p' a c,f hd p= .own a c->f hd' p'= .own a c->hd=hd'/\p=p'
 to:∀ hd p,f hd p= .frz\/∃ a c,f hd p= .own a c
def Ren.still(f:Ren)(hd:Hd):Prop:=∀ p,f hd p= .own hd p
def Ren.soft(f:Ren)(hd:Hd):Prop:=∀ p,f hd p= .frz\/∃ p',f hd p= .own hd p'
theorem Ren.still.soft{f:Ren}{hd:Hd}(h:f.still hd):f.soft hd:=λ p=>.inr ⟨p,h p⟩
structure Tr (h:Ab) (ω:Nat->W) (h':Ab) (ω':Nat->W) (f:Ren) (T:Nat->Prop):Prop where
 frz:∀ l,ω l= .frz->ω' l= .frz/\h'[l]?=h[l]?
 own:∀ l hd p,ω l= .own hd p->¬ T l->ω' l=f hd p/\h'[l]?=h[l]?
 ptr:∀ l i,ω l= .ptr i->ω' l= .ptr i
structure Tr0 (h:Ab) (ω:Nat->W) (h':Ab) (ω':Nat->W) (f:Ren) (T:Nat->Prop):Prop where
 frz:∀ l,ω l= .frz->ω' l= .frz/\h'[l]?=h[l]?
 own:∀ l hd p,ω l= .own hd p->¬ T l->ω' l=f hd p/\h'[l]?=h[l]?
theorem Tr.t0{h:Ab}{ω:Nat->W}{h':Ab}{ω':Nat->W}{f:Ren}{T:Nat->Prop}(t:Tr h ω h' ω' f T):Tr0 h ω h' ω' f T:=⟨t.frz,t.own⟩
theorem Tr.of_ren(h:Ab)(ω:Nat->W)(f:Ren):Tr h ω h (λ l=>ren f (ω l)) f (λ _=>False):=
 ⟨λ l e=>by simp[e,ren],λ l hd p e _=>by simp[e,ren],λ l i e=>by simp[e,ren]⟩
theorem RC.inn0{h h':Ab}{ω ω':Nat->W}{f:Ren}{T:Nat->Prop}(t:Tr0 h ω h' ω' f T){hd hd':Hd}{p p':List Nat}(hT:∀ l r,ω l= .own hd (p++r)->¬ T l)(hf:∀ r,f hd (p++r)= .own hd' (p'++r)){v:PV}{u:V}(r:RC h ω (.inn hd p) v u):RC h' ω' (.inn hd' p') v u:=by
 refine r.map (S:=λ m m'=>(∃ r,m= .inn hd (p++r)/\m'= .inn hd' (p'++r))\/(m= .fz/\m'= .fz)) ?_ ?_ (by simp) (by rintro m m' (⟨r,rfl,rfl⟩|⟨rfl,rfl⟩) e<;>first|rfl|exact e) (.inl ⟨[],by simp,by simp⟩)
 . rintro m m' q k (⟨r,rfl,rfl⟩|⟨rfl,rfl⟩)
   . cases q
     . exact .inr ⟨rfl,rfl⟩
     . exact .inl ⟨r++[k],by simp[Md.sub],by simp[Md.sub]⟩
     . exact .inl ⟨r++[k],by simp[Md.sub],by simp[Md.sub]⟩
     . exact .inr ⟨rfl,rfl⟩
     . exact .inr ⟨rfl,rfl⟩
   . exact .inr ⟨rfl,rfl⟩
 . rintro m m' q l o b (⟨r,rfl,rfl⟩|⟨rfl,rfl⟩) hb hc
   . cases q with
     |frz=>obtain⟨h1,h2⟩:=t.frz l hc;exact⟨by rw[h2,hb],h1⟩
     |own=>obtain⟨h0,h3,h4⟩:=hc;obtain⟨h1,h2⟩:=t.own l _ _ h0 (hT l _ h0);exact⟨by rw[h2,hb],by rw[h1,hf],h3,h4⟩
     |ownw w=>obtain⟨h0,h3,h4⟩:=hc;obtain⟨h1,h2⟩:=t.own l _ _ h0 (hT l _ h0);exact⟨by rw[h2,hb],by rw[h1,hf],h3,h4⟩
     |bor a b c=>exact hc.elim
     |pre a b=>exact hc.elim
   . obtain⟨h1,h2⟩:=t.frz l hc;exact⟨by rw[h2,hb],h1⟩
theorem RC.fzz0{h h':Ab}{ω ω':Nat->W}{f:Ren}{T:Nat->Prop}(t:Tr0 h ω h' ω' f T){v:PV}{u:V}(r:RC h ω .fz v u):RC h' ω' .fz v u:=by
 refine r.map (S:=λ m m'=>m= .fz/\m'= .fz) ?_ ?_ (by simp) (by rintro m m' ⟨rfl,rfl⟩ e;exact e) ⟨rfl,rfl⟩
 . rintro m m' q k ⟨rfl,rfl⟩;exact⟨rfl,rfl⟩
 . rintro m m' q l o b ⟨rfl,rfl⟩ hb hc;obtain⟨h1,h2⟩:=t.frz l hc;exact⟨by rw[h2,hb],h1⟩
theorem RC.unn0{h h':Ab}{ω ω':Nat->W}{f:Ren}{T:Nat->Prop}(t:Tr0 h ω h' ω' f T){hd:Hd}(hT:∀ l q,ω l= .own hd q->¬ T l)(hf:f.soft hd){v:PV}{u:V}(r:RC h ω (.un hd) v u):RC h' ω' (.un hd) v u:=by
 refine r.map (S:=λ m m'=>(m= .fz/\m'= .fz)\/(m= .un hd/\m'= .un hd)) ?_ ?_ (by simp) (by rintro m m' (⟨rfl,rfl⟩|⟨rfl,rfl⟩) e<;>exact e) (.inr ⟨rfl,rfl⟩)
 . rintro m m' q k (⟨rfl,rfl⟩|⟨rfl,rfl⟩)
   . exact .inl ⟨rfl,rfl⟩
   . cases q<;>first|exact .inl ⟨rfl,rfl⟩|exact .inr ⟨rfl,rfl⟩
 . rintro m m' q l o b (⟨rfl,rfl⟩|⟨rfl,rfl⟩) hb hc
   . obtain⟨h1,h2⟩:=t.frz l hc;exact⟨by rw[h2,hb],h1⟩
   . cases q with
     |frz=>obtain⟨h1,h2⟩:=t.frz l hc;exact⟨by rw[h2,hb],h1⟩
     | own=>
       rcases hc with⟨p,hc⟩|hc
       . obtain⟨h1,h2⟩:=t.own l _ _ hc (hT l _ hc);refine⟨by rw[h2,hb],?_⟩;rcases hf p with e|⟨p',e⟩
         . exact .inr (by rw[h1,e])
         . exact .inl ⟨p',by rw[h1,e]⟩
       . obtain⟨h1,h2⟩:=t.frz l hc;exact⟨by rw[h2,hb],.inr h1⟩
     | ownw w=>
       rcases hc with⟨p,hc⟩|hc
       . obtain⟨h1,h2⟩:=t.own l _ _ hc (hT l _ hc);refine⟨by rw[h2,hb],?_⟩;rcases hf p with e|⟨p',e⟩
         . exact .inr (by rw[h1,e])
         . exact .inl ⟨p',by rw[h1,e]⟩
       . obtain⟨h1,h2⟩:=t.frz l hc;exact⟨by rw[h2,hb],.inr h1⟩
     |bor a b c=>exact hc.elim
     |pre a b=>exact hc.elim
theorem RC.inn{h h':Ab}{ω ω':Nat->W}{f:Ren}{T:Nat->Prop}(t:Tr h ω h' ω' f T){hd hd':Hd}{p p':List Nat}(hT:∀ l r,ω l= .own hd (p++r)->¬ T l)(hf:∀ r,f hd (p++r)= .own hd' (p'++r)){v:PV}{u:V}(r:RC h ω (.inn hd p) v u):RC h' ω' (.inn hd' p') v u:=r.inn0 t.t0 hT hf
theorem RC.tr0 {h h':Ab} {ω ω':Nat->W} {f:Ren} {T:Nat->Prop} (t:Tr0 h ω h' ω' f T) {hd hd':Hd} {p p':List Nat} {v:PV} {u:V} (r:RC h ω (.at hd p) v u)
 (ho:v.qo=true->(∀ l r,ω l= .own hd (p++r)->¬ T l)/\∀ r,f hd (p++r)= .own hd' (p'++r))
 (hb:∀ hb pb tp,v.q=some (.bor hb pb tp)->(∀ l q,ω l= .own hb q->¬ T l)/\(tp=true->f.still hb)/\f.soft hb) (hp:∀ l i o,v= .ptr i o->ω l= .ptr i->ω' l= .ptr i):RC h' ω' (.at hd' p') v u:=by
 have top:∀ (q:Ql) (l o:Nat) (b:Blk),(q.isOwn=true->(∀ l r,ω l= .own hd (p++r)->¬ T l)/\∀ r,f hd (p++r)= .own hd' (p'++r))->(∀ hb pb tp,(PV.sl q []).q=some (.bor hb pb tp)->(∀ l q,ω l= .own hb q->¬ T l)/\(tp=true->f.still hb)/\f.soft hb)->h[l]?=some b->chk ω (.at hd p) q l o b ->
  h'[l]?=some b/\chk ω' (.at hd' p') q l o b:=by
  intro q l o b ho hbo hb hc
  cases q with
  |frz=>obtain⟨h1,h2⟩:=t.frz l hc;exact⟨by rw[h2,hb],h1⟩
  | own=>
    obtain⟨hT,hf⟩:=ho rfl;obtain⟨h0,h3,h4⟩:=hc;obtain⟨h1,h2⟩:=t.own l _ _ h0 (hT l [] (by simpa using h0));exact⟨by rw[h2,hb],by rw[h1];simpa using hf [],h3,h4⟩
  | ownw w=>
    obtain⟨hT,hf⟩:=ho rfl;obtain⟨h0,h3,h4⟩:=hc;obtain⟨h1,h2⟩:=t.own l _ _ h0 (hT l [] (by simpa using h0));exact⟨by rw[h2,hb],by rw[h1];simpa using hf [],h3,h4⟩
  | bor a pb tp=>
    obtain⟨hT,hst,hsf⟩:=hbo a pb tp rfl;obtain⟨hc1,hc2⟩:=hc;refine⟨?_,?_,λ e=>?_⟩
    . rcases hc1 with⟨p1,hc1⟩|hc1
      . rw[(t.own l _ _ hc1 (hT l _ hc1)).2,hb]
      . rw[(t.frz l hc1).2,hb]
    . rcases hc1 with⟨p1,hc1⟩|hc1
      . rcases hsf p1 with e|⟨p2,e⟩
        . exact .inr (by rw[(t.own l _ _ hc1 (hT l _ hc1)).1,e])
        . exact .inl ⟨p2,by rw[(t.own l _ _ hc1 (hT l _ hc1)).1,e]⟩
      . exact .inr (t.frz l hc1).1
    . obtain⟨h1,h2⟩:=hc2 e;exact⟨by rw[(t.own l _ _ h1 (hT l _ h1)).1];exact hst e pb,h2⟩
  | pre a pb=>
    obtain⟨hT,hst,hsf⟩:=hbo a pb true rfl;obtain⟨h1,h2⟩:=hc;exact⟨by rw[(t.own l _ _ h1 (hT l _ h1)).2,hb],by rw[(t.own l _ _ h1 (hT l _ h1)).1];exact hst rfl pb,h2⟩
 have sub:∀ (q:Ql) (k:Nat) (v:PV) (u:V),(q.isOwn=true->(∀ l r,ω l= .own hd (p++r)->¬ T l)/\∀ r,f hd (p++r)= .own hd' (p'++r))->(∀ hb pb tp,(PV.sl q []).q=some (.bor hb pb tp)->(∀ l q,ω l= .own hb q->¬ T l)/\(tp=true->f.still hb)/\f.soft hb)->RC h ω (Md.sub (.at hd p) q k) v u->RC h' ω' (Md.sub (.at hd' p') q k) v u:=by
  intro q k v u ho hbo r
  cases q with
  |frz=>exact r.fzz0 t
  | own=>
    obtain⟨hT,hf⟩:=ho rfl;exact r.inn0 t (λ l r e=>hT l (k::r) (by simpa using e)) (λ r=>by have:=hf (k::r);simpa using this)
  | ownw w=>
    obtain⟨hT,hf⟩:=ho rfl;exact r.inn0 t (λ l r e=>hT l (k::r) (by simpa using e)) (λ r=>by have:=hf (k::r);simpa using this)
  | bor a pb tp=>
    obtain⟨hT,_,hsf⟩:=hbo a pb tp rfl;exact r.unn0 t hT hsf
  | pre a pb=>
    obtain⟨hT,_,hsf⟩:=hbo a pb true rfl;exact r.unn0 t hT hsf
 cases r with
 |undef _=>exact .undef _ _
 |v _ _ hx=>exact .v _ _ hx
 |nil _ q=>exact .nil _ _
 | sl _ q es l o n b h1 hk hc hne hn hw hle hr=>
   have ho':q.isOwn=true->_:=λ e=>ho e
   have hb':∀ x y z,(PV.sl q []).q=some (.bor x y z)->_:=λ x y z e=>hb x y z (by cases q<;>simp_all [PV.q])
   obtain⟨h2,hc'⟩:=top q l o b ho' hb' h1 hc
   exact .sl _ _ _ _ _ _ b h2 hk hc' hne hn hw hle λ k hk=>sub q k _ _ ho' hb' (hr k hk)
 | ep _ q es j o' l o p2 b h1 hk hqo hc hw hle hr hp'=>
   have ho':q.isOwn=true->(∀ l r,ω l= .own hd (p++r)->¬ T l)/\∀ r,f hd (p++r)= .own hd' (p'++r):=λ e=>by rw[hqo] at e;cases e
   have hb':∀ x y z,(PV.sl q []).q=some (.bor x y z)->_:=λ x y z e=>hb x y z (by cases q<;>simp_all [PV.q])
   obtain⟨h2,hc'⟩:=top q l o b ho' hb' h1 hc;exact .ep _ _ _ _ _ _ _ _ b h2 hk hqo hc' hw hle (λ k hk=>sub q k _ _ ho' hb' (hr k hk)) hp'
 |box _ i o=>exact .box _ _ _
 |ptr _ _ i o l hl=>exact .ptr _ _ _ _ l (hp l i o rfl hl)
theorem RC.tr {h h':Ab} {ω ω':Nat->W} {f:Ren} {T:Nat->Prop} (t:Tr h ω h' ω' f T) {hd hd':Hd} {p p':List Nat} {v:PV} {u:V} (r:RC h ω (.at hd p) v u)
 (ho:v.qo=true->(∀ l r,ω l= .own hd (p++r)->¬ T l)/\∀ r,f hd (p++r)= .own hd' (p'++r))
 (hb:∀ hb pb tp,v.q=some (.bor hb pb tp)->(∀ l q,ω l= .own hb q->¬ T l)/\(tp=true->f.still hb)/\f.soft hb):RC h' ω' (.at hd' p') v u:=r.tr0 t.t0 ho hb λ l i _ _=>t.ptr l i
theorem RC.any{h:Ab}{ω:Nat->W}{hd hd':Hd}{p p':List Nat}{v:PV}{u:V}(r:RC h ω (.at hd p) v u)(ho:v.qo=false):RC h ω (.at hd' p') v u:=by
 cases r with
 |undef _=>exact .undef _ _
 |v _ _ hx=>exact .v _ _ hx
 |nil _ q=>exact .nil _ _
 | sl _ q es l o n b h1 hk hc hne hn hw hle hr=>
   cases q with
   |own=>cases ho
   |ownw=>cases ho
   |frz=>exact .sl _ _ _ _ _ _ b h1 hk hc hne hn hw hle hr
   |bor=>exact .sl _ _ _ _ _ _ b h1 hk hc hne hn hw hle hr
   |pre=>exact .sl _ _ _ _ _ _ b h1 hk hc hne hn hw hle hr
 | ep _ q es j o' l o p2 b h1 hk hqo hc hw hle hr hp'=>
   cases q with
   |own=>cases hqo
   |ownw=>cases hqo
   |frz=>exact .ep _ _ _ _ _ _ _ _ b h1 hk hqo hc hw hle hr hp'
   |bor=>exact .ep _ _ _ _ _ _ _ _ b h1 hk hqo hc hw hle hr hp'
   |pre=>exact .ep _ _ _ _ _ _ _ _ b h1 hk hqo hc hw hle hr hp'
 |box _ i o=>exact .box _ _ _
 |ptr _ _ i o l hl=>exact .ptr _ _ _ _ l hl
abbrev HE:=Hd->List Nat->PV×V
structure Core (h:Ab) (ω:Nat->W) (A:HE):Prop where
 rc:∀ hd p,RC h ω (.at hd p) (A hd p).1 (A hd p).2
 inj:∀ l l' hd p,ω l= .own hd p->ω l'= .own hd p->l=l'
 injp:∀ l l' i,ω l= .ptr i->ω l'= .ptr i->l=l'
 kind:∀ l,(∃ hd p,ω l= .own hd p)\/(∃ i,ω l= .ptr i)->∃ b,h[l]?=some b/\b.k= .own
 lt:∀ l,ω l= .frz->l<h.length
def iQ(f:Ren)(A:HE)(vu:PV×V)(hd':Hd)(p':List Nat):Prop:=
 ∃ hd p,vu=A hd p/\(vu.1.qo=true->∀ r,f hd (p++r)= .own hd' (p'++r))/\∀ hb pb tp,vu.1.q=some (.bor hb pb tp)->(tp=true->f.still hb)/\f.soft hb
theorem Db{f:Ren}{w:W}{hd:Hd}{p:List Nat}(e:ren f w= .own hd p):∃ a q,w= .own a q/\f a q= .own hd p:=by
 cases w with
 |own a q=>exact⟨a,q,rfl,e⟩
 |_=>simp[ren] at e
theorem DN{f:Ren}(hf:f.Ok){w:W}{i:Nat}(e:ren f w= .ptr i):w= .ptr i:=by
 cases w with
 |own a q=>rcases hf.to a q with e2|⟨x,y,e2⟩<;>simp[ren,e2] at e
 |ptr j=>exact e
 |_=>simp[ren] at e
theorem Core.ren{h:Ab}{ω:Nat->W}{A A':HE}(c:Core h ω A){f:Ren}(hf:f.Ok)(hA:∀ hd p,iQ f A (A' hd p) hd p\/RC h (λ l=>Ag.ren f (ω l)) (.at hd p) (A' hd p).1 (A' hd p).2) :
 Core h (λ l=>Ag.ren f (ω l)) A':=by
 have t:=Tr.of_ren h ω f
 refine⟨λ hd p=>?_,λ l l' hd p e e'=>?_,λ l l' i e e'=>c.injp l l' i (DN hf e) (DN hf e'),λ l e=>?_,λ l e=>?_⟩
 . rcases hA hd p with⟨hd0,p0,e1,ho,hb⟩|hr
   . rw[e1] at ho hb ⊢;exact(c.rc hd0 p0).tr t (λ e=>⟨λ _ _ _=>id,λ r=>ho e r⟩) (λ hb' pb tp e=>⟨λ _ _ _=>id,hb hb' pb tp e⟩)
   . exact hr
 . obtain⟨a,q,e1,e2⟩:=Db e
   obtain⟨a',q',e1',e2'⟩:=Db e';obtain⟨rfl,rfl⟩:=hf.inj a q a' q' hd p e2 e2';exact c.inj l l' a q e1 e1'
 . rcases e with⟨hd,p,e⟩|⟨i,e⟩
   . obtain⟨a,q,e1,_⟩:=Db e;exact c.kind l (.inl ⟨a,q,e1⟩)
   . exact c.kind l (.inr ⟨i,DN hf e⟩)
 . cases e1:ω l with
   |own a q=>obtain⟨b,hb,_⟩:=c.kind l (.inl ⟨a,q,e1⟩);exact Bj hb
   |frz=>exact c.lt l e1
   |_=>rw[e1] at e;simp[Ag.ren] at e
def Ren.id:Ren:=λ hd p=>.own hd p
theorem Ren.id_ok:Ren.id.Ok:=⟨λ hd p hd' p' a c e e'=>by simp[Ren.id] at e e';simp[e,e'],λ hd p=>.inr ⟨hd,p,rfl⟩⟩
theorem CX(ω:Nat->W):(λ l=>ren Ren.id (ω l))=ω:=by
 funext l;cases h:ω l<;>rfl
def Ren.mv(a b:Hd):Ren:=λ hd p=>if hd=a then .own b p else if hd=b then .frz else .own hd p
theorem Ren.mv_ok(a b:Hd):(Ren.mv a b).Ok:=by
 refine⟨λ hd p hd' p' x c e e'=>?_,λ hd p=>?_⟩
 . unfold Ren.mv at e e';split at e
   . split at e'
     . simp at e e';simp_all
     . split at e'
       . simp at e'
       . simp at e e';simp_all
   . split at e
     . simp at e
     . split at e'
       . simp at e e';simp_all
       . split at e'
         . simp at e'
         . simp at e e';simp_all
 . unfold Ren.mv;split
   . exact .inr ⟨_,_,rfl⟩
   . split
     . exact .inl rfl
     . exact .inr ⟨_,_,rfl⟩
theorem Ren.mv_still{a b c:Hd}(h1:c≠a)(h2:c≠b):(Ren.mv a b).still c:=λ p=>by simp[Ren.mv,h1,h2]
def Ren.drop(a:Hd):Ren:=λ hd p=>if hd=a then .frz else .own hd p
theorem Ren.drop_ok(a:Hd):(Ren.drop a).Ok:=by
 refine⟨λ hd p hd' p' x c e e'=>?_,λ hd p=>?_⟩
 . unfold Ren.drop at e e';split at e
   . simp at e
   . split at e'
     . simp at e'
     . simp at e e';simp_all
 . unfold Ren.drop;split
   . exact .inl rfl
   . exact .inr ⟨_,_,rfl⟩
theorem Ren.drop_still{a c:Hd}(h1:c≠a):(Ren.drop a).still c:=λ p=>by simp[Ren.drop,h1]
def V.fcell:V->List Nat->V
 |.agg cs,[c]=>get cs c
 |.agg _,_=>.undef
 |.tup vs,[i,c]=>get (get vs i).cells c
 |.tup _,_=>.undef
 |v,[0]=>v
 |_,_=>.undef
def Shp1:PV->V->Prop
 |.fl .undef,_=>True
 |.agg cs,u=>∃ us,u= .agg us/\us.length=cs.length
 |.tup _,_=>False
 |_,u=>(∀ us,u≠.agg us)/\∀ us,u≠.tup us
def AX:PV->V->Prop
 |.tup vs,u=>∃ us,u= .tup us/\us.length=vs.length/\∀ i,Shp1 (Aa vs i) (get us i)
 |v,u=>Shp1 v u
def A8(cs:List PV)(us:List V):List Nat->PV×V
 |[c]=>(Aa cs c,get us c)
 |_=>(.fl .undef,.undef)
def AV(h:Ab)(l:Nat):List V:=match h[l]? with|some b=>b.cs|none=>[]
abbrev Cb:=Nat->PV×V
def Ah(ρ:Nat->Nat)(st:PS)(us:St)(X:Cb):HE
 |.s t,p=>((Aa st.sl t).fcell p,(get us.sl t).fcell p)
 |.b i,p=>A8 (Ak st.bx i) (AR us.bx i) p
 |.h i,p=>A8 (Ak st.hp i) (AV us.hp (ρ i)) p
 |.x i,p=>((X i).1.fcell p,(X i).2.fcell p)
structure Fr (h0:Ab) (ω0:Nat->W) (h:Ab) (ω:Nat->W):Prop where
 len:h0.length<=h.length
 old:∀ l,l<h0.length->(ω0 l= .frz\/ω0 l= .none)->h[l]?=h0[l]?/\ω l=ω0 l
 new:∀ l,l<h0.length->ω l= .frz->ω0 l≠.none
 ptr:∀ l i,ω0 l= .ptr i->ω l= .ptr i
def PV.lay:PV->Bool
 |.fl _=>true
 |.sl .own _|.sl .frz _|.sl (.ownw _) _=>true
 |_=>false
structure RS (h0:Ab) (ω0:Nat->W) (ω:Nat->W) (ρ:Nat->Nat) (st:PS) (us:St) (X:Cb):Prop where
 core:Core us.hp ω (Ah ρ st us X)
 sh:∀ t,AX (Aa st.sl t) (get us.sl t)
 shx:∀ i,AX (X i).1 (X i).2
 lsl:st.sl.length=us.sl.length
 lbx:st.bx.length=us.bx.length
 lb:∀ i,(Ak st.bx i).length=(AR us.bx i).length
 cb:∀ i c,(Aa (Ak st.bx i) c).lay=true
 ch:∀ i c,(Aa (Ak st.hp i) c).lay=true
 hp:∀ i,i<st.hp.length->ω (ρ i)= .ptr i/\(AV us.hp (ρ i)).length=(Ak st.hp i).length
 bdp:∀ l i,ω l= .ptr i->i<st.hp.length
 bdh:∀ l i p,ω l= .own (.h i) p->i<st.hp.length
 fr:Fr h0 ω0 us.hp ω
 nx:∀ hd p i pb tp,(Ah ρ st us X hd p).1.q≠some (.bor (.x i) pb tp)
def X0:Cb:=λ _=>(.fl .undef,.undef)
def X1(v:PV)(u:V):Cb:=λ i=>if i=0 then (v,u) else (.fl .undef,.undef)
theorem Dy(s:List PV)(n:Nat):Aa s n=s[n]?.getD (.fl .undef):=by
 induction s generalizing n with
 |nil=>rfl
 | cons x r ih=>cases n with
   |zero=>rfl
   |succ n=>simp only[Aa,Qs];exact ih n
theorem Fl(s:List PV)(n:Nat)(h:s.length<=n):Aa s n= .fl .undef:=by rw[Dy,Bz h];rfl
theorem FT(s:List PV)(n:Nat)(v:PV):(BA s n v).length=s.length:=by
 induction s generalizing n with
 |nil=>rfl
 | cons x r ih=>cases n with
   |zero=>rfl
   |succ n=>simp[BA,ih]
theorem DM(s:List PV)(n m:Nat)(v:PV):Aa (BA s n v) m=if m=n/\n<s.length then v else Aa s m:=by
 induction s generalizing n m with
 |nil=>simp[BA,Aa]
 | cons x r ih=>cases n with
   | zero=>cases m with
     |zero=>simp[BA,Aa]
     |succ m=>simp[BA,Aa]
   | succ n=>cases m with
     |zero=>simp[BA,Aa]
     |succ m=>simp only[BA,Aa,ih,Bi];congr 1;simp
theorem fD(s:List V)(n:Nat)(v:V):(put s n v).length=s.length:=by
 induction s generalizing n with
 |nil=>rfl
 | cons x r ih=>cases n with
   |zero=>rfl
   |succ n=>simp[put,ih]
theorem XD(s:List V)(n m:Nat)(v:V):get (put s n v) m=if m=n/\n<s.length then v else get s m:=by
 induction s generalizing n m with
 |nil=>simp[put,get]
 | cons x r ih=>cases n with
   | zero=>cases m with
     |zero=>simp[put,get]
     |succ m=>simp[put,get]
   | succ n=>cases m with
     |zero=>simp[put,get]
     |succ m=>simp only[put,get,ih,Bi];congr 1;simp
theorem CU(s:List (List PV))(n:Nat):Ak s n=s[n]?.getD []:=by
 induction s generalizing n with
 |nil=>rfl
 | cons x r ih=>cases n with
   |zero=>rfl
   |succ n=>simp only[Ak,Qs];exact ih n
theorem HQ(s:List (List PV))(n:Nat)(v:List PV):(BR s n v).length=s.length:=by
 induction s generalizing n with
 |nil=>rfl
 | cons x r ih=>cases n with
   |zero=>rfl
   |succ n=>simp[BR,ih]
theorem dE(s:List (List V))(n:Nat)(v:List V):(Cr s n v).length=s.length:=by
 induction s generalizing n with
 |nil=>rfl
 | cons x r ih=>cases n with
   |zero=>rfl
   |succ n=>simp[Cr,ih]
theorem JE(s:List (List PV))(n m:Nat)(v:List PV):Ak (BR s n v) m=if m=n/\n<s.length then v else Ak s m:=by
 induction s generalizing n m with
 |nil=>simp[BR,Ak]
 | cons x r ih=>cases n with
   | zero=>cases m with
     |zero=>simp[BR,Ak]
     |succ m=>simp[BR,Ak]
   | succ n=>cases m with
     |zero=>simp[BR,Ak]
     |succ m=>simp only[BR,Ak,ih,Bi];congr 1;simp
theorem dJ(s:List (List V))(n m:Nat)(v:List V):AR (Cr s n v) m=if m=n/\n<s.length then v else AR s m:=by
 rw[Qd,TQ];split
 . rfl
 . rw[Qd]
theorem fC(cs:List PV)(o n:Nat):segm cs o n=(cs.drop o).take n:=by
 induction cs generalizing o n with
 |nil=>cases o<;>cases n<;>simp[segm]
 | cons c r ih=>cases o with
   | zero=>cases n with
     |zero=>simp[segm]
     |succ n=>simp[segm,ih]
   |succ o=>simp[segm,ih]
theorem EW{cs:List PV}{o n:Nat}(h:o+n<=cs.length):(segm cs o n).length=n:=by
 rw[fC];simp;omega
theorem C9(cs:List PV)(o n c:Nat):Aa (segm cs o n) c=if c<n then Aa cs (o+c) else .fl .undef:=by
 rw[fC,Dy,Dy];by_cases h:c<n
 . rw[Ac h,Mt h,JP]
 . rw[Af h,Bz (by simp;omega)];rfl
theorem Gn(cs:List V)(o n c:Nat):get ((cs.drop o).take n) c=if c<n then get cs (o+c) else .undef:=by
 rw[Co,Co];by_cases h:c<n
 . rw[Ac h,Mt h,JP]
 . rw[Af h,Bz (by simp;omega)];rfl
theorem Gk(cs:List PV)(o:Nat)(vs:List PV):(AS cs o vs).length=cs.length:=by
 induction cs generalizing o vs with
 |nil=>cases vs<;>rfl
 | cons c r ih=>cases vs with
   |nil=>rfl
   | cons v vs=>cases o with
     |zero=>simp[AS,ih]
     |succ o=>simp[AS,ih]
theorem G8(cs:List PV)(o:Nat)(vs:List PV)(c:Nat)(h:o+vs.length<=cs.length):Aa (AS cs o vs) c=if o<=c/\c<o+vs.length then Aa vs (c-o) else Aa cs c:=by
 induction cs generalizing o vs c with
 | nil=>cases vs with
   |nil=>simp[AS];omega
   |cons v vs=>simp at h
 | cons x r ih=>cases vs with
   |nil=>simp[AS];omega
   | cons v vs=>cases o with
     | zero=>cases c with
       |zero=>simp[AS,Aa]
       | succ c=>
         simp only[AS,Aa];rw[ih 0 vs c (by simp at h ⊢;omega)];simp[Aa]
     | succ o=>cases c with
       |zero=>simp[AS,Aa]
       | succ c=>
         simp only[AS,Aa];rw[ih o (v::vs) c (by simp at h ⊢;omega)];simp only[Bi,Nat.add_sub_add_right];congr 1;apply propext;omega
theorem S4 (cs:List V)(o:Nat)(vs:List V)(c:Nat)(h:o+vs.length<=cs.length):get (splice cs o vs) c=if o<=c/\c<o+vs.length then get vs (c-o) else get cs c:=by
 rw[Co,Th _ _ _ _ h];split
 . rw[Co]
 . rw[Co]
theorem FV(hd:Hd)(s:List PV):(clr hd s).length=s.length:=by
 induction s with
 |nil=>rfl
 |cons x r ih=>simp[clr,ih]
theorem Fk(hd:Hd)(s:List PV)(n:Nat):Aa (clr hd s) n=if (Aa s n).bor hd then .fl .undef else Aa s n:=by
 induction s generalizing n with
 |nil=>rw[show Aa (clr hd []) n= .fl .undef from rfl,show Aa [] n= .fl .undef from rfl];split<;>rfl
 | cons x r ih=>cases n with
   |zero=>rfl
   |succ n=>exact ih n
theorem tg(i:Nat)(s:List PV):(FP i s).length=s.length:=by
 induction s with
 |nil=>rfl
 |cons x r ih=>simp[FP,ih]
theorem sZ(i:Nat)(s:List PV)(n:Nat):Aa (FP i s) n=if (Aa s n).isBox i then .fl .undef else Aa s n:=by
 induction s generalizing n with
 |nil=>rw[show Aa (FP i []) n= .fl .undef from rfl,show Aa [] n= .fl .undef from rfl];split<;>rfl
 | cons x r ih=>cases n with
   |zero=>rfl
   |succ n=>exact ih n
theorem tD(i:Nat)(s:List V):(clearBox i s).length=s.length:=by
 induction s with
 |nil=>rfl
 |cons x r ih=>simp[clearBox,ih]
theorem yJ(s:List PV):(clrH s).length=s.length:=by
 induction s with
 |nil=>rfl
 |cons x r ih=>simp[clrH,ih]
theorem wU(live:List Nat)(k:Nat)(s:List PV):(El live k s).length=s.length:=by
 induction s generalizing k with
 |nil=>rfl
 |cons x r ih=>simp[El,ih]
theorem yh(live:List Nat)(k:Nat)(s:List PV)(n:Nat):Aa (El live k s) n=if live.contains (k+n) then (Aa s n).detop else .fl .undef:=by
 induction s generalizing k n with
 |nil=>simp[El,Aa,PV.detop]
 | cons x r ih=>cases n with
   |zero=>simp[El,Aa]
   |succ n=>simp only[El,Aa,ih];rw[show k+1+n=k+(n+1) by omega]
theorem zz(live:List Nat)(k:Nat)(s:List V):(keep live k s).length=s.length:=by
 induction s generalizing k with
 |nil=>rfl
 |cons x r ih=>simp[keep,ih]
theorem yX(live:List Nat)(k:Nat)(s:List V)(n:Nat):get (keep live k s) n=if live.contains (k+n) then get s n else .undef:=by
 induction s generalizing k n with
 |nil=>simp[keep,get]
 | cons x r ih=>cases n with
   |zero=>simp[keep,get]
   |succ n=>simp only[keep,get,ih];rw[show k+1+n=k+(n+1) by omega]
theorem x9(live:List Nat)(k:Nat)(s:List PV):(Fp live k s).length=s.length:=by
 induction s generalizing k with
 |nil=>rfl
 |cons x r ih=>simp[Fp,ih]
theorem wO(live:List Nat)(k:Nat)(s:List PV)(n:Nat):Aa (Fp live k s) n=if live.contains (k+n) then Aa s n else .fl .undef:=by
 induction s generalizing k n with
 |nil=>simp[Fp,Aa]
 | cons x r ih=>cases n with
   |zero=>simp[Fp,Aa]
   |succ n=>simp only[Fp,Aa,ih];rw[show k+1+n=k+(n+1) by omega]
theorem Ot(es:List (List PV))(j:Nat):Bb es j=es[j]?.getD []:=by
 induction es generalizing j with
 |nil=>rfl
 | cons x r ih=>cases j with
   |zero=>rfl
   |succ n=>simp only[Bb,Qs];exact ih n
theorem He(w:Nat)(es:List (List PV)):CC w es=true↔∀ e∈es,e.length=w:=by
 induction es with
 |nil=>simp[CC]
 |cons x r ih=>simp[CC,ih]
theorem dw{w:Nat}{es:List (List PV)}(hw:∀ e∈es,e.length=w):es.flatten.length=es.length*w:=by
 induction es with
 |nil=>simp
 | cons x r ih=>
   rw[GA,DR,ih (λ e he=>hw e (by simp[he])),hw x (by simp),Bi,Df,H6,Nat.add_comm]
theorem Vx(a b:List PV)(n:Nat)(h:n<a.length):Aa (a++b) n=Aa a n:=by
 rw[Dy,Dy,Bc h]
theorem Vn(a b:List PV)(n:Nat)(h:a.length<=n):Aa (a++b) n=Aa b (n-a.length):=by
 rw[Dy,Dy,CF h]
theorem ak(a b:List V)(n:Nat)(h:n<a.length):get (a++b) n=get a n:=by
 rw[Co,Co,Bc h]
theorem oG(a b:List V)(n:Nat)(h:a.length<=n):get (a++b) n=get b (n-a.length):=by
 rw[Co,Co,CF h]
theorem JH{w:Nat}{es:List (List PV)}(hw:∀ e∈es,e.length=w)(j c:Nat)(hc:c<w):Aa es.flatten (j*w+c)=Aa (Bb es j) c:=by
 induction es generalizing j with
 |nil=>simp[Bb,Aa]
 | cons x r ih=>
   have hx:x.length=w:=hw x (by simp)
   cases j with
   |zero=>rw[GA,JI,Bv,Vx _ _ _ (by omega)];rfl
   | succ j=>
     rw[GA,Vn _ _ _ (by rw[hx,L4];omega),hx,show (j+1)*w+c-w=j*w+c by rw[L4];omega,ih (λ e he=>hw e (by simp[he]))];rfl
theorem Ue{w:Nat}{es:List (List PV)}(hw:∀ e∈es,e.length=w){j:Nat}(h:j<es.length):(Bb es j).length=w:=by
 rw[Ot,A3 h];exact hw _ (Eh h)
theorem Xi(cs:List PV):PV.ownL cs=true↔∃ c,(Aa cs c).own=true:=by
 induction cs with
 |nil=>simp[PV.ownL,Aa,PV.own]
 | cons x r ih=>
   simp only[PV.ownL,Cg,ih];constructor
   . rintro(h|⟨c,h⟩)
     . exact⟨0,h⟩
     . exact⟨c+1,h⟩
   . rintro⟨c,h⟩
     cases c with
     |zero=>exact .inl h
     |succ c=>exact .inr ⟨c,h⟩
theorem TR(hd:Hd)(cs:List PV):PV.borL hd cs=true↔∃ c,(Aa cs c).bor hd=true:=by
 induction cs with
 |nil=>simp[PV.borL,Aa,PV.bor]
 | cons x r ih=>
   simp only[PV.borL,Cg,ih];constructor
   . rintro(h|⟨c,h⟩)
     . exact⟨0,h⟩
     . exact⟨c+1,h⟩
   . rintro⟨c,h⟩
     cases c with
     |zero=>exact .inl h
     |succ c=>exact .inr ⟨c,h⟩
theorem NI{v:PV}(h:v.qo=true):v.own=true:=by
 cases v with
 |sl q es=>cases q<;>first|rfl|cases h
 |_=>cases h
theorem ZcM{v:PV}(h:v.q=none):v.qo=false:=by
 cases v with
 |sl q es=>cases q<;>simp[PV.q] at h
 |_=>rfl
theorem UI{v:PV}{hb:Hd}{pb:List Nat}{tp:Bool}(h:v.q=some (.bor hb pb tp)):v.bor hb=true:=by
 cases v with
 |sl q es=>cases q<;>simp[PV.q] at h<;>simp[PV.bor,h.1]
 |ep q es j o=>cases q<;>simp[PV.q] at h<;>simp[PV.bor,h.1]
 |_=>simp[PV.q] at h
theorem yt{v:PV}{p:List Nat}(h:(v.fcell p).qo=true):v.own=true:=by
 unfold PV.fcell at h;split at h
 . exact(Xi _).2 ⟨_,NI h⟩
 . cases h
 . rename_i vs i c;refine(Xi vs).2 ⟨i,?_⟩;generalize Aa vs i=w at h ⊢
   cases w with
   |agg cs=>exact(Xi cs).2 ⟨c,NI h⟩
   | _=>cases c with
     |zero=>exact NI h
     |succ c=>simp[PV.cells,Aa,PV.q,PV.qo] at h
 . cases h
 . exact NI h
 . cases h
theorem cx{v:PV}{p:List Nat}{hb:Hd}{pb:List Nat}{tp:Bool}(h:(v.fcell p).q=some (.bor hb pb tp)):v.bor hb=true:=by
 unfold PV.fcell at h;split at h
 . exact(TR _ _).2 ⟨_,UI h⟩
 . simp[PV.q] at h
 . rename_i vs i c;refine(TR hb vs).2 ⟨i,?_⟩;generalize Aa vs i=w at h ⊢
   cases w with
   |agg cs=>exact(TR hb cs).2 ⟨c,UI h⟩
   | _=>cases c with
     |zero=>exact UI h
     |succ c=>simp[PV.cells,Aa,PV.q,PV.qo] at h
 . simp[PV.q] at h
 . exact UI h
 . simp[PV.q] at h
theorem Zar{v:PV}(h:v.lay=true)(hb:Hd)(pb:List Nat)(tp:Bool):v.q≠some (.bor hb pb tp):=by
 intro e
 cases v with
 |sl q es=>cases q<;>simp[PV.q] at e<;>cases h
 |ep q es j o=>cases h
 |_=>simp[PV.q] at e
section
variable {h0:Ab} {ω0 ω:Nat->W} {ρ:Nat->Nat} {st st':PS} {us us':St} {X X':Cb}
theorem Fr.ren{h:Ab}(r:Fr h0 ω0 h ω)(f:Ren):Fr h0 ω0 h (λ l=>Ag.ren f (ω l)):=by
 refine⟨r.len,λ l hl e=>?_,λ l hl e=>?_,λ l i e=>by simp[r.ptr l i e,Ag.ren]⟩
 . obtain⟨a,b⟩:=r.old l hl e;refine⟨a,?_⟩;rcases e with e|e<;>simp[b,e,Ag.ren]
 . cases e1:ω l with
   |frz=>exact r.new l hl e1
   | own a q=>
     intro e2;have:=(r.old l hl (.inr e2)).2;rw[e2,e1] at this;cases this
   |_=>simp[e1,Ag.ren] at e
def Uu(f:Ren)(A:HE)(vu:PV×V)(hd':Hd)(p':List Nat):Prop:=
 ∃ hd p,vu=A hd p/\(vu.1.qo=true->∀ r,f hd (p++r)= .own hd' (p'++r))/\∀ hb pb tp,vu.1.q=some (.bor hb pb tp)->(∀ i,hb≠.x i)->(tp=true->f.still hb)/\f.soft hb
def BU(v:PV):Prop:=∀ i pb tp,v.q≠some (.bor (.x i) pb tp)
theorem RS.ren (R:RS h0 ω0 ω ρ st us X) {f:Ren} (hf:f.Ok) (hh:∀ hd p i q,f hd p= .own (.h i) q->hd= .h i)
 (hA:∀ hd p,Uu f (Ah ρ st us X) (Ah ρ st' us' X' hd p) hd p\/BU (Ah ρ st' us' X' hd p).1/\RC us.hp (λ l=>Ag.ren f (ω l)) (.at hd p) (Ah ρ st' us' X' hd p).1 (Ah ρ st' us' X' hd p).2)
 (hhp:us'.hp=us.hp) (hs:∀ t,AX (Aa st'.sl t) (get us'.sl t)) (hx:∀ i,AX (X' i).1 (X' i).2) (l1:st'.sl.length=us'.sl.length) (l2:st'.bx.length=us'.bx.length)
 (l3:∀ i,(Ak st'.bx i).length=(AR us'.bx i).length) (c1:∀ i c,(Aa (Ak st'.bx i) c).lay=true) (c2:∀ i c,(Aa (Ak st'.hp i) c).lay=true)
 (l4:st'.hp.length=st.hp.length) (l5:∀ i,(Ak st'.hp i).length=(Ak st.hp i).length):RS h0 ω0 (λ l=>Ag.ren f (ω l)) ρ st' us' X':=by
 refine⟨by
  rw[hhp]
  refine R.core.ren hf λ hd p=>?_
  rcases hA hd p with⟨a,b,e,h1,h2⟩|h
  . refine .inl ⟨a,b,e,h1,λ hb pb tp e'=>h2 hb pb tp e' ?_⟩
    rintro i rfl;rw[e] at e';exact R.nx a b i pb tp e'
  . exact .inr h.2,hs,hx,l1,l2,l3,c1,c2,λ i hi=>?_,λ l i e=>?_,λ l i p e=>?_,by rw[hhp];exact R.fr.ren f,λ hd p i pb tp=>?_⟩
 . rw[l4] at hi
   obtain⟨a,b⟩:=R.hp i hi;exact⟨by simp[a,Ag.ren],by rw[hhp,l5];exact b⟩
 . rw[l4];exact R.bdp l i (DN hf e)
 . obtain⟨a,q,e1,e2⟩:=Db e
   have:=hh a q i p e2;subst this;rw[l4];exact R.bdh l i q e1
 . rcases hA hd p with⟨a,b,e,_⟩|h
   . rw[e];exact R.nx a b i pb tp
   . exact h.1 i pb tp
theorem Bh{A:HE}{vu:PV×V}{hd:Hd}{p:List Nat}(h:vu=A hd p):Uu Ren.id A vu hd p:=⟨hd,p,h,λ _ _=>rfl,λ _ _ _ _ _=>⟨λ _ _=>rfl,Ren.still.soft λ _=>rfl⟩⟩
theorem Bg{f:Ren}{A:HE}{vu:PV×V}{hd:Hd}{p:List Nat}(e:vu=A hd p)(h:vu.1.qo=true->f.still hd)(hb:∀ hb pb tp,vu.1.q=some (.bor hb pb tp)->(∀ i,hb≠.x i)->f.still hb):Uu f A vu hd p:=
 ⟨hd,p,e,λ e _=>h e _,λ hb' pb tp e h'=>⟨λ _=>hb hb' pb tp e h',(hb hb' pb tp e h').soft⟩⟩
theorem AW{h:Ab}{ω:Nat->W}{m:Md}{vu:PV×V}(e:vu.1= .fl .undef):BU vu.1/\RC h ω m vu.1 vu.2:=by rw[e];exact⟨λ _ _ _ h=>by simp[PV.q] at h,.undef _ _⟩
theorem CM {h:Ab}{ω:Nat->W}{m:Md}{v:PV}{u:V}(e:v= .fl .undef):BU v/\RC h ω m v u:=by rw[e];exact⟨λ _ _ _ h=>by simp[PV.q] at h,.undef _ _⟩
theorem A0(p:List Nat):(PV.fl .undef).fcell p= .fl .undef:=by
 unfold PV.fcell
 split<;>first|rfl|(rename_i h;cases h)|(rename_i h _;cases h)
theorem A5(u:V):AX (.fl .undef) u:=trivial
theorem Cs{v:PV}(h:v.lay=true)(hb:Hd)(pb:List Nat)(tp:Bool):v.q≠some (.bor hb pb tp):=Zar h hb pb tp
theorem G9{cs:List PV}{ws:List V}(h:∀ c,(Aa cs c).lay=true)(p:List Nat):(A8 cs ws p).1.lay=true:=by
 unfold A8;split
 . exact h _
 . rfl
theorem RS.nobor_b(R:RS h0 ω0 ω ρ st us X)(i:Nat)(p:List Nat)(hb:Hd)(pb:List Nat)(tp:Bool):(Ah ρ st us X (.b i) p).1.q≠some (.bor hb pb tp):=Cs (G9 (R.cb i) p) hb pb tp
theorem RS.nobor_h(R:RS h0 ω0 ω ρ st us X)(i:Nat)(p:List Nat)(hb:Hd)(pb:List Nat)(tp:Bool):(Ah ρ st us X (.h i) p).1.q≠some (.bor hb pb tp):=Cs (G9 (R.ch i) p) hb pb tp
theorem Dl(v:PV)(u:V)(i:Nat)(hi:i≠0):X1 v u i=(.fl .undef,.undef):=by simp[X1,hi]
theorem F1(i:Nat)(p:List Nat):(Ah ρ st us X0 (.x i) p).1= .fl .undef:=A0 p
theorem E1{v:PV}{u:V}(i:Nat)(hi:i≠0)(p:List Nat):(Ah ρ st us (X1 v u) (.x i) p).1= .fl .undef:=by simp only[Ah,Dl v u i hi];exact A0 p
theorem RS.hand(R:RS h0 ω0 ω ρ st us X0){v:PV}{u:V}{hd:Hd}(hs:AX v u)(hr:∀ p,RC us.hp ω (.at hd p) (v.fcell p) (u.fcell p))(ho:∀ p,(v.fcell p).qo=false)(hx:∀ p,BU (v.fcell p)):RS h0 ω0 ω ρ st us (X1 v u):=by
 have:=RS.ren (st':=st) (us':=us) (X':=X1 v u) R Ren.id_ok (λ hd p i q e=>by simp[Ren.id] at e;exact e.1) (λ hd' p=>?_) rfl R.sh (λ i=>?_) R.lsl R.lbx R.lb R.cb R.ch rfl (λ _=>rfl)
 . rwa [CX] at this
 . cases hd' with
   | x i=>
     refine .inr ?_;rw[CX];by_cases hi:i=0
     . subst hi;exact⟨hx p,(hr p).any (ho p)⟩
     . exact AW (E1 i hi p)
   |s t=>exact .inl (Bh rfl)
   |b t=>exact .inl (Bh rfl)
   |h t=>exact .inl (Bh rfl)
 . by_cases hi:i=0
   . subst hi;exact hs
   . rw[Dl v u i hi];exact A5 _
theorem We{x:V}(hx:x.flat=true)(p:List Nat):((PV.fl x).fcell p= .fl x/\x.fcell p=x)\/(PV.fl x).fcell p= .fl .undef:=by
 unfold PV.fcell;split
 . rename_i h;cases h
 . rename_i h _;cases h
 . rename_i h;cases h
 . rename_i h _;cases h
 . refine .inl ⟨rfl,?_⟩
   cases x<;>first|rfl|simp[V.flat] at hx
 . exact .inr rfl
theorem eF{x:V}(hx:x.flat=true):AX (.fl x) x:=by
 cases x<;>first|(simp[V.flat] at hx;done)|simp[AX,Shp1]
theorem RS.flat(R:RS h0 ω0 ω ρ st us X0){x:V}(hx:x.flat=true):RS h0 ω0 ω ρ st us (X1 (.fl x) x):=by
 have hq:∀ p,((PV.fl x).fcell p).q=none:=by
  intro p;rcases We hx p with⟨h1,h2⟩|h
  . rw[h1];rfl
  . rw[h];rfl
 refine R.hand (hd:=.x 0) (eF hx) (λ p=>?_) (λ p=>ZcM (hq p)) (λ p i pb tp=>by rw[hq];simp);rcases We hx p with⟨h1,h2⟩|h
 . rw[h1,h2];exact .v _ _ hx
 . rw[h];exact .undef _ _
theorem Ub{a:Hd}(hd:Hd)(p:List Nat)(i:Nat)(q:List Nat)(e:Ren.drop a hd p= .own (.h i) q):hd= .h i:=by
 unfold Ren.drop at e;split at e<;>simp at e;exact e.1
theorem UT{a b:Hd}(hb:∀ i,b≠.h i)(hd:Hd)(p:List Nat)(i:Nat)(q:List Nat)(e:Ren.mv a b hd p= .own (.h i) q):hd= .h i:=by
 unfold Ren.mv at e;split at e
 . simp at e;exact absurd e.1 (hb i)
 . split at e<;>simp at e;exact e.1
theorem NX(d:Nat)(v:PV)(t:Nat)(hd:st.sl.length=us.sl.length)(u:V) :
 (Aa (clr (.s d) (BA st.sl d v)) t= .fl .undef)\/(t=d/\d<st.sl.length/\Aa (clr (.s d) (BA st.sl d v)) t=v/\get (put us.sl d u) t=u/\v.bor (.s d)=false) \/
  (Aa (clr (.s d) (BA st.sl d v)) t=Aa st.sl t/\get (put us.sl d u) t=get us.sl t/\(Aa st.sl t).bor (.s d)=false/\(t≠d\/st.sl.length<=d)):=by
 rw[Fk,DM,XD,<- hd]
 by_cases h:t=d/\d<st.sl.length
 . rw[Ac h,Ac h]
   cases hb:v.bor (.s d) with
   |true=>exact .inl rfl
   |false=>exact .inr (.inl ⟨h.1,h.2,rfl,rfl,rfl⟩)
 . rw[Af h,Af h]
   cases hb:(Aa st.sl t).bor (.s d) with
   |true=>exact .inl rfl
   |false=>exact .inr (.inr ⟨rfl,rfl,rfl,by omega⟩)
theorem Dz{v:PV}{hd:Hd}(h:v.bor hd=false){p:List Nat}{hb:Hd}{pb:List Nat}{tp:Bool}(e:(v.fcell p).q=some (.bor hb pb tp)):hb≠hd:=by
 rintro rfl;rw[cx e] at h;cases h
theorem LY{v:PV}(h:v.own=false)(p:List Nat):(v.fcell p).qo=false:=by
 cases e:(v.fcell p).qo with
 |false=>rfl
 |true=>rw[yt e] at h;cases h
theorem RS.put{v:PV}{u:V}(R:RS h0 ω0 ω ρ st us (X1 v u))(d:Option Nat):∃ ω',RS h0 ω0 ω' ρ (st.put d v) (us.put d u) X0:=by
 have xs:∀ i p f,BU (Ah ρ st us X0 (.x i) p).1/\RC us.hp (λ l=>Ag.ren f (ω l)) (.at (.x i) p) (Ah ρ st us X0 (.x i) p).1 (Ah ρ st us X0 (.x i) p).2:=λ i p f=>AW (F1 i p)
 cases d with
 | none=>
   refine⟨_,RS.ren (st':=st) (us':=us) (X':=X0) R (Ren.drop_ok (.x 0)) Ub (λ hd' p=>?_) rfl R.sh (λ i=>A5 _) R.lsl R.lbx R.lb R.cb R.ch rfl (λ _=>rfl)⟩
   cases hd' with
   |x i=>exact .inr (xs i p _)
   |s t=>exact .inl (Bg rfl (λ _=>Ren.drop_still (by simp)) λ hb pb tp _ h=>Ren.drop_still (h 0))
   |b t=>exact .inl (Bg rfl (λ _=>Ren.drop_still (by simp)) λ hb pb tp _ h=>Ren.drop_still (h 0))
   |h t=>exact .inl (Bg rfl (λ _=>Ren.drop_still (by simp)) λ hb pb tp _ h=>Ren.drop_still (h 0))
 | some d=>
   simp only[PS.put,St.put];split
   . refine⟨_,RS.ren (X':=X0) R (Ren.mv_ok (.x 0) (.s d)) (UT (by simp)) (λ hd' p=>?_) rfl (λ t=>?_) (λ i=>A5 _) (by simp[FV,FT,R.lsl,fD]) R.lbx R.lb R.cb R.ch rfl (λ _=>rfl)⟩
     . cases hd' with
       |x i=>exact .inr (AW (A0 p))
       | s t=>
         simp only[Ah];rcases NX (st:=st) (us:=us) d v t R.lsl u with h|⟨rfl,hlt,h1,h2,h3⟩|⟨h1,h2,h3,h4⟩
         . refine .inr ?_;rw[h];exact CM (A0 p)
         . refine .inl ⟨.x 0,p,?_,λ _ r=>by simp[Ren.mv],λ hb pb tp e hx=>?_⟩
           . rw[h1,h2];rfl
           . have:=Ren.mv_still (a:=.x 0) (b:=.s t) (c:=hb) (hx 0) (Dz (v:=v) h3 (by simpa only[h1] using e));exact⟨λ _=>this,this.soft⟩
         . refine .inl ?_;rw[h1,h2];by_cases htd:t=d
           . subst htd;have hz:Aa st.sl t= .fl .undef:=Fl _ _ (by omega);exact Bg rfl (λ e=>by rw[hz,A0] at e;cases e) (λ hb pb tp e=>by simp only[Ah,hz,A0] at e;simp[PV.q] at e)
           . exact Bg rfl (λ _=>Ren.mv_still (by simp) (by simpa using htd)) λ hb pb tp e hx=>Ren.mv_still (hx 0) (Dz h3 e)
       |b t=>exact .inl (Bg rfl (λ _=>Ren.mv_still (by simp) (by simp)) λ hb pb tp e=>absurd e (R.nobor_b t p hb pb tp))
       |h t=>exact .inl (Bg rfl (λ _=>Ren.mv_still (by simp) (by simp)) λ hb pb tp e=>absurd e (R.nobor_h t p hb pb tp))
     . rcases NX (st:=st) (us:=us) d v t R.lsl u with h|⟨rfl,hlt,h1,h2,h3⟩|⟨h1,h2,h3,h4⟩
       . simp only[h];exact A5 _
       . simp only[h1,h2];have:=R.shx 0;simpa [X1] using this
       . simp only[h1,h2];exact R.sh t
   . rename_i hno;simp only[JX] at hno;refine⟨_,RS.ren (X':=X0) R Ren.id_ok (λ hd p i q e=>by simp[Ren.id] at e;exact e.1) (λ hd' p=>?_) rfl (λ t=>?_) (λ i=>A5 _) (by simp[FT,R.lsl,fD]) R.lbx R.lb R.cb R.ch rfl (λ _=>rfl)⟩
     . cases hd' with
       |x i=>exact .inr (AW (A0 p))
       | s t=>
         simp only[Ah,DM,XD,<- R.lsl];by_cases h:t=d/\d<st.sl.length
         . simp only[Ac h];refine .inr ⟨?_,?_⟩
           . exact λ i pb tp=>R.nx (.x 0) p i pb tp
           . rw[CX];have:=R.core.rc (.x 0) p;simp only[Ah,X1,Ac] at this;exact this.any (LY hno p)
         . simp only[Af h];exact .inl (Bh rfl)
       |b t=>exact .inl (Bh rfl)
       |h t=>exact .inl (Bh rfl)
     . simp only[DM,XD,<- R.lsl];by_cases h:t=d/\d<st.sl.length
       . simp only[Ac h];have:=R.shx 0;simpa [X1] using this
       . simp only[Af h];exact R.sh t
def Xs(X:Cb)(i:Nat)(v:PV)(u:V):Cb:=λ j=>if j=i then (v,u) else X j
theorem SU{d:Nat}{v:PV}(hs:∀ t,AX (Aa st.sl t) (get us.sl t))(hv:AX v (get us.sl d))(t:Nat):AX (Aa (clr (.s d) (BA st.sl d v)) t) (get us.sl t):=by
 rw[Fk];split
 . exact A5 _
 . rw[DM];split
   . rename_i h;rw[h.1];exact hv
   . exact hs t
theorem RS.take(R:RS h0 ω0 ω ρ st us X)(n i:Nat)(hi:∀ p,((X i).1.fcell p)= .fl .undef)(hX:∀ j,(X j).1.bor (.s n)=false) :
 ∃ ω',RS h0 ω0 ω' ρ (Gd (Aa st.sl n) n st).2 us (Xs X i (Gd (Aa st.sl n) n st).1 (get us.sl n)):=by
 have shx:∀ j,AX (Xs X i (Aa st.sl n) (get us.sl n) j).1 (Xs X i (Aa st.sl n) (get us.sl n) j).2:=by
  intro j;unfold Xs;split
  . exact R.sh n
  . exact R.shx j
 unfold Gd
 split
 . rename_i ho
   split
   . refine⟨ω,?_⟩;have:=RS.ren (st':=st) (us':=us) (X':=Xs X i (.fl .undef) (get us.sl n)) R Ren.id_ok (λ hd p i q e=>by simp[Ren.id] at e;exact e.1) (λ hd' p=>?_) rfl R.sh (λ j=>?_) R.lsl R.lbx R.lb R.cb R.ch rfl (λ _=>rfl)
     . rwa [CX] at this
     . cases hd' with
       | x j=>
         by_cases hj:j=i
         . subst hj;exact .inr (AW (by simp[Ah,Xs,A0]))
         . exact .inl (Bh (by simp[Ah,Xs,hj]))
       |s t=>exact .inl (Bh rfl)
       |b t=>exact .inl (Bh rfl)
       |h t=>exact .inl (Bh rfl)
     . unfold Xs;split
       . exact A5 _
       . exact R.shx j
   rename_i hb;refine⟨_,RS.ren (X':=Xs X i (Aa st.sl n) (get us.sl n)) R (Ren.mv_ok (.s n) (.x i)) (UT (by simp)) (λ hd' p=>?_) rfl (SU R.sh (A5 _)) shx (by simp[FV,FT,R.lsl]) R.lbx R.lb R.cb R.ch rfl (λ _=>rfl)⟩
   cases hd' with
   | x j=>
     by_cases hj:j=i
     . subst hj;refine .inl ⟨.s n,p,by simp[Ah,Xs],λ _ r=>by simp[Ren.mv],λ hb' pb tp e hx=>?_⟩;have:=Ren.mv_still (a:=.s n) (b:=.x j) (c:=hb') (Dz (v:=Aa st.sl n) (by simpa using hb) (by simpa [Ah,Xs] using e)) (hx j);exact⟨λ _=>this,this.soft⟩
     . refine .inl (Bg (by simp[Ah,Xs,hj]) (λ _=>Ren.mv_still (by simp) (by simpa using hj)) λ hb pb tp e hx=>Ren.mv_still (Dz (v:=(X j).1) (hX j) (by simpa [Ah,Xs,hj] using e)) (hx i))
   | s t=>
     simp only[Ah];rcases NX (st:=st) (us:=us) n (.fl .undef) t R.lsl (get us.sl n) with h|⟨rfl,hlt,h1,h2,h3⟩|⟨h1,h2,h3,h4⟩
     . refine .inr ?_;rw[h];exact CM (A0 p)
     . refine .inr ?_;rw[h1];exact CM (A0 p)
     . refine .inl ?_;rw[h1];by_cases htd:t=n
       . subst htd;have hz:Aa st.sl t= .fl .undef:=Fl _ _ (by omega);exact Bg rfl (λ e=>by rw[hz,A0] at e;cases e) (λ hb pb tp e=>by simp only[hz,A0] at e;simp[PV.q] at e)
       . exact Bg rfl (λ _=>Ren.mv_still (by simpa using htd) (by simp)) λ hb pb tp e hx=>Ren.mv_still (Dz h3 e) (hx i)
   |b t=>exact .inl (Bg rfl (λ _=>Ren.mv_still (by simp) (by simp)) λ hb pb tp e=>absurd e (R.nobor_b t p hb pb tp))
   |h t=>exact .inl (Bg rfl (λ _=>Ren.mv_still (by simp) (by simp)) λ hb pb tp e=>absurd e (R.nobor_h t p hb pb tp))
 . rename_i ho
   refine⟨_,RS.ren (X':=Xs X i (Aa st.sl n) (get us.sl n)) R Ren.id_ok (λ hd p i q e=>by simp[Ren.id] at e;exact e.1) (λ hd' p=>?_) rfl R.sh shx R.lsl R.lbx R.lb R.cb R.ch rfl (λ _=>rfl)⟩
   cases hd' with
   | x j =>
     by_cases hj:j=i
     . subst hj;refine .inr ⟨?_,?_⟩
       . simp only[Ah,Xs,Ac]
         exact λ i pb tp=>R.nx (.s n) p i pb tp
       . rw[CX];simp only[Ah,Xs,Ac];exact(R.core.rc (.s n) p).any (LY (by simpa using ho) p)
     . exact .inl (Bh (by simp[Ah,Xs,hj]))
   |s t=>exact .inl (Bh rfl)
   |b t=>exact .inl (Bh rfl)
   |h t=>exact .inl (Bh rfl)
end
def Out2(o:AOp)(us:St)(h0:Ab)(ω0:Nat->W)(v:PV)(st1:PS):Prop:=
 ∃ u bx hp ω' ρ',Ad o us=some (u,bx,hp)/\RS h0 ω0 ω' ρ' st1 ⟨o.clears us.sl,bx,hp⟩ (X1 v u)
theorem G7{v:PV}(h1:∀ cs,v≠.agg cs)(h2:∀ vs,v≠.tup vs):v.fcell [0]=v:=by
 cases v<;>first|rfl|exact absurd rfl (h1 _)|exact absurd rfl (h2 _)
theorem ET{v:V}(h1:∀ cs,v≠.agg cs)(h2:∀ vs,v≠.tup vs):v.fcell [0]=v:=by
 cases v<;>first|rfl|exact absurd rfl (h1 _)|exact absurd rfl (h2 _)
section
variable {h0:Ab} {ω0 ω:Nat->W} {ρ:Nat->Nat} {st st1:PS} {us:St} {X:Cb}
theorem fX(c:V)(h:Ab)(ω:Nat->W)(hd:Hd):AX (BO c) c/\∀ p,RC h ω (.at hd p) ((BO c).fcell p) (c.fcell p):=by
 have fl:∀ x:V,x.flat=true->AX (.fl x) x/\∀ p,RC h ω (.at hd p) ((PV.fl x).fcell p) (x.fcell p):=λ x hx=>⟨eF hx,λ p=>by
  rcases We hx p with⟨h1,h2⟩|h
  . rw[h1,h2];exact .v _ _ hx
  . rw[h];exact .undef _ _⟩
 have un:∀ u:V,AX (.fl .undef) u/\∀ p,RC h ω (.at hd p) ((PV.fl .undef).fcell p) (u.fcell p):=λ u=>⟨A5 u,λ p=>by rw[A0];exact .undef _ _⟩
 unfold BO;split
 . refine⟨⟨λ _ h=>(by cases h),λ _ h=>(by cases h)⟩,λ p=>?_⟩;unfold PV.fcell
   split<;>first|exact .undef _ _|(rename_i h;cases h;done)|(rename_i h _;cases h;done)|skip
   exact .nil _ _
 . refine⟨⟨[],rfl,rfl,λ i=>by simp[Aa,Shp1]⟩,λ p=>?_⟩;unfold PV.fcell
   split<;>first|exact .undef _ _|(rename_i h;cases h;done)|skip
   . rename_i vs i c h;cases h;simp only[Aa,PV.cells]
     cases c with
     |zero=>exact .undef _ _
     |succ c=>exact .undef _ _
 . exact fl _ rfl
 . exact fl _ rfl
 . exact fl _ rfl
 . exact fl _ rfl
 . exact un _
theorem RS.ev(R:RS h0 ω0 ω ρ st us X)(x:Opnd):∃ hd,(∀ t,x= .t t->hd= .s t)/\AX (x.pev st.sl) (x.ev us.sl)/\∀ p,RC us.hp ω (.at hd p) ((x.pev st.sl).fcell p) ((x.ev us.sl).fcell p):=by
 cases x with
 |t t=>exact⟨.s t,λ _ h=>(by cases h;rfl),R.sh t,λ p=>R.core.rc (.s t) p⟩
 | c v=>
   obtain⟨h1,h2⟩:=fX v us.hp ω (.x 0);exact⟨.x 0,λ _ h=>(by cases h),h1,h2⟩
theorem RS.ev_fl(R:RS h0 ω0 ω ρ st us X){x:Opnd}{a:V}(e:x.pev st.sl= .fl a)(ha:a≠.undef):x.ev us.sl=a/\a.flat=true:=by
 obtain⟨hd,_,hs,hr⟩:=R.ev x;rw[e] at hs hr;have hr:=hr [0]
 have hs':(∀ us',x.ev us.sl≠.agg us')/\∀ us',x.ev us.sl≠.tup us':=by
  cases a<;>first|exact hs|exact absurd rfl ha
 rw[G7 (λ _ h=>(by cases h)) (λ _ h=>(by cases h)),ET hs'.1 hs'.2] at hr
 cases hr with
 |undef=>exact absurd rfl ha
 |v _ _ hx=>exact⟨rfl,hx⟩
theorem RS.ev_one(R:RS h0 ω0 ω ρ st us X){x:Opnd}{v:PV}(e:x.pev st.sl=v)(h1:∀ cs,v≠.agg cs)(h2:∀ vs,v≠.tup vs)(h3:∀ a,v≠.fl a):∃ hd,(∀ t,x= .t t->hd= .s t)/\RC us.hp ω (.at hd [0]) v (x.ev us.sl):=by
 obtain⟨hd,h4,hs,hr⟩:=R.ev x;rw[e] at hs hr;have hr:=hr [0]
 have hs':(∀ us',x.ev us.sl≠.agg us')/\∀ us',x.ev us.sl≠.tup us':=by
  cases v<;>first|exact hs|exact absurd rfl (h1 _)|exact absurd rfl (h2 _)|exact absurd rfl (h3 _)
 rw[G7 h1 h2,ET hs'.1 hs'.2] at hr;exact⟨hd,h4,hr⟩
theorem RS.ev_agg(R:RS h0 ω0 ω ρ st us X){x:Opnd}{cs:List PV}(e:x.pev st.sl= .agg cs):∃ hd ws,(∀ t,x= .t t->hd= .s t)/\x.ev us.sl= .agg ws/\ws.length=cs.length/\∀ c,RC us.hp ω (.at hd [c]) (Aa cs c) (get ws c):=by
 obtain⟨hd,h4,hs,hr⟩:=R.ev x;rw[e] at hs hr;obtain⟨ws,h1,h2⟩:=hs;exact⟨hd,ws,h4,h1,h2,λ c=>by have:=hr [c];rw[h1] at this;exact this⟩
theorem RS.ev_tup(R:RS h0 ω0 ω ρ st us X){t:Nat}{vs:List PV}(e:Aa st.sl t= .tup vs):∃ ws,get us.sl t= .tup ws/\ws.length=vs.length/\(∀ i,Shp1 (Aa vs i) (get ws i))/\∀ i c,RC us.hp ω (.at (.s t) [i,c]) (Aa (Aa vs i).cells c) (get (get ws i).cells c):=by
 have hs:=R.sh t
 have hr:=λ p=>R.core.rc (.s t) p
 simp only[Ah] at hr;rw[e] at hs hr;obtain⟨ws,h1,h2,h3⟩:=hs;exact⟨ws,h1,h2,h3,λ i c=>by have:=hr [i,c];rw[h1] at this;exact this⟩
theorem Out2.flat(R:RS h0 ω0 ω ρ st us X0){o:AOp}{x:V}(hx:x.flat=true)(e:Ad o us=some (x,us.bx,us.hp))(hc:o.clears us.sl=us.sl):Out2 o us h0 ω0 (.fl x) st:=
 ⟨x,us.bx,us.hp,ω,ρ,e,by rw[hc];exact R.flat hx⟩
theorem uG{op:BinOp}{k:IntKind}{a b:Int}{r:V}(e:DA op k a b=some r):r.flat=true:=by
 unfold DA at e
 split at e<;>first|(cases e;rfl)|(split at e<;>first|(cases e;done)|(cases e;rfl))|cases e
theorem uY{op:BinOp}{a b r:V}(e:Ca op a b=some r):r.flat=true/\a≠.undef/\b≠.undef:=by
 refine⟨?_,?_,?_⟩
 . unfold Ca at e;split at e
   . have sh:∀ k x y,LU op k x y=some r->r.flat=true:=by
      intro k x y e;unfold LU at e;split at e
      . cases e
      . split at e<;>first|(cases e;rfl)|cases e
     split at e
     . exact sh _ _ _ e
     . exact sh _ _ _ e
     . split at e
       . exact uG e
       . cases e
   . split at e
     . split at e
       . cases e;rfl
       . cases e
     . cases e;rfl
     . cases e;rfl
     . cases e
   . cases e
 . rintro rfl;simp[Ca] at e
 . rintro rfl;cases a<;>simp[Ca] at e
theorem yc{op:UnOp}{a r:V}(e:Hy op a=some r):r.flat=true/\a≠.undef:=by
 unfold Hy at e;split at e
 . cases e;exact⟨rfl,by simp⟩
 . cases e;exact⟨rfl,by simp⟩
 . cases e
theorem Zcn(R:RS h0 ω0 ω ρ st us X0){op:BinOp}{x y:Opnd}{v:PV}(e:Oy op (x.pev st.sl) (y.pev st.sl)=some v):Out2 (.bin op x y) us h0 ω0 v st:=by
 unfold Oy at e;split at e
 . rename_i a b ha hb
   cases hr:Ca op a b with
   |none=>rw[hr] at e;cases e
   | some r=>
     rw[hr] at e;cases e;obtain⟨h1,h2,h3⟩:=uY hr;exact .flat R h1 (by simp[Ad,(R.ev_fl ha h2).1,(R.ev_fl hb h3).1,hr]) rfl
 . cases e
theorem Zc3(R:RS h0 ω0 ω ρ st us X0){op:UnOp}{x:Opnd}{v:PV}(e:Q5 op (x.pev st.sl)=some v):Out2 (.un op x) us h0 ω0 v st:=by
 unfold Q5 at e;split at e
 . rename_i a ha
   cases hr:Hy op a with
   |none=>rw[hr] at e;cases e
   | some r=>
     rw[hr] at e;cases e;obtain⟨h1,h2⟩:=yc hr;exact .flat R h1 (by simp[Ad,(R.ev_fl ha h2).1,hr]) rfl
 . cases e
theorem Zbw(R:RS h0 ω0 ω ρ st us X0){k:IntKind}{x:Opnd}{v:PV}(e:Qn k (x.pev st.sl)=some v):Out2 (.conv k x) us h0 ω0 v st:=by
 unfold Qn at e;split at e
 . rename_i k' n ha;cases e;exact .flat R rfl (by simp[Ad,(R.ev_fl ha (by simp)).1]) rfl
 . cases e
theorem Zcx(R:RS h0 ω0 ω ρ st us X0){neg:Bool}{x y:Opnd}{v:PV}(e:QE neg (x.pev st.sl) (y.pev st.sl)=some v):Out2 (.eqB neg x y) us h0 ω0 v st:=by
 unfold QE at e;split at e
 . rename_i a b ha hb;cases e;exact .flat R rfl (by simp[Ad,(R.ev_fl ha (by simp)).1,(R.ev_fl hb (by simp)).1]) rfl
 . cases e
theorem Zb9(R:RS h0 ω0 ω ρ st us X0){neg:Bool}{x:Opnd}{v:PV}(e:QP neg (x.pev st.sl)=some v):Out2 (.eqN neg x (.c (.ifc true))) us h0 ω0 v st:=by
 unfold QP at e;split at e
 . rename_i a ha;cases e;exact .flat R rfl (by simp[Ad,(R.ev_fl ha (by simp)).1]) rfl
 . cases e
theorem dU:∀ {cs:List PV} {l:List V},DZ cs=some l->cs=l.map .fl
 |[],l,h=>by simp[DZ] at h;subst h;rfl
 | .fl x::r,l,h=>by
   simp only[DZ] at h
   split at h
   . rename_i l' h';cases h;simp[dU h']
   . cases h
 |.sl ..::r,l,h=>by simp[DZ] at h
 |.ep ..::r,l,h=>by simp[DZ] at h
 |.box ..::r,l,h=>by simp[DZ] at h
 |.ptr ..::r,l,h=>by simp[DZ] at h
 |.agg ..::r,l,h=>by simp[DZ] at h
 |.tup ..::r,l,h=>by simp[DZ] at h
theorem fw{hd:Hd}{cs:List PV}{l ws:List V}(h:DZ cs=some l)(hl:ws.length=cs.length)(hu:∀ x∈l,x≠.undef){H:Ab}(hr:∀ c,RC H ω (.at hd [c]) (Aa cs c) (get ws c)):ws=l:=by
 have:=dU h;subst this
 refine Yp (by simpa using hl) λ c h1 h2=>?_
 have r:=hr c;rw[Dy,Co,A3 h1,Gy,A3 h2] at r;simp only[B5,HZ] at r;generalize hx:l[c]=x at r;generalize hy:ws[c]=y at r
 have hne:x≠.undef:=by rw[<- hx];exact hu _ (Eh h2)
 cases r with
 |undef=>exact absurd rfl hne
 |v=>rfl
theorem e8{l:List V}(h:l.all V.flat=true):∀ x∈l,x≠.undef:=by
 rintro x hx rfl;have:=CV.1 h _ hx;cases this
theorem ZcR(R:RS h0 ω0 ω ρ st us X0){n:Nat}{neg:Bool}{x y:Opnd}{v:PV}(e:QU n neg (x.pev st.sl) (y.pev st.sl)=some v):Out2 (.eqA n neg x y) us h0 ω0 v st:=by
 unfold QU at e;split at e
 . rename_i a b ha hb;split at e
   . rename_i a' b' ha' hb';split at e
     . rename_i hc;obtain⟨h1,h2,h3,h4⟩:=hc;obtain⟨_,wa,_,ea,la,ra⟩:=R.ev_agg ha;obtain⟨_,wb,_,eb,lb,rb⟩:=R.ev_agg hb;have e1:=fw ha' la (e8 h3) ra;have e2:=fw hb' lb (e8 h4) rb;subst e1;subst e2
       cases hr:DQ wa wb with
       |none=>rw[hr] at e;cases e
       | some t=>
         rw[hr] at e;cases e;exact .flat R rfl (by simp[Ad,ea,eb,h1,h2,hr]) rfl
     . cases e
   . cases e
 . cases e
theorem bz(R:RS h0 ω0 ω ρ st us X){d:Nat}{o:Option Opnd}{n:Nat}(e:Mq d (o.map (·.pev st.sl))=some n):DP d (o.map (·.ev us.sl))=some n:=by
 cases o with
 |none=>simpa [Mq,DP] using e
 | some x=>
   simp only[B5] at e ⊢;unfold Mq at e;split at e
   . rename_i h;cases h
   . rename_i k i h
     cases h':x.pev st.sl with
     | fl a=>
       simp only[Am] at h;rw[h'] at h;cases h;rw[(R.ev_fl h' (by simp)).1];exact e
     |_=>simp[h'] at h
   . cases e
theorem zV(R:RS h0 ω0 ω ρ st us X0){x:Opnd}{lo hi:Option Opnd}{v:PV}(e:Xd (lo.map (·.pev st.sl)) (hi.map (·.pev st.sl)) (x.pev st.sl)=some v):Out2 (.substr x lo hi) us h0 ω0 v st:=by cases e
theorem Zbl(R:RS h0 ω0 ω ρ st us X0){x y:Opnd}{v:PV}(e:XG (x.pev st.sl) (y.pev st.sl)=some v):Out2 (.index x y) us h0 ω0 v st:=by cases e
theorem ZbZ(R:RS h0 ω0 ω ρ st us X0){x:Opnd}{v:PV}(e:XX (x.pev st.sl)=some v):Out2 (.lenT x) us h0 ω0 v st:=by cases e
theorem Zb6(R:RS h0 ω0 ω ρ st us X0){x y:Opnd}{v:PV}(e:QM (x.pev st.sl) (y.pev st.sl)=some v):Out2 (.minI x y) us h0 ω0 v st:=by
 unfold QM at e;split at e
 . rename_i a b hx hy;cases e;exact .flat R rfl (by simp[Ad,(R.ev_fl hx (by simp)).1,(R.ev_fl hy (by simp)).1]) rfl
 . cases e
theorem ZcE(R:RS h0 ω0 ω ρ st us X0){x y:Opnd}{v:PV}(e:QI (x.pev st.sl) (y.pev st.sl)=some v):Out2 (.maxI x y) us h0 ω0 v st:=by
 unfold QI at e;split at e
 . rename_i a b hx hy;cases e;exact .flat R rfl (by simp[Ad,(R.ev_fl hx (by simp)).1,(R.ev_fl hy (by simp)).1]) rfl
 . cases e
theorem Zb8(R:RS h0 ω0 ω ρ st us X0){x:Opnd}{v:PV}(e:QK (x.pev st.sl)=some v):Out2 (.len x) us h0 ω0 v st:=by
 unfold QK at e;split at e
 . rename_i q es hx;cases e;obtain⟨hd,_,r⟩:=R.ev_one hx (λ _ h=>(by cases h)) (λ _ h=>(by cases h)) (λ _ h=>(by cases h));generalize hu:x.ev us.sl=u at r
   cases r with
   |nil=>exact .flat R rfl (by simp[Ad,hu]) rfl
   |sl _ _ _ l o n b h1 hk hc hne hn hw hle hr=>subst hn;exact .flat R rfl (by simp[Ad,hu]) rfl
 . cases e
theorem ZbJ(R:RS h0 ω0 ω ρ st us X0){x:Opnd}{v:PV}(e:YF (x.pev st.sl)=some v):Out2 (.bstr x) us h0 ω0 v st:=by cases e
end
structure SR (h:Ab) (ω:Nat->W) (m:Md) (q:Ql) (es:List (List PV)) (l o:Nat) (b:Blk):Prop where
 hb:h[l]?=some b
 hk:b.k≠.dead
 hc:chk ω m q l o b
 hw:∀ e∈es,e.length=b.w
 hle:o+es.length*b.w<=b.cs.length
 hr:∀ k,k<es.length*b.w->RC h ω (m.sub q k) (Aa es.flatten k) (get b.cs (o+k))
theorem SR.sl{h:Ab}{ω:Nat->W}{m:Md}{q:Ql}{es:List (List PV)}{l o:Nat}{b:Blk}(s:SR h ω m q es l o b)(hq:(q= .own\/∃ a p,q= .bor a p true)->es≠[]):RC h ω m (.sl q es) (.slice l o es.length):=.sl _ _ _ _ _ _ b s.hb s.hk s.hc (λ _=>hq) rfl s.hw s.hle s.hr
theorem SR.ep{h:Ab}{ω:Nat->W}{m:Md}{q:Ql}{es:List (List PV)}{l o:Nat}{b:Blk}(s:SR h ω m q es l o b)(hq:q.isOwn=false)(j o':Nat):RC h ω m (.ep q es j o') (.ptr l (o+j*b.w+o')):=.ep _ _ _ _ _ _ _ _ b s.hb s.hk hq s.hc s.hw s.hle s.hr rfl
theorem RC.inn_un{h:Ab}{ω:Nat->W}{hd:Hd}{p:List Nat}{v:PV}{u:V}(r:RC h ω (.inn hd p) v u):RC h ω (.un hd) v u:=by
 refine r.map (S:=λ m m'=>((∃ p,m= .inn hd p)/\m'= .un hd)\/(m= .fz/\m'= .fz)) ?_ ?_ (by simp) (by rintro m m' (⟨⟨p,rfl⟩,rfl⟩|⟨rfl,rfl⟩) e<;>first|rfl|exact e) (.inl ⟨⟨p,rfl⟩,rfl⟩)
 . rintro m m' q k (⟨⟨p,rfl⟩,rfl⟩|⟨rfl,rfl⟩)
   . cases q
     . exact .inr ⟨rfl,rfl⟩
     . exact .inl ⟨⟨_,rfl⟩,rfl⟩
     . exact .inl ⟨⟨_,rfl⟩,rfl⟩
     . exact .inr ⟨rfl,rfl⟩
     . exact .inr ⟨rfl,rfl⟩
   . exact .inr ⟨rfl,rfl⟩
 . rintro m m' q l o b (⟨⟨p,rfl⟩,rfl⟩|⟨rfl,rfl⟩) hb hc
   . cases q with
     |frz=>exact⟨hb,hc⟩
     |own=>exact⟨hb,.inl ⟨p,hc.1⟩⟩
     |ownw w=>exact⟨hb,.inl ⟨p,hc.1⟩⟩
     |bor=>exact hc.elim
     |pre=>exact hc.elim
   . exact⟨hb,hc⟩
def Weak(hd:Hd)(p:List Nat):Ql->Ql->Nat->Prop
 |.frz,.frz,_=>True
 |.own,.bor a b t,l=>a=hd/\b=p/\(t=true->l=0)
 |.ownw _,.bor a b t,l=>a=hd/\b=p/\(t=true->l=0)
 |.own,.pre a b,l=>a=hd/\b=p/\l=0
 |.ownw _,.pre a b,l=>a=hd/\b=p/\l=0
 |.bor a b t,.bor a' b' t',l=>a=a'/\b=b'/\(t'=true->t=true/\l=0)
 |.bor a b t,.pre a' b',l=>a=a'/\b=b'/\t=true/\l=0
 |.pre a b,.bor a' b' t',l=>a=a'/\b=b'/\(t'=true->l=0)
 |.pre a b,.pre a' b',l=>a=a'/\b=b'/\l=0
 |_,_,_=>False
theorem Weak.any{hd:Hd}{p:List Nat}{q q':Ql}{l:Nat}(h:Weak hd p q q' 1):Weak hd p q q' l:=by
 cases q<;>cases q'<;>simp only[Weak,Nat.one_ne_zero,imp_false,and_false] at h ⊢<;>first|exact h|exact h.elim|skip
 . exact⟨h.1,h.2.1,λ e=>absurd e h.2.2⟩
 . exact⟨h.1,h.2.1,λ e=>absurd e h.2.2⟩
 . exact⟨h.1,h.2.1,λ e=>absurd e h.2.2⟩
 . exact⟨h.1,h.2.1,λ e=>absurd e h.2.2⟩
theorem SR.weak{h:Ab}{ω:Nat->W}{hd hd':Hd}{p p':List Nat}{q q':Ql}{es:List (List PV)}{l o:Nat}{b:Blk}(s:SR h ω (.at hd p) q es l o b){l0 n0:Nat}(hq:Weak hd p q q' l0)(hl:l0+n0<=es.length) :
 SR h ω (.at hd' p') q' ((es.drop l0).take n0) l (o+l0*b.w) b:=by
 have hw':∀ e∈(es.drop l0).take n0,e.length=b.w:=λ e he=>s.hw e (List.mem_of_mem_drop (Ou he))
 have hlen:((es.drop l0).take n0).length=n0:=by simp;omega
 have hfl:∀ k,k<n0*b.w->Aa ((es.drop l0).take n0).flatten k=Aa es.flatten (l0*b.w+k):=by
  intro k hk
  have hb0:0<b.w:=by rcases Yy b.w with h|h;rw[h] at hk;simp at hk;exact h
  have e1:=JH hw' (k / b.w) (k % b.w) (GC _ hb0);have e2:=JH s.hw (l0+k / b.w) (k % b.w) (GC _ hb0)
  have hd1:k / b.w*b.w+k % b.w=k:=by rw[JR];exact Mi k b.w
  rw[hd1] at e1;rw[Df,Qw,hd1] at e2;rw[e1,e2,Ot,Ot,Mt ((Qm hb0).2 hk),JP]
 refine⟨s.hb,s.hk,?_,hw',?_,?_⟩
 . have hc:=s.hc
   cases q<;>cases q'<;>first|exact hc|exact hq.elim|skip
   . obtain⟨rfl,rfl,h3⟩:=hq;exact⟨.inl ⟨_,hc.1⟩,λ e=>⟨hc.1,by rw[h3 e,hc.2.1];simp⟩⟩
   . obtain⟨rfl,rfl,h3⟩:=hq;exact⟨hc.1,by rw[h3,hc.2.1];simp⟩
   . obtain⟨rfl,rfl,h3⟩:=hq;exact⟨.inl ⟨_,hc.1⟩,λ e=>⟨hc.1,by rw[h3 e,hc.2.1];simp⟩⟩
   . obtain⟨rfl,rfl,h3⟩:=hq;exact⟨hc.1,by rw[h3,hc.2.1];simp⟩
   . obtain⟨rfl,rfl,h3⟩:=hq;refine⟨hc.1,λ e=>?_⟩;obtain⟨h4,h5⟩:=h3 e;obtain⟨h6,h7⟩:=hc.2 h4;exact⟨h6,by rw[h5,h7];simp⟩
   . obtain⟨rfl,rfl,h4,h5⟩:=hq;obtain⟨h6,h7⟩:=hc.2 h4;exact⟨h6,by rw[h5,h7];simp⟩
   . obtain⟨rfl,rfl,h3⟩:=hq;exact⟨.inl ⟨_,hc.1⟩,λ e=>⟨hc.1,by rw[h3 e,hc.2];simp⟩⟩
   . obtain⟨rfl,rfl,h3⟩:=hq;exact⟨hc.1,by rw[h3,hc.2];simp⟩
 . rw[hlen]
   have:=s.hle;have h1:(l0+n0)*b.w<=es.length*b.w:=FZ _ hl;rw[Df] at h1;omega
 . intro k hk
   rw[hlen] at hk;rw[hfl k hk];have h1:(l0+n0)*b.w<=es.length*b.w:=FZ _ hl;rw[Df] at h1;have r:=s.hr (l0*b.w+k) (by omega);rw[show o+l0*b.w+k=o+(l0*b.w+k) by omega]
   cases q<;>cases q'<;>first|exact r|exact hq.elim|(obtain⟨rfl,rfl,_⟩:=hq;exact r.inn_un)|(obtain⟨rfl,rfl,_⟩:=hq;exact r)
section
variable {h0:Ab} {ω0 ω:Nat->W} {ρ:Nat->Nat} {st st1:PS} {us:St} {X:Cb}
theorem RS.ev_nobx(R:RS h0 ω0 ω ρ st us X)(x:Opnd)(p:List Nat):BU ((x.pev st.sl).fcell p):=by
 cases x with
 |t t=>exact λ i pb tp=>R.nx (.s t) p i pb tp
 | c v=>
   intro i pb tp e;have hb:=cx e;simp only[Opnd.pev] at hb;unfold BO at hb;split at hb<;>simp[PV.bor,PV.borL] at hb
theorem RC.scalar{h:Ab}{ω:Nat->W}{m:Md}{v:PV}{u:V}(r:RC h ω m v u)(hv:∀ a,v≠.fl a):(∀ us,u≠.agg us)/\∀ us,u≠.tup us:=by
 cases r with
 |undef=>exact absurd rfl (hv _)
 |v=>exact absurd rfl (hv _)
 |_=>exact⟨λ _ h=>(by cases h),λ _ h=>(by cases h)⟩
theorem RS.hand1(R:RS h0 ω0 ω ρ st us X0){v:PV}{u:V}{hd:Hd}{p0:List Nat}(hr:RC us.hp ω (.at hd p0) v u)(h1:∀ cs,v≠.agg cs)(h2:∀ vs,v≠.tup vs)(h3:∀ a,v≠.fl a)(ho:v.qo=false)(hx:BU v):RS h0 ω0 ω ρ st us (X1 v u):=by
 obtain⟨h4,h5⟩:=hr.scalar h3
 have fc:∀ p,(v.fcell p=v/\u.fcell p=u)\/v.fcell p= .fl .undef:=by
  intro p;unfold PV.fcell
  split<;>first|exact .inr rfl|(exact absurd rfl (h1 _))|(exact absurd rfl (h2 _))|skip
  exact .inl ⟨rfl,ET h4 h5⟩
 refine R.hand (hd:=hd) ?_ (λ p=>?_) (λ p=>?_) (λ p=>?_)
 . cases v<;>first|exact⟨h4,h5⟩|exact absurd rfl (h1 _)|exact absurd rfl (h2 _)|exact absurd rfl (h3 _)
 . rcases fc p with⟨e1,e2⟩|e
   . rw[e1,e2];exact hr.any ho
   . rw[e];exact .undef _ _
 . rcases fc p with⟨e1,e2⟩|e
   . rw[e1];exact ho
   . rw[e];rfl
 . rcases fc p with⟨e1,e2⟩|e
   . rw[e1];exact hx
   . rw[e];exact λ i pb tp=>by simp[PV.q]
theorem Zaq(R:RS h0 ω0 ω ρ st us X0){x:Opnd}{v:PV}(e:Uc (x.pev st.sl)=some v):Out2 (.nilck x) us h0 ω0 v st:=by
 unfold Uc at e;split at e
 . rename_i i o hx;cases e;obtain⟨hd,_,r⟩:=R.ev_one hx (λ _ h=>(by cases h)) (λ _ h=>(by cases h)) (λ _ h=>(by cases h));have r':=r;generalize hu:x.ev us.sl=u at r;rw[hu] at r';cases r;exact⟨_,_,_,ω,ρ,by simp[Ad,hu],R.hand1 r' (λ _ h=>(by cases h)) (λ _ h=>(by cases h)) (λ _ h=>(by cases h)) rfl (λ i pb tp=>by simp[PV.q])⟩
 . rename_i i o hx;cases e;obtain⟨hd,_,r⟩:=R.ev_one hx (λ _ h=>(by cases h)) (λ _ h=>(by cases h)) (λ _ h=>(by cases h));have r':=r;generalize hu:x.ev us.sl=u at r;rw[hu] at r';cases r;exact⟨_,_,_,ω,ρ,by simp[Ad,hu],R.hand1 r' (λ _ h=>(by cases h)) (λ _ h=>(by cases h)) (λ _ h=>(by cases h)) rfl (λ i pb tp=>by simp[PV.q])⟩
 . rename_i q es j o hx;cases e;obtain⟨hd,_,r⟩:=R.ev_one hx (λ _ h=>(by cases h)) (λ _ h=>(by cases h)) (λ _ h=>(by cases h));have hn:=R.ev_nobx x [0];rw[hx] at hn;have r':=r;generalize hu:x.ev us.sl=u at r;rw[hu] at r'
   cases r with
   | ep _ _ _ _ _ l o1 p b h1 hk hq hc hw hle hr hp=>
     exact⟨_,_,_,ω,ρ,by simp[Ad,hu],R.hand1 r' (λ _ h=>(by cases h)) (λ _ h=>(by cases h)) (λ _ h=>(by cases h)) rfl hn⟩
 . cases e
theorem zQ(R:RS h0 ω0 ω ρ st us X0){off:Nat}{x:Opnd}{v:PV}(e:TN off (x.pev st.sl)=some v):Out2 (.fieldA off x) us h0 ω0 v st:=by
 unfold TN at e;split at e
 . rename_i i o hx;cases e;obtain⟨hd,_,r⟩:=R.ev_one hx (λ _ h=>(by cases h)) (λ _ h=>(by cases h)) (λ _ h=>(by cases h));generalize hu:x.ev us.sl=u at r;cases r;exact⟨_,_,_,ω,ρ,by simp[Ad,hu],R.hand1 (.box (.at hd [0]) i (o+off)) (λ _ h=>(by cases h)) (λ _ h=>(by cases h)) (λ _ h=>(by cases h)) rfl (λ i pb tp=>by simp[PV.q])⟩
 . rename_i i o hx;cases e;obtain⟨hd,_,r⟩:=R.ev_one hx (λ _ h=>(by cases h)) (λ _ h=>(by cases h)) (λ _ h=>(by cases h));generalize hu:x.ev us.sl=u at r
   cases r with
   | ptr _ _ _ _ l hl=>
     exact⟨_,_,_,ω,ρ,by simp[Ad,hu],R.hand1 (.ptr hd [0] i (o+off) l hl) (λ _ h=>(by cases h)) (λ _ h=>(by cases h)) (λ _ h=>(by cases h)) rfl (λ i pb tp=>by simp[PV.q])⟩
 . rename_i q es j o hx;cases e;obtain⟨hd,_,r⟩:=R.ev_one hx (λ _ h=>(by cases h)) (λ _ h=>(by cases h)) (λ _ h=>(by cases h));have hn:=R.ev_nobx x [0];rw[hx] at hn;generalize hu:x.ev us.sl=u at r
   cases r with
   | ep _ _ _ _ _ l o1 p b h1 hk hq hc hw hle hr hp=>
     refine⟨.ptr l (p+off),us.bx,us.hp,ω,ρ,by simp[Ad,hu],R.hand1 (hd:=hd) (p0:=[0]) (.ep _ _ _ _ (o+off) _ o1 _ b h1 hk hq hc hw hle hr (by rw[hp];omega)) (λ _ h=>(by cases h)) (λ _ h=>(by cases h)) (λ _ h=>(by cases h)) rfl ?_⟩;intro i pb tp;have:=hn i pb tp
     cases q<;>first|exact this|simp[PV.q]
 . cases e
theorem x6{x:Opnd}{l0:Nat}{q q':Ql}{hd:Hd}(e:EM x l0 q=some q')(ht:∀ t,x= .t t->hd= .s t):Weak hd [0] q q' l0/\q'.isOwn=false/\∀ a p,q'≠.bor a p true:=by
 cases q with
 |frz=>simp[EM] at e;subst e;exact⟨trivial,rfl,by simp⟩
 | own=>
   cases x with
   | t n=>
     simp only[EM,Am] at e;subst e;split
     . exact⟨⟨(ht n rfl).symm,rfl,‹_›⟩,rfl,by simp⟩
     . exact⟨⟨(ht n rfl).symm,rfl,λ h=>by cases h⟩,rfl,by simp⟩
   |c v=>simp[EM] at e
 |ownw w=>simp[EM] at e
 | bor a b t=>
   simp only[EM,Am] at e;subst e;split
   . rename_i h;exact⟨⟨rfl,rfl,h.1,h.2⟩,rfl,by simp⟩
   . exact⟨⟨rfl,rfl,λ h=>by cases h⟩,rfl,by simp⟩
 | pre a b=>
   simp only[EM,Am] at e;subst e;split
   . exact⟨⟨rfl,rfl,‹_›⟩,rfl,by simp⟩
   . exact⟨⟨rfl,rfl,λ h=>by cases h⟩,rfl,by simp⟩
theorem wH{x:Opnd}{q q':Ql}{hd:Hd}(e:EH x q=some q')(ht:∀ t,x= .t t->hd= .s t):Weak hd [0] q q' 0/\q'.isOwn=false:=by
 cases q with
 |frz=>simp[EH] at e;subst e;exact⟨trivial,rfl⟩
 | own=>
   cases x with
   |t n=>simp[EH] at e;subst e;exact⟨⟨(ht n rfl).symm,rfl,λ _=>rfl⟩,rfl⟩
   |c v=>simp[EH] at e
 |ownw w=>simp[EH] at e
 |bor a b t=>simp[EH] at e;subst e;exact⟨⟨rfl,rfl,λ h=>⟨h,rfl⟩⟩,rfl⟩
 |pre a b=>simp[EH] at e;subst e;exact⟨⟨rfl,rfl,λ _=>rfl⟩,rfl⟩
def Ql.hd:Ql->Option Hd
 |.bor h _ _=>some h
 |.pre h _=>some h
 |_=>none
theorem iX{v:PV}{i:Nat}{pb:List Nat}{tp:Bool}(h:v.q=some (.bor (.x i) pb tp)):(∃ q es,v= .sl q es/\q.hd=some (.x i))\/∃ q es j o,v= .ep q es j o/\q.hd=some (.x i):=by
 cases v with
 |sl q es=>left;refine⟨q,es,rfl,?_⟩;cases q<;>simp[PV.q] at h<;>simp[Ql.hd,h.1]
 |ep q es j o=>right;refine⟨q,es,j,o,rfl,?_⟩;cases q<;>simp[PV.q] at h<;>simp[Ql.hd,h.1]
 |_=>simp[PV.q] at h
theorem iH(R:RS h0 ω0 ω ρ st us X){x:Opnd}{q:Ql}{es:List (List PV)}(hx:x.pev st.sl= .sl q es)(i:Nat):q.hd≠some (.x i):=by
 intro h
 cases q with
 |bor a b t=>have:=R.ev_nobx x [0] i b t;rw[hx] at this;simp[Ql.hd] at h;subst h;exact this rfl
 |pre a b=>have:=R.ev_nobx x [0] i b true;rw[hx] at this;simp[Ql.hd] at h;subst h;exact this rfl
 |_=>simp[Ql.hd] at h
theorem ZaA(R:RS h0 ω0 ω ρ st us X){x:Opnd}{l0:Nat}{q q':Ql}{es:List (List PV)}(hx:x.pev st.sl= .sl q es)(e:EM x l0 q=some q')(i:Nat):q'.hd≠some (.x i):=by
 have:=iH R hx i
 cases q with
 |frz=>simp[EM] at e;subst e;simp[Ql.hd]
 |own=>cases x<;>simp[EM] at e;subst e;split<;>simp[Ql.hd]
 |ownw w=>simp[EM] at e
 |bor a b t=>simp only[EM,Am] at e;subst e;split<;>exact this
 |pre a b=>simp only[EM,Am] at e;subst e;split<;>exact this
theorem ZaI(R:RS h0 ω0 ω ρ st us X){x:Opnd}{q q':Ql}{es:List (List PV)}(hx:x.pev st.sl= .sl q es)(e:EH x q=some q')(i:Nat):q'.hd≠some (.x i):=by
 have:=iH R hx i
 cases q with
 |frz=>simp[EH] at e;subst e;simp[Ql.hd]
 |own=>cases x<;>simp[EH] at e;subst e;simp[Ql.hd]
 |ownw w=>simp[EH] at e
 |bor a b t=>simp[EH] at e;subst e;exact this
 |pre a b=>simp[EH] at e;subst e;exact this
theorem zf(R:RS h0 ω0 ω ρ st us X0){w:Nat}{x i:Opnd}{v:PV}(e:PN w x (x.pev st.sl) (i.pev st.sl)=some v):Out2 (.indexA w x i) us h0 ω0 v st:=by
 unfold PN at e;split at e
 . rename_i q es k j hx hi;split at e
   . rename_i hc;obtain⟨c1,c2,c3⟩:=hc;simp only[B4] at e;obtain⟨q',hq,rfl⟩:=e;obtain⟨hd,ht,r⟩:=R.ev_one hx (λ _ h=>(by cases h)) (λ _ h=>(by cases h)) (λ _ h=>(by cases h));have hiv:=(R.ev_fl hi (by simp)).1;obtain⟨hwk,hqo⟩:=wH hq ht;generalize hu:x.ev us.sl=u at r
     cases r with
     |nil=>simp at c2;omega
     | sl _ _ _ l o n b h1 hk hc hne hn hw hle hr=>
       subst hn;have s:SR us.hp ω (.at hd [0]) q es l o b:=⟨h1,hk,hc,hw,hle,hr⟩;have s':=s.weak (hd':=hd) (p':=[0]) (l0:=0) (n0:=es.length) hwk (by omega);simp only[Hs,H4,JI,Ej] at s'
       have hbw:b.w=w:=by
        have h2:(es[j.toNat]'(by omega)).length=b.w:=hw _ (Eh _);rw[<- h2];exact(He w es).1 c3 _ (Eh _)
       refine⟨.ptr l (o+j.toNat*w),us.bx,us.hp,ω,ρ,by simp[Ad,hu,hiv,c1,c2],R.hand1 (u:=.ptr l (o+j.toNat*w)) (hd:=hd) (p0:=[0]) (by have:=s'.ep hqo j.toNat 0;rw[hbw] at this;exact this) (λ _ h=>(by cases h)) (λ _ h=>(by cases h)) (λ _ h=>(by cases h)) ?_ ?_⟩
       . rfl
       . intro a pb tp e;rcases iX e with⟨_,_,e1,_⟩|⟨q,es,j,o,e1,e2⟩
         . cases e1
         . cases e1;exact ZaI R hx hq a e2
   . cases e
 . cases e
theorem Zah(R:RS h0 ω0 ω ρ st us X0){w:Nat}{x:Opnd}{lo hi:Option Opnd}{v:PV}(e:P7 w x (lo.map (·.pev st.sl)) (hi.map (·.pev st.sl)) (x.pev st.sl)=some v):Out2 (.slice w x lo hi) us h0 ω0 v st:=by
 unfold P7 at e;split at e
 . rename_i q es hx;split at e
   . rename_i l0 n1 hl hh;split at e
     . rename_i hc;obtain⟨c1,c2,c3,c4⟩:=hc;simp only[B4] at e;obtain⟨q',hq,rfl⟩:=e;obtain⟨hd,ht,r⟩:=R.ev_one hx (λ _ h=>(by cases h)) (λ _ h=>(by cases h)) (λ _ h=>(by cases h));obtain⟨hwk0,hqo,hnt⟩:=x6 hq ht
       have hwk:Weak hd [0] q q' l0:=by
        cases lo with
        |none=>have:l0=0:=(CO hl).symm;subst this;exact hwk0
        |some lo=>exact hwk0.any
       generalize hu:x.ev us.sl=u at r
       cases r with
       |nil=>simp at c3
       | sl _ _ _ l o n b h1 hk hc hne hn hw hle hr=>
         subst hn;have s:SR us.hp ω (.at hd [0]) q es l o b:=⟨h1,hk,hc,hw,hle,hr⟩;have s':=s.weak (hd':=hd) (p':=[0]) (l0:=l0) (n0:=n1-l0) hwk (by omega)
         have hbw:b.w=w:=by
          have h2:(es[0]'c3).length=b.w:=hw _ (Eh _);rw[<- h2];exact(He w es).1 c4 _ (Eh _)
         have hlen:((es.drop l0).take (n1-l0)).length=n1-l0:=by simp;omega
         have hwd:D3 us.hp l=some w:=by simp[D3,h1,hbw]
         refine⟨.slice l (o+l0*w) (n1-l0),us.bx,us.hp,ω,ρ,by simp[Ad,hu,bz R hl,bz R hh,c1,c2,hwd],R.hand1 (u:=.slice l (o+l0*w) (n1-l0)) (hd:=hd) (p0:=[0]) (by have:=s'.sl (λ e=>by rcases e with e|⟨a,p,e⟩;(· rw[e] at hqo;cases hqo);(· exact absurd e (hnt a p)));rw[hbw,hlen] at this;exact this) (λ _ h=>(by cases h)) (λ _ h=>(by cases h)) (λ _ h=>(by cases h)) ?_ ?_⟩
         . exact hqo
         . intro a pb tp e;rcases iX e with⟨q,es,e1,e2⟩|⟨_,_,_,_,e1,_⟩
           . cases e1;exact ZaA R hx hq a e2
           . cases e1
     . cases e
   . cases e
 . cases e
end
def Ren.seg(a:Hd)(o n:Nat)(b:Hd)(o':Nat):Ren:=λ hd p=>match p with
 |[]=>.own hd []
 |c::r=>if hd=a/\o<=c/\c<o+n then .own b ((c-o+o')::r) else if hd=b/\o'<=c/\c<o'+n then .frz else .own hd (c::r)
theorem Ren.seg_ok{a:Hd}{o n:Nat}{b:Hd}{o':Nat}(hab:a≠b):(Ren.seg a o n b o').Ok:=by
 refine⟨λ hd p hd' p' x c e e'=>?_,λ hd p=>?_⟩
 . unfold Ren.seg at e e';split at e
   . cases e;split at e'
     . cases e';exact⟨rfl,rfl⟩
     . split at e'
       . cases e'
       . split at e'<;>cases e'
   . split at e
     . rename_i h1;cases e;split at e'
       . cases e'
       . split at e'
         . rename_i h2;simp only[W.own.injEq,Hr,Gp] at e';obtain⟨e1,rfl⟩:=e';obtain⟨rfl,h3,h4⟩:=h1;obtain⟨rfl,h5,h6⟩:=h2;refine⟨rfl,?_⟩;congr 1;omega
         . split at e'
           . cases e'
           . rename_i h2 h3;simp only[W.own.injEq,Hr] at e';obtain⟨rfl,rfl,rfl⟩:=e';exact absurd ⟨rfl,by omega,by omega⟩ h3
     . split at e
       . cases e
       . rename_i h1 h2;cases e;split at e'
         . cases e'
         . split at e'
           . rename_i h3;simp only[W.own.injEq,Hr] at e';obtain⟨rfl,rfl,rfl⟩:=e';exact absurd ⟨rfl,by omega,by omega⟩ h2
           . split at e'
             . cases e'
             . cases e';exact⟨rfl,rfl⟩
 . unfold Ren.seg;split
   . exact .inr ⟨_,_,rfl⟩
   . split
     . exact .inr ⟨_,_,rfl⟩
     . split
       . exact .inl rfl
       . exact .inr ⟨_,_,rfl⟩
theorem Ren.seg_still{a:Hd}{o n:Nat}{b:Hd}{o':Nat}{c:Hd}(h1:c≠a)(h2:c≠b):(Ren.seg a o n b o').still c:=λ p=>by
 unfold Ren.seg;split<;>simp[h1,h2]
theorem Ren.seg_mv{a:Hd}{o n:Nat}{b:Hd}{o' c:Nat}(h1:o<=c)(h2:c<o+n)(r:List Nat):Ren.seg a o n b o' a (c::r)= .own b ((c-o+o')::r):=by simp[Ren.seg,h1,h2]
theorem Ren.seg_rest_a{a:Hd}{o n:Nat}{b:Hd}{o' c:Nat}(hab:a≠b)(h:¬ (o<=c/\c<o+n))(r:List Nat):Ren.seg a o n b o' a (c::r)= .own a (c::r):=by
 simp only[Ren.seg,Gp,Af h];rw[Af (λ h=>hab h.1)]
theorem Ren.seg_rest_b{a:Hd}{o n:Nat}{b:Hd}{o' c:Nat}(hab:a≠b)(h:¬ (o'<=c/\c<o'+n))(r:List Nat):Ren.seg a o n b o' b (c::r)= .own b (c::r):=by
 simp only[Ren.seg,Gp,Af h];rw[Af (λ h=>hab h.1.symm)]
theorem Yg{a:Hd}{o n:Nat}{b:Hd}{o':Nat}(hb:∀ i,b≠.h i)(hd:Hd)(p:List Nat)(i:Nat)(q:List Nat)(e:Ren.seg a o n b o' hd p= .own (.h i) q):hd= .h i:=by
 unfold Ren.seg at e;split at e
 . simp at e;exact e.1
 . split at e
   . simp at e;exact absurd e.1 (hb i)
   . split at e
     . cases e
     . simp at e;exact e.1
section
variable {h0:Ab} {ω0 ω:Nat->W} {ρ:Nat->Nat} {st st1:PS} {us:St} {X:Cb}
theorem RS.mvOut(R:RS h0 ω0 ω ρ st us X)(x:Opnd)(i:Nat)(hi:∀ p,(X i).1.fcell p= .fl .undef)(hX:∀ n j,(X j).1.bor (.s n)=false) :
 ∃ ω',RS h0 ω0 ω' ρ (Ag.mvOut x st).2 us (Xs X i (Ag.mvOut x st).1 (x.ev us.sl)):=by
 cases x with
 |t n=>exact R.take n i hi (hX n)
 | c v =>
   obtain⟨h1,h2⟩:=fX v us.hp ω (.x i);refine⟨ω,?_⟩;have:=RS.ren (st':=st) (us':=us) (X':=Xs X i (BO v) v) R Ren.id_ok (λ hd p i q e=>by simp[Ren.id] at e;exact e.1) (λ hd' p=>?_) rfl R.sh (λ j=>?_) R.lsl R.lbx R.lb R.cb R.ch rfl (λ _=>rfl)
   . rwa [CX] at this
   . cases hd' with
     | x j=>
       by_cases hj:j=i
       . subst hj;refine .inr ?_;rw[CX];simp only[Ah,Xs,Ac];exact⟨R.ev_nobx (.c v) p,h2 p⟩
       . exact .inl (Bh (by simp[Ah,Xs,hj]))
     |s t=>exact .inl (Bh rfl)
     |b t=>exact .inl (Bh rfl)
     |h t=>exact .inl (Bh rfl)
   . unfold Xs;split
     . exact h1
     . exact R.shx j
theorem Zbq(n j:Nat):(X0 j).1.bor (.s n)=false:=rfl
theorem RS.mv0(R:RS h0 ω0 ω ρ st us X0)(x:Opnd):∃ ω',RS h0 ω0 ω' ρ (Ag.mvOut x st).2 us (X1 (Ag.mvOut x st).1 (x.ev us.sl)):=R.mvOut x 0 (λ p=>A0 p) Zbq
theorem TM(v:PV)(p:List Nat):v.fz.fcell p=(v.fcell p).fz\/v.fz.fcell p= .fl .undef:=by
 have gL:∀ (cs:List PV) c,Aa (PV.fzL cs) c=(Aa cs c).fz:=by
  intro cs
  induction cs with
  |nil=>intro c;rfl
  | cons x r ih=>intro c;cases c with
    |zero=>rfl
    |succ c=>exact ih c
 cases v with
 | agg cs=>
   match p with
   |[c]=>exact .inl (gL cs c)
   |[]=>exact .inr rfl
   |_::_::_=>exact .inr rfl
 | tup vs=>
   match p with
   | [i,c]=>
     refine .inl ?_;show Aa (Aa (PV.fzL vs) i).cells c=(Aa (Aa vs i).cells c).fz;rw[gL];generalize Aa vs i=w
     cases w with
     |agg cs=>exact gL cs c
     |_=>cases c<;>rfl
   |[]=>exact .inr rfl
   |[_]=>exact .inr rfl
   |_::_::_::_=>exact .inr rfl
 | sl q es=>
   match p with
   |[0]=>exact .inl rfl
   |[]=>exact .inr rfl
   |(_+1)::_=>exact .inr rfl
   |0::_::_=>exact .inr rfl
 | ep q es j o=>
   match p with
   |[0]=>exact .inl rfl
   |[]=>exact .inr rfl
   |(_+1)::_=>exact .inr rfl
   |0::_::_=>exact .inr rfl
 | fl x=>
   match p with
   |[0]=>exact .inl rfl
   |[]=>exact .inr rfl
   |(_+1)::_=>exact .inr rfl
   |0::_::_=>exact .inr rfl
 | box i o=>
   match p with
   |[0]=>exact .inl rfl
   |[]=>exact .inr rfl
   |(_+1)::_=>exact .inr rfl
   |0::_::_=>exact .inr rfl
 | ptr i o=>
   match p with
   |[0]=>exact .inl rfl
   |[]=>exact .inr rfl
   |(_+1)::_=>exact .inr rfl
   |0::_::_=>exact .inr rfl
theorem RC.fzo {h:Ab} {ω ω':Nat->W} {hd hd':Hd} {p p':List Nat} {v:PV} {u:V} (hf:∀ l,ω l= .frz->ω' l= .frz) (ho:∀ l q,ω l= .own hd q->ω' l= .frz) (hp:∀ l i,ω l= .ptr i->ω' l= .ptr i)
 (r:RC h ω (.at hd p) v u) (hb:∀ hb pb tp,v.q≠some (.bor hb pb tp)) (hs:∀ cs,v≠.agg cs) (ht:∀ cs,v≠.tup cs):RC h ω' (.at hd' p') v.fz u:=by
 have sub:∀ {v:PV} {u:V} {p:List Nat},RC h ω (.inn hd p) v u->RC h ω' .fz v u:=by
  intro v u p r;refine r.map (S:=λ m m'=>((∃ p,m= .inn hd p)\/m= .fz)/\m'= .fz) ?_ ?_ (by simp) (by rintro m m' ⟨_,rfl⟩ e;cases e) ⟨.inl ⟨p,rfl⟩,rfl⟩
  . rintro m m' q k ⟨⟨p,rfl⟩|rfl,rfl⟩
    . cases q
      . exact⟨.inr rfl,rfl⟩
      . exact⟨.inl ⟨_,rfl⟩,rfl⟩
      . exact⟨.inl ⟨_,rfl⟩,rfl⟩
      . exact⟨.inr rfl,rfl⟩
      . exact⟨.inr rfl,rfl⟩
    . exact⟨.inr rfl,rfl⟩
  . rintro m m' q l o b ⟨⟨p,rfl⟩|rfl,rfl⟩ hb hc
    . cases q with
      |frz=>exact⟨hb,hf l hc⟩
      |own=>exact⟨hb,ho l _ hc.1⟩
      |ownw w=>exact⟨hb,ho l _ hc.1⟩
      |bor=>exact hc.elim
      |pre=>exact hc.elim
    . exact⟨hb,hf l hc⟩
 have sub2:∀ {v:PV} {u:V},RC h ω .fz v u->RC h ω' .fz v u:=by
  intro v u r;refine r.map (S:=λ m m'=>m= .fz/\m'= .fz) ?_ ?_ (by simp) (by rintro m m' ⟨rfl,rfl⟩ e;exact e) ⟨rfl,rfl⟩
  . rintro m m' q k ⟨rfl,rfl⟩;exact⟨rfl,rfl⟩
  . rintro m m' q l o b ⟨rfl,rfl⟩ hb hc;exact⟨hb,hf l hc⟩
 cases r with
 |undef _=>exact .undef _ _
 |v _ _ hx=>exact .v _ _ hx
 |nil _ q=>exact .nil _ _
 | sl _ q es l o n b h1 hk hc hne hn hw hle hr=>
   cases q with
   |bor a c d=>exact absurd rfl (hb a c d)
   |pre a c=>exact absurd rfl (hb a c true)
   |frz=>exact .sl _ _ _ _ _ _ b h1 hk (hf l hc) (λ _ e=>by simp at e) hn hw hle λ k hk=>sub2 (hr k hk)
   |own=>exact .sl _ _ _ _ _ _ b h1 hk (ho l _ hc.1) (λ _ e=>by simp at e) hn hw hle λ k hk=>sub (hr k hk)
   |ownw w=>exact .sl _ _ _ _ _ _ b h1 hk (ho l _ hc.1) (λ _ e=>by simp at e) hn hw hle λ k hk=>sub (hr k hk)
 | ep _ q es j o' l o p2 b h1 hk hqo hc hw hle hr hp'=>
   cases q with
   |bor a c d=>exact absurd rfl (hb a c d)
   |pre a c=>exact absurd rfl (hb a c true)
   |frz=>exact .ep _ _ _ _ _ _ _ _ b h1 hk rfl (hf l hc) hw hle (λ k hk=>sub2 (hr k hk)) hp'
   |own=>cases hqo
   |ownw w=>cases hqo
 |box _ i o=>exact .box _ _ _
 |ptr _ _ i o l hl=>exact .ptr _ _ _ _ l (hp l i hl)
theorem Pw{v:PV}(h:v.retok=true)(p:List Nat):(∀ hb pb tp,(v.fcell p).q≠some (.bor hb pb tp))/\(∀ cs,v.fcell p≠.agg cs)/\(∀ cs,v.fcell p≠.tup cs):=by
 have one:∀ w:PV,w.retc=true->(∀ hb pb tp,w.q≠some (.bor hb pb tp))/\(∀ cs,w≠.agg cs)/\(∀ cs,w≠.tup cs):=by
  intro w hw
  cases w with
  | sl q es=>
    refine⟨λ hb pb tp e=>?_,λ _ h=>(by cases h),λ _ h=>(by cases h)⟩;cases q<;>simp[PV.q] at e<;>simp[PV.retc,PV.cell] at hw
  |ep q es j o=>simp[PV.retc,PV.cell] at hw
  |box=>simp[PV.retc,PV.cell] at hw
  |agg=>simp[PV.retc,PV.cell] at hw
  |tup=>simp[PV.retc,PV.cell] at hw
  |fl x=>exact⟨λ _ _ _ h=>by simp[PV.q] at h,λ _ h=>(by cases h),λ _ h=>(by cases h)⟩
  |ptr=>exact⟨λ _ _ _ h=>by simp[PV.q] at h,λ _ h=>(by cases h),λ _ h=>(by cases h)⟩
 have un:(∀ hb pb tp,(PV.fl .undef).q≠some (.bor hb pb tp))/\(∀ cs,PV.fl .undef≠.agg cs)/\(∀ cs,PV.fl .undef≠.tup cs):=⟨λ _ _ _ h=>by simp[PV.q] at h,λ _ h=>(by cases h),λ _ h=>(by cases h)⟩
 have gL:∀ (cs:List PV) c,EK cs=true->(Aa cs c).retc=true\/Aa cs c= .fl .undef:=by
  intro cs
  induction cs with
  |nil=>intro c _;exact .inr rfl
  | cons x r ih=>
    intro c hc;simp only[EK,Ai] at hc
    cases c with
    |zero=>exact .inl hc.1
    |succ c=>exact ih c hc.2
 cases v with
 | agg cs=>
   match p with
   | [c]=>
     rcases gL cs c h with h|h
     . exact one _ h
     . show _/\_/\_;simp only[PV.fcell,h];exact un
   |[]=>exact un
   |_::_::_=>exact un
 |tup vs=>simp[PV.retok,PV.retc,PV.cell] at h
 | _=>
   match p with
   |[0]=>exact one _ h
   |[]=>exact un
   |(_+1)::_=>exact un
   |0::_::_=>exact un
theorem gd{v:PV}{u:V}(h:AX v u)(hr:v.retok=true):AX v.fz u:=by
 have gL:∀ (cs:List PV),(PV.fzL cs).length=cs.length:=by
  intro cs;induction cs with
  |nil=>rfl
  |cons x r ih=>simp[PV.fzL,ih]
 cases v with
 |agg cs=>obtain⟨ws,h1,h2⟩:=h;exact⟨ws,h1,by rw[gL];exact h2⟩
 |tup vs=>simp[PV.retok,PV.retc,PV.cell] at hr
 |sl q es=>exact h
 |ep q es j o=>exact h
 |fl x=>exact h
 |box=>exact h
 |ptr=>exact h
theorem RS.fz0(R:RS h0 ω0 ω ρ st us X0)(x:Opnd):∃ ω',RS h0 ω0 ω' ρ (fzOut x st).2 us (X1 (fzOut x st).1 (x.ev us.sl)):=by
 cases x with
 |c v=>exact R.mv0 (.c v)
 | t n =>
   simp only[fzOut,U8,Opnd.ev];split
   . split
     . rename_i ho hr
       have hrc:∀ (hd':Hd) (p':List Nat) (p:List Nat),RC us.hp (λ l=>Ag.ren (Ren.drop (.s n)) (ω l)) (.at hd' p') ((Aa st.sl n).fz.fcell p) ((get us.sl n).fcell p):=by
        intro hd' p' p;rcases TM (Aa st.sl n) p with e|e
        . rw[e];obtain⟨h1,h2,h3⟩:=Pw hr p;exact RC.fzo (λ l e=>by simp[e,Ag.ren]) (λ l q e=>by simp[e,Ag.ren,Ren.drop]) (λ l i e=>by simp[e,Ag.ren]) (R.core.rc (.s n) p) h1 h2 h3
        . rw[e];exact .undef _ _
       have hnx:∀ p,BU ((Aa st.sl n).fz.fcell p):=by
        intro p i pb tp e;rcases TM (Aa st.sl n) p with e1|e1
        . rw[e1] at e;generalize (Aa st.sl n).fcell p=w at e;cases w<;>simp[PV.fz,PV.q] at e
        . rw[e1] at e;simp[PV.q] at e
       refine⟨_,RS.ren (X':=X1 (Aa st.sl n).fz (get us.sl n)) R (Ren.drop_ok (.s n)) Ub (λ hd' p=>?_) rfl (SU R.sh (gd (R.sh n) hr)) (λ i=>?_) (by simp[FV,FT,R.lsl]) R.lbx R.lb R.cb R.ch rfl (λ _=>rfl)⟩
       . cases hd' with
         | x i=>
           by_cases hi:i=0
           . subst hi;exact .inr ⟨hnx p,hrc _ _ p⟩
           . exact .inr (AW (E1 i hi p))
         | s t=>
           simp only[Ah];rcases NX (st:=st) (us:=us) n (Aa st.sl n).fz t R.lsl (get us.sl n) with h|⟨rfl,hlt,h1,h2,h3⟩|⟨h1,h2,h3,h4⟩
           . refine .inr ?_;rw[h];exact CM (A0 p)
           . refine .inr ?_;rw[h1];exact⟨hnx p,hrc _ _ p⟩
           . refine .inl ?_;rw[h1];by_cases htd:t=n
             . subst htd;have hz:Aa st.sl t= .fl .undef:=Fl _ _ (by omega);exact Bg rfl (λ e=>by rw[hz,A0] at e;cases e) (λ hb pb tp e=>by simp only[hz,A0] at e;simp[PV.q] at e)
             . exact Bg rfl (λ _=>Ren.drop_still (by simpa using htd)) λ hb pb tp e hx=>Ren.drop_still (Dz h3 e)
         |b t=>exact .inl (Bg rfl (λ _=>Ren.drop_still (by simp)) λ hb pb tp e=>absurd e (R.nobor_b t p hb pb tp))
         |h t=>exact .inl (Bg rfl (λ _=>Ren.drop_still (by simp)) λ hb pb tp e=>absurd e (R.nobor_h t p hb pb tp))
       . by_cases hi:i=0
         . subst hi;exact gd (R.sh n) hr
         . rw[Dl _ _ i hi];exact A5 _
     . exact⟨ω,R.hand (hd:=.x 0) (A5 _) (λ p=>by rw[A0];exact .undef _ _) (λ p=>by rw[A0];rfl) (λ p i pb tp=>by rw[A0];simp[PV.q])⟩
   . rename_i ho;exact⟨ω,R.hand (hd:=.s n) (R.sh n) (λ p=>R.core.rc (.s n) p) (LY (by simpa using ho)) (λ p i pb tp=>R.nx (.s n) p i pb tp)⟩
theorem Zbr(R:RS h0 ω0 ω ρ st us X0){c a b:Opnd}{t:Bool}(hc:c.pev st.sl= .fl (.bool t)):Out2 (.pick c a b) us h0 ω0 (if t then Ag.mvOut a st else Ag.mvOut b st).1 (if t then Ag.mvOut a st else Ag.mvOut b st).2:=by
 have e:=(R.ev_fl hc (by simp)).1
 cases t with
 |true=>obtain⟨ω',h⟩:=R.mv0 a;exact⟨_,_,_,ω',ρ,by simp[Ad,e],h⟩
 |false=>obtain⟨ω',h⟩:=R.mv0 b;exact⟨_,_,_,ω',ρ,by simp[Ad,e],h⟩
theorem LF{v:PV}(h:∀ vs,v≠.tup vs)(c:Nat):v.fcell [c]=Aa v.cells c:=by
 cases v with
 |agg cs=>rfl
 |tup vs=>exact absurd rfl (h _)
 |_=>cases c<;>rfl
theorem Pt{v:V}(h:∀ vs,v≠.tup vs)(c:Nat):v.fcell [c]=get v.cells c:=by
 cases v with
 |agg cs=>rfl
 |tup vs=>exact absurd rfl (h _)
 |_=>cases c<;>rfl
theorem Wa{v:PV}(h:∀ vs,v≠.tup vs)(p:List Nat):(∃ c,p=[c])\/v.fcell p= .fl .undef:=by
 cases v with
 |tup vs=>exact absurd rfl (h _)
 | agg cs=>
   match p with
   |[c]=>exact .inl ⟨c,rfl⟩
   |[]=>exact .inr rfl
   |_::_::_=>exact .inr rfl
 | _=>
   match p with
   |[c]=>exact .inl ⟨c,rfl⟩
   |[]=>exact .inr rfl
   |(_+1)::_::_=>exact .inr rfl
   |0::_::_=>exact .inr rfl
theorem Shp1.shp{v:PV}{u:V}(h:Shp1 v u):AX v u/\∀ vs,v≠.tup vs:=by
 cases v with
 |tup vs=>exact h.elim
 |_=>exact⟨h,λ _ h=>(by cases h)⟩
theorem Shp1.notup{v:PV}{u:V}(h:Shp1 v u)(hv:v≠.fl .undef):∀ vs,u≠.tup vs:=by
 cases v with
 |tup vs=>exact h.elim
 |agg cs=>obtain⟨ws,rfl,_⟩:=h;exact λ _ h=>(by cases h)
 |fl x=>cases x<;>first|exact h.2|exact absurd rfl hv
 |_=>exact h.2
def Ren.comp(t i:Nat):Ren:=λ hd p=>if hd= .s t then (match p with
 |c::r=>if c=i then .own (.x 0) r else .own (.s t) (c::r)
 |[]=>.own (.s t) []) else if hd= .x 0 then .frz else .own hd p
theorem Ren.comp_ok(t i:Nat):(Ren.comp t i).Ok:=by
 refine⟨λ hd p hd' p' x c e e'=>?_,λ hd p=>?_⟩
 . unfold Ren.comp at e e';split at e
   . rename_i h1;split at e
     . split at e
       . rename_i h2;cases e;split at e'
         . rename_i h3;split at e'
           . split at e'
             . rename_i h4;cases e';exact⟨h1.trans h3.symm,by rw[h2,h4]⟩
             . cases e'
           . cases e'
         . split at e'
           . cases e'
           . rename_i h5;simp at e';exact absurd e'.1 h5
       . cases e;split at e'
         . rename_i h3;split at e'
           . split at e'
             . cases e'
             . cases e';exact⟨h1.trans h3.symm,rfl⟩
           . cases e'
         . split at e'
           . cases e'
           . rename_i h5 _;simp at e';exact absurd e'.1 h5
     . cases e;split at e'
       . rename_i h3;split at e'
         . split at e'
           . cases e'
           . cases e'
         . exact⟨h1.trans h3.symm,rfl⟩
       . split at e'
         . cases e'
         . rename_i h5 _;simp at e';exact absurd e'.1 h5
   . split at e
     . cases e
     . rename_i h1 h2;cases e;split at e'
       . split at e'
         . split at e'
           . simp at e';exact absurd e'.1.symm h2
           . simp at e';exact absurd e'.1.symm h1
         . simp at e';exact absurd e'.1.symm h1
       . split at e'
         . cases e'
         . simp at e';exact⟨e'.1.symm,e'.2.symm⟩
 . unfold Ren.comp;split
   . split
     . split<;>exact .inr ⟨_,_,rfl⟩
     . exact .inr ⟨_,_,rfl⟩
   . split
     . exact .inl rfl
     . exact .inr ⟨_,_,rfl⟩
theorem Ren.comp_still{t i:Nat}{c:Hd}(h1:c≠.s t)(h2:c≠.x 0):(Ren.comp t i).still c:=λ p=>by simp[Ren.comp,h1,h2]
theorem Zak{t i:Nat}(hd:Hd)(p:List Nat)(k:Nat)(q:List Nat)(e:Ren.comp t i hd p= .own (.h k) q):hd= .h k:=by
 unfold Ren.comp at e;split at e
 . split at e
   . split at e<;>cases e
   . cases e
 . split at e
   . cases e
   . simp at e;exact e.1
theorem wJ (R:RS h0 ω0 ω ρ st us X0) {t i:Nat} {vs:List PV} {v:PV} {st1:PS} (ht:Aa st.sl t= .tup vs) (hi:i<vs.length)
 (e:(if (Aa vs i).own then (if (Aa vs i).bor (.s t) then none else some (Aa vs i,{ st with sl:=clr (.s t) (BA st.sl t (.tup (BA vs i (.fl .undef)))) })) else some (Aa vs i,st))=some (v,st1)):Out2 (.extract (.t t) i) us h0 ω0 v st1:=by
 obtain⟨ws,h1,h2,h3,h4⟩:=R.ev_tup ht
 have hst:Ad (.extract (.t t) i) us=some (get ws i,us.bx,us.hp):=by
  have:i<ws.length:=by omega
  simp[Ad,Opnd.ev,h1,Co,A3 this]
 obtain⟨hs1,hs2⟩:=(h3 i).shp
 have hcell:∀ p,(∃ c,p=[c]/\(Aa vs i).fcell p=Aa (Aa vs i).cells c/\(get ws i).fcell p=get (get ws i).cells c)\/(Aa vs i).fcell p= .fl .undef:=by
  intro p;by_cases hu:Aa vs i= .fl .undef
  . exact .inr (by rw[hu,A0])
  . rcases Wa hs2 p with⟨c,rfl⟩|h
    . exact .inl ⟨c,rfl,LF hs2 c,Pt ((h3 i).notup hu) c⟩
    . exact .inr h
 have hfam:∀ c,Ah ρ st us X0 (.s t) [i,c]=(Aa (Aa vs i).cells c,get (get ws i).cells c):=by
  intro c;simp only[Ah,ht,h1];rfl
 split at e
 . rename_i ho
   split at e
   . cases e
   . rename_i hb;cases e
     have hb':(Aa vs i).bor (.s t)=false:=by simpa using hb
     refine⟨get ws i,us.bx,us.hp,_,ρ,hst,RS.ren (X':=X1 (Aa vs i) (get ws i)) R (Ren.comp_ok t i) Zak (λ hd' p=>?_) rfl (SU R.sh ?_) (λ j=>?_) (by simp[FV,FT,AOp.clears,R.lsl]) R.lbx R.lb R.cb R.ch rfl (λ _=>rfl)⟩
     . cases hd' with
       | x j =>
         by_cases hj:j=0
         . subst hj;rcases hcell p with⟨c,rfl,e1,e2⟩|h
           . refine .inl ⟨.s t,[i,c],?_,λ _ r=>by simp[Ren.comp],λ hb2 pb tp e hx=>?_⟩
             . rw[hfam,<- e1,<- e2];rfl
             . have:=Ren.comp_still (t:=t) (i:=i) (c:=hb2) (Dz hb' (p:=[c]) e) (hx 0);exact⟨λ _=>this,this.soft⟩
           . exact .inr (AW h)
         . exact .inr (AW (E1 j hj p))
       | s t'=>
         simp only[Ah,AOp.clears];rcases NX (st:=st) (us:=us) t (.tup (BA vs i (.fl .undef))) t' R.lsl (get us.sl t) with h|⟨rfl,hlt,e1,e2,e3⟩|⟨e1,e2,e3,e4⟩
         . refine .inr ?_;rw[h];exact CM (A0 p)
         . rw[e1]
           match p with
           | [i',c]=>
             by_cases hii:i'=i
             . subst hii;refine .inr (CM ?_);show Aa (Aa (BA vs i' _) i').cells c=_;rw[DM,Ac ⟨rfl,hi⟩];cases c<;>rfl
             . have hv:(PV.tup (BA vs i (.fl .undef))).fcell [i',c]=Aa (Aa vs i').cells c:=by
                show Aa (Aa (BA vs i _) i').cells c=_;rw[DM,Af (λ h=>hii h.1)]
               refine .inl ⟨.s t',[i',c],?_,λ _ r=>by simp[Ren.comp,hii],λ hb2 pb tp e hx=>?_⟩
               . rw[hv];simp only[Ah,ht,PV.fcell]
               . have:=Ren.comp_still (t:=t') (i:=i) (c:=hb2) (Dz e3 (p:=[i',c]) e) (hx 0);exact⟨λ _=>this,this.soft⟩
           |[]=>exact .inr (CM rfl)
           |[_]=>exact .inr (CM rfl)
           |_::_::_::_=>exact .inr (CM rfl)
         . refine .inl ?_;rw[e1];by_cases htd:t'=t
           . subst htd;have hz:Aa st.sl t'= .fl .undef:=Fl _ _ (by omega);exact Bg rfl (λ e=>by rw[hz,A0] at e;cases e) (λ hb pb tp e=>by simp only[hz,A0] at e;simp[PV.q] at e)
           . exact Bg rfl (λ _=>Ren.comp_still (by simpa using htd) (by simp)) λ hb pb tp e hx=>Ren.comp_still (Dz e3 e) (hx 0)
       |b t'=>exact .inl (Bg rfl (λ _=>Ren.comp_still (by simp) (by simp)) λ hb pb tp e=>absurd e (R.nobor_b t' p hb pb tp))
       |h t'=>exact .inl (Bg rfl (λ _=>Ren.comp_still (by simp) (by simp)) λ hb pb tp e=>absurd e (R.nobor_h t' p hb pb tp))
     . refine⟨ws,h1,by rw[h2,FT],λ k=>?_⟩;rw[DM];split
       . exact trivial
       . exact h3 k
     . by_cases hj:j=0
       . subst hj;exact hs1
       . rw[Dl _ _ j hj];exact A5 _
 . rename_i ho
   cases e;refine⟨_,_,_,ω,ρ,hst,R.hand (hd:=.x 0) hs1 (λ p=>?_) (LY (by simpa using ho)) (λ p=>?_)⟩
   . rcases hcell p with⟨c,rfl,e1,e2⟩|h
     . rw[e1,e2];refine(h4 i c).any ?_;rw[<- e1];exact LY (by simpa using ho) _
     . rw[h];exact .undef _ _
   . rcases hcell p with⟨c,rfl,e1,e2⟩|h
     . rw[e1];have:=R.nx (.s t) [i,c];rw[hfam] at this
       exact λ i pb tp=>this i pb tp
     . rw[h];exact λ i pb tp=>by simp[PV.q]
end
def PV.sc(v:PV):Prop:=(∀ cs,v≠.agg cs)/\∀ vs,v≠.tup vs
theorem LV:(PV.fl .undef).sc:=⟨λ _ h=>(by cases h),λ _ h=>(by cases h)⟩
theorem Yh{v:PV}(h:v.lay=true):v.sc:=by
 cases v<;>first|(simp[PV.lay] at h;done)|exact⟨λ _ h=>(by cases h),λ _ h=>(by cases h)⟩
theorem RC.vsc{h:Ab}{ω:Nat->W}{m:Md}{v:PV}{u:V}(r:RC h ω m v u)(hv:v≠.fl .undef)(hs:v.sc):(∀ us,u≠.agg us)/\∀ us,u≠.tup us:=by
 cases r with
 |undef=>exact absurd rfl hv
 |v _ _ hx=>cases u<;>first|(simp[V.flat] at hx;done)|exact⟨λ _ h=>(by cases h),λ _ h=>(by cases h)⟩
 |_=>exact⟨λ _ h=>(by cases h),λ _ h=>(by cases h)⟩
theorem eI{H:Ab}{ω:Nat->W}{m:Nat->Md}{n:Option Nat}{a:List PV}{ws:List V}{v:PV}(e:Ds n a=some v)(hl:ws.length=a.length)(hs:∀ c,(Aa a c).sc)(hr:∀ c,RC H ω (m c) (Aa a c) (get ws c)) :
 ∃ u,Ci n ws=some u/\AX v u/\∀ p,(∃ c,p=[c]/\v.fcell p=Aa a c/\u.fcell p=get ws c)\/v.fcell p= .fl .undef:=by
 cases n with
 | some n=>
   simp[Ds] at e;subst e;refine⟨.agg ws,rfl,⟨ws,rfl,hl⟩,λ p=>?_⟩
   match p with
   |[c]=>exact .inl ⟨c,rfl,rfl,rfl⟩
   |[]=>exact .inr rfl
   |_::_::_=>exact .inr rfl
 | none=>
   match a,hl with
   |[],_=>simp[Ds] at e
   |_::_::_,_=>simp[Ds] at e
   | [x], hl =>
     simp[Ds] at e;subst e
     match ws,hl with
     | [u],_=>
       have hx:=hs 0;have hr0:=hr 0;simp only[Aa,get] at hx hr0;refine⟨u,rfl,?_,λ p=>?_⟩
       . by_cases hu:x= .fl .undef
         . rw[hu];exact A5 _
         . have:=hr0.vsc hu hx
           cases x with
           |agg cs=>exact absurd rfl (hx.1 _)
           |tup cs=>exact absurd rfl (hx.2 _)
           |fl y=>cases y<;>first|exact this|exact absurd rfl hu
           |_=>exact this
       . by_cases hu:x= .fl .undef
         . exact .inr (by rw[hu,A0])
         . rcases Wa hx.2 p with⟨c,rfl⟩|h
           . refine .inl ⟨c,rfl,?_,?_⟩
             . rw[LF hx.2]
               cases x with
               |agg cs=>exact absurd rfl (hx.1 _)
               |_=>rfl
             . have:=hr0.vsc hu hx;rw[Pt this.2]
               cases u with
               |agg cs=>exact absurd rfl (this.1 _)
               |_=>rfl
           . exact .inr h
theorem RC.brw{h:Ab}{ω:Nat->W}{hd hd':Hd}{p p':List Nat}{v:PV}{u:V}(r:RC h ω (.at hd p) v u):RC h ω (.at hd' p') (CD hd p v) u:=by
 unfold CD;split
 . rename_i es
   cases r with
   |nil=>exact .nil _ _
   | sl _ _ _ l o n b h1 hk hc hne hn hw hle hr=>
     subst hn;have s:SR h ω (.at hd p) .own es l o b:=⟨h1,hk,hc,hw,hle,hr⟩;have s':=s.weak (hd':=hd') (p':=p') (q':=.bor hd p true) (l0:=0) (n0:=es.length) ⟨rfl,rfl,λ _=>rfl⟩ (by omega);simp only[Hs,H4,JI,Ej] at s';exact s'.sl (λ _=>hne rfl (.inl rfl))
 . rename_i w es
   cases r with
   |nil=>exact .nil _ _
   | sl _ _ _ l o n b h1 hk hc hne hn hw hle hr=>
     subst hn;have s:SR h ω (.at hd p) (.ownw w) es l o b:=⟨h1,hk,hc,hw,hle,hr⟩;have s':=s.weak (hd':=hd') (p':=p') (q':=.pre hd p) (l0:=0) (n0:=es.length) ⟨rfl,rfl,rfl⟩ (by omega);simp only[Hs,H4,JI,Ej] at s';exact s'.sl (by simp)
 . rename_i hno hno2;refine r.any ?_
   cases v with
   |sl q es=>cases q<;>first|rfl|exact absurd rfl (hno _)|exact absurd rfl (hno2 _ _)
   |_=>rfl
theorem UN{hd:Hd}{p:List Nat}{v:PV}:(CD hd p v).qo=false:=by
 unfold CD;split
 . rfl
 . rfl
 . rename_i hno hno2
   cases v with
   |sl q es=>cases q<;>first|rfl|exact absurd rfl (hno _)|exact absurd rfl (hno2 _ _)
   |_=>rfl
theorem TW{hd:Hd}{p:List Nat}{v:PV}(hx:∀ i,hd≠.x i)(hv:BU v):BU (CD hd p v):=by
 unfold CD;split
 . intro i pb tp e;simp[PV.q] at e;exact hx i e.1
 . intro i pb tp e;simp[PV.q] at e;exact hx i e.1
 . exact hv
theorem Uk{hd:Hd}{p:List Nat}{v:PV}(h:v.sc):(CD hd p v).sc:=by
 unfold CD;split
 . exact⟨λ _ h=>(by cases h),λ _ h=>(by cases h)⟩
 . exact⟨λ _ h=>(by cases h),λ _ h=>(by cases h)⟩
 . exact h
theorem FU(hd:Hd)(c:Nat)(cs:List PV)(k:Nat):Aa (F9 hd c cs) k=CD hd [c+k] (Aa cs k):=by
 induction cs generalizing c k with
 |nil=>simp[F9,Aa,CD]
 | cons x r ih=>cases k with
   |zero=>rfl
   |succ k=>simp only[F9,Aa];rw[ih (c+1) k,show c+1+k=c+(k+1) by omega]
theorem TG(hd:Hd)(c:Nat)(cs:List PV):(F9 hd c cs).length=cs.length:=by
 induction cs generalizing c with
 |nil=>rfl
 |cons x r ih=>simp[F9,ih]
theorem NT(cs:List PV)(k:Nat):Aa (CK cs) k=if (Aa cs k).own then .fl .undef else Aa cs k:=by
 induction cs generalizing k with
 |nil=>simp[CK,Aa,PV.own]
 | cons x r ih=>cases k with
   |zero=>rfl
   |succ k=>exact ih k
theorem KB(cs:List PV):(CK cs).length=cs.length:=by
 induction cs with
 |nil=>rfl
 |cons x r ih=>simp[CK,ih]
section
variable {h0:Ab} {ω0 ω:Nat->W} {ρ:Nat->Nat} {st st1:PS} {us:St} {X:Cb}
theorem RS.handL (R:RS h0 ω0 ω ρ st us X0) {hd:Hd} {n:Option Nat} {a:List PV} {ws:List V} {v:PV} (e:Ds n a=some v) (hl:ws.length=a.length) (hs:∀ c,(Aa a c).sc) (hr:∀ c,RC us.hp ω (.at hd [c]) (Aa a c) (get ws c))
 (ho:∀ c,(Aa a c).qo=false) (hx:∀ c,BU (Aa a c)):∃ u,Ci n ws=some u/\RS h0 ω0 ω ρ st us (X1 v u):=by
 obtain⟨u,h1,h2,h3⟩:=eI e hl hs hr
 refine⟨u,h1,R.hand (hd:=hd) h2 (λ p=>?_) (λ p=>?_) (λ p=>?_)⟩
 . rcases h3 p with⟨c,rfl,e1,e2⟩|h
   . rw[e1,e2];exact hr c
   . rw[h];exact .undef _ _
 . rcases h3 p with⟨c,rfl,e1,e2⟩|h
   . rw[e1];exact ho c
   . rw[h];rfl
 . rcases h3 p with⟨c,rfl,e1,e2⟩|h
   . rw[e1];exact hx c
   . rw[h];exact λ i pb tp=>by simp[PV.q]
theorem Za6(R:RS h0 ω0 ω ρ st us X0){off:Nat}{n:Option Nat}{x:Opnd}{v:PV}(e:P6 off n x (x.pev st.sl)=some v):Out2 (.field off n x) us h0 ω0 v st:=by
 unfold P6 at e;split at e
 . rename_i cs hx;split at e
   . rename_i t;split at e
     . rename_i hle;simp only[Opnd.pev] at hx;obtain⟨hd,ws,ht,h1,h2,h3⟩:=R.ev_agg (x:=.t t) hx;have:=ht t rfl;subst this
       have hscs:∀ c,(Aa cs c).sc:=λ c=>by
        have:=h3 c;generalize Aa cs c=v at this;generalize get ws c=u at this;cases this<;>exact⟨λ _ h=>(by cases h),λ _ h=>(by cases h)⟩
       refine(fun⟨u,e1,e2⟩=>⟨u,us.bx,us.hp,ω,ρ,by simp only[Ad,h1];rw[Ac (by omega),e1];rfl,e2⟩:_->_) (R.handL (hd:=.s t) (ws:=(ws.drop off).take (n.getD 1)) e (by rw[TG,EW hle];simp;omega) (λ c=>?_) (λ c=>?_) (λ c=>?_) (λ c=>?_))
       . rw[FU];refine Uk ?_;rw[C9];split
         . exact hscs _
         . exact LV
       . rw[FU,C9,Gn];split
         . exact(h3 (off+c)).brw
         . exact .undef _ _
       . rw[FU];exact UN
       . rw[FU,C9];split
         . refine TW (by simp) ?_;have:=R.nx (.s t) [off+c];simp only[Ah,hx] at this
           exact λ i pb tp=>this i pb tp
         . exact λ i pb tp=>by simp[CD,PV.q]
     . cases e
   . cases e
 . cases e
theorem ZaU{v:PV}(hd:Hd)(h:v.sc):Hz hd v=CD hd [0] v:=by
 cases v with
 |agg cs=>exact absurd rfl (h.1 _)
 |tup vs=>exact absurd rfl (h.2 _)
 |_=>rfl
theorem Zam{hd:Hd}{p:List Nat}{v:PV}(h:v.qo=false):CD hd p v=v:=by
 cases v with
 |sl q es=>cases q<;>first|rfl|cases h
 |_=>rfl
theorem Wd(hd:Hd)(v:PV)(p:List Nat):(Hz hd v).fcell p=CD hd p (v.fcell p)\/(Hz hd v).fcell p= .fl .undef:=by
 have sc:∀ v:PV,(∀ cs,v≠.agg cs)->(∀ vs,v≠.tup vs)->Hz hd v=CD hd [0] v/\((CD hd [0] v).fcell p=CD hd p (v.fcell p)\/(CD hd [0] v).fcell p= .fl .undef):=by
  intro v h1 h2;refine⟨ZaU hd ⟨h1,h2⟩,?_⟩;have h3:=Uk (hd:=hd) (p:=[0]) (v:=v) ⟨h1,h2⟩
  match p with
  | [0]=>
    left;rw[G7 h3.1 h3.2,G7 h1 h2]
  |[]=>right;generalize CD hd [0] v=w at h3;cases w<;>first|rfl|exact absurd rfl (h3.1 _)|exact absurd rfl (h3.2 _)
  |(_+1)::_=>right;generalize CD hd [0] v=w at h3;cases w<;>first|rfl|exact absurd rfl (h3.1 _)|exact absurd rfl (h3.2 _)
  |0::_::_=>right;generalize CD hd [0] v=w at h3;cases w<;>first|rfl|exact absurd rfl (h3.1 _)|exact absurd rfl (h3.2 _)
 cases v with
 | agg cs=>
   match p with
   |[c]=>left;show Aa (F9 hd 0 cs) c=CD hd [c] (Aa cs c);rw[FU,Bv]
   |[]=>right;rfl
   |_::_::_=>right;rfl
 | tup vs=>
   simp only[Hz];split
   . right;rw[A0]
   . rename_i ho;left;exact(Zam (LY (v:=.tup vs) (by simpa [PV.own] using ho) p)).symm
 |fl x=>(have h:=sc (.fl x) (λ _ h=>(by cases h)) (λ _ h=>(by cases h)));rw[h.1];exact h.2
 |sl q es=>(have h:=sc (.sl q es) (λ _ h=>(by cases h)) (λ _ h=>(by cases h)));rw[h.1];exact h.2
 |ep q es j o=>(have h:=sc (.ep q es j o) (λ _ h=>(by cases h)) (λ _ h=>(by cases h)));rw[h.1];exact h.2
 |box i o=>(have h:=sc (.box i o) (λ _ h=>(by cases h)) (λ _ h=>(by cases h)));rw[h.1];exact h.2
 |ptr i o=>(have h:=sc (.ptr i o) (λ _ h=>(by cases h)) (λ _ h=>(by cases h)));rw[h.1];exact h.2
theorem zG{hd:Hd}{v:PV}{u:V}(h:AX v u):AX (Hz hd v) u:=by
 cases v with
 |agg cs=>obtain⟨ws,h1,h2⟩:=h;exact⟨ws,h1,by rw[h2,TG]⟩
 | tup vs=>
   simp only[Hz];split
   . exact A5 _
   . exact h
 |sl q es=>cases q<;>exact h
 |fl x=>exact h
 |ep q es j o=>exact h
 |box i o=>exact h
 |ptr i o=>exact h
theorem RS.bw0(R:RS h0 ω0 ω ρ st us X0)(x:Opnd):∃ ω',RS h0 ω0 ω' ρ (K9 x st).2 us (X1 (K9 x st).1 (x.ev us.sl)):=by
 cases x with
 |c v=>exact R.mv0 (.c v)
 | t n =>
   refine⟨ω,R.hand (v:=Hz (.s n) (Aa st.sl n)) (u:=get us.sl n) (hd:=.s n) (zG (R.sh n)) (λ p=>?_) (λ p=>?_) (λ p=>?_)⟩
   . rcases Wd (.s n) (Aa st.sl n) p with h|h
     . rw[h];exact(R.core.rc (.s n) p).brw
     . rw[h];exact .undef _ _
   . rcases Wd (.s n) (Aa st.sl n) p with h|h
     . rw[h];exact UN
     . rw[h];rfl
   . rcases Wd (.s n) (Aa st.sl n) p with h|h
     . rw[h]
       exact TW (by simp) λ i pb tp=>R.nx (.s n) p i pb tp
     . rw[h];exact λ i pb tp=>by simp[PV.q]
theorem Zc2(R:RS h0 ω0 ω ρ st us X0)(m:Bool)(x:Opnd):Out2 (.mv x) us h0 ω0 (if m then K9 x st else Ag.mvOut x st).1 (if m then K9 x st else Ag.mvOut x st).2:=by
 cases m with
 |true=>obtain⟨ω',h⟩:=R.bw0 x;exact⟨_,_,_,ω',ρ,rfl,h⟩
 |false=>obtain⟨ω',h⟩:=R.mv0 x;exact⟨_,_,_,ω',ρ,rfl,h⟩
theorem Zb5(R:RS h0 ω0 ω ρ st us X)(i c:Nat):BU (Aa (Ak st.bx i) c):=λ _ _ _ e=>Cs (R.cb i c) _ _ _ e
theorem ZcY(R:RS h0 ω0 ω ρ st us X)(i c:Nat):BU (Aa (Ak st.hp i) c):=λ _ _ _ e=>Cs (R.ch i c) _ _ _ e
theorem RS.ev_box(R:RS h0 ω0 ω ρ st us X){x:Opnd}{i o:Nat}(hx:x.pev st.sl= .box i o):x.ev us.sl= .box i o:=by
 obtain⟨hd,_,r⟩:=R.ev_one hx (λ _ h=>(by cases h)) (λ _ h=>(by cases h)) (λ _ h=>(by cases h));generalize x.ev us.sl=u at r;cases r;rfl
theorem RS.ev_ptr(R:RS h0 ω0 ω ρ st us X){x:Opnd}{i o:Nat}(hx:x.pev st.sl= .ptr i o):x.ev us.sl= .ptr (ρ i) o/\i<st.hp.length:=by
 obtain⟨hd,_,r⟩:=R.ev_one hx (λ _ h=>(by cases h)) (λ _ h=>(by cases h)) (λ _ h=>(by cases h));generalize x.ev us.sl=u at r
 cases r with
 | ptr _ _ _ _ l hl=>
   have hi:=R.bdp l i hl;rw[R.core.injp l (ρ i) i hl (R.hp i hi).1];exact⟨rfl,hi⟩
theorem RS.loadmv (R:RS h0 ω0 ω ρ st us X) (hX0:∀ p,(X 0).1.fcell p= .fl .undef) (hXb:∀ j hd,(X j).1.bor hd=false) {hd:Hd} {st':PS} {cs:List PV} {ws:List V} {n:Option Nat} {o:Nat} {v:PV} (hx:∀ i,hd≠.x i) (hsl:∀ t,hd≠.s t)
 (hfam:∀ p,Ah ρ st us X hd p=A8 cs ws p) (hfam':∀ p,Ah ρ st' us X hd p=A8 (AS cs o (CK (segm cs o (n.getD 1)))) ws p) (hoth:∀ hd' p,hd'≠hd->(∀ t,hd'≠.s t)->Ah ρ st' us X hd' p=Ah ρ st us X hd' p)
 (hsl':st'.sl=clr hd st.sl) (hlen:ws.length=cs.length) (hle:o+n.getD 1<=cs.length) (hlay:∀ c,(Aa cs c).lay=true)
 (l2:st'.bx.length=us.bx.length) (l3:∀ i,(Ak st'.bx i).length=(AR us.bx i).length) (c1:∀ i c,(Aa (Ak st'.bx i) c).lay=true) (c2:∀ i c,(Aa (Ak st'.hp i) c).lay=true)
 (l4:st'.hp.length=st.hp.length) (l5:∀ i,(Ak st'.hp i).length=(Ak st.hp i).length)
 (e:Ds n (segm cs o (n.getD 1))=some v):∃ u ω',Ci n ((ws.drop o).take (n.getD 1))=some u/\RS h0 ω0 ω' ρ st' us (Xs X 0 v u)/\∀ l c p,c<n.getD 1->ω l= .own hd ((o+c)::p)->ω' l= .own (.x 0) (c::p):=by
 have hrc:∀ c,RC us.hp ω (.at hd [c]) (Aa cs c) (get ws c):=λ c=>by have:=R.core.rc hd [c];rw[hfam] at this;exact this
 have hsg:∀ c,RC us.hp ω (.at hd [o+c]) (Aa (segm cs o (n.getD 1)) c) (get ((ws.drop o).take (n.getD 1)) c):=λ c=>by
  rw[C9,Gn];split
  . exact hrc _
  . exact .undef _ _
 obtain⟨u,h1,h2,h3⟩:=eI (m:=λ c=>.at hd [o+c]) e (by rw[EW hle];simp;omega) (λ c=>by
  rw[C9];split
  . exact Yh (hlay _)
  . exact LV) hsg
 refine⟨u,_,h1,RS.ren (X':=Xs X 0 v u) R (Ren.seg_ok (a:=hd) (o:=o) (n:=n.getD 1) (b:=.x 0) (o':=0) (hx 0)) (Yg (by simp)) (λ hd' p=>?_) rfl (λ t=>?_) (λ i=>?_) (by rw[hsl',FV];exact R.lsl) l2 l3 c1 c2 l4 l5,λ l c p hc e=>by
  show Ag.ren _ (ω l)=_;rw[e];show Ren.seg hd o (n.getD 1) (.x 0) 0 hd ((o+c)::p)=_
  rw[Ren.seg_mv (by omega) (by omega)];simp⟩
 . cases hd' with
   | x i =>
     by_cases hi:i=0
     . subst hi;rcases h3 p with⟨c,rfl,e1,e2⟩|h
       . by_cases hc:c<n.getD 1
         . rw[C9,Ac hc] at e1;rw[Gn,Ac hc] at e2;have hxf:Ah ρ st' us (Xs X 0 v u) (.x 0) [c]=(v.fcell [c],u.fcell [c]):=rfl;rw[hxf,e1,e2];refine .inl ⟨hd,[o+c],by rw[hfam];rfl,λ _ r=>?_,λ hb pb tp e'=>absurd e' (Cs (hlay _) _ _ _)⟩;simp only[CP,CA];rw[Ren.seg_mv (by omega) (by omega)];simp
         . refine .inr (AW ?_);show v.fcell [c]=_;rw[e1,C9,Af hc]
       . exact .inr (AW h)
     . have hfx:Ah ρ st' us (Xs X 0 v u) (.x i) p=Ah ρ st us X (.x i) p:=by simp[Ah,Xs,hi]
       refine .inl (Bg hfx (λ _=>Ren.seg_still (λ h=>hx i h.symm) (by simpa using hi)) λ hb pb tp e hx'=>Ren.seg_still ?_ (hx' 0));rw[hfx] at e;exact Dz (hXb i hd) e
   | s t=>
     simp only[Ah,hsl',Fk];split
     . exact .inr (CM (A0 p))
     . rename_i hb
       have hb:(Aa st.sl t).bor hd=false:=by simpa using hb
       exact .inl (Bg rfl (λ _=>Ren.seg_still (λ h=>hsl t h.symm) (by simp)) λ hb' pb tp e' hx'=>Ren.seg_still (Dz (v:=Aa st.sl t) hb (p:=p) e') (hx' 0))
   | b i =>
     by_cases hh:Hd.b i=hd
     . subst hh;have:Ah ρ st' us (Xs X 0 v u) (.b i) p=A8 (AS cs o (CK (segm cs o (n.getD 1)))) ws p:=hfam' p;rw[this]
       match p with
       |[]=>exact .inr (AW rfl)
       |_::_::_=>exact .inr (AW rfl)
       | [c] =>
         simp only[A8];rw[G8 _ _ _ _ (by rw[KB,EW hle];exact hle),KB,EW hle];split
         . rename_i hc;rw[NT,C9,Ac (show c-o<n.getD 1 by omega),show o+(c-o)=c by omega];split
           . exact .inr (CM rfl)
           . rename_i ho;refine .inr ⟨λ _ _ _ e'=>Cs (hlay c) _ _ _ e',?_⟩
             have ho':(Aa cs c).qo=false:=Bool.eq_false_iff.2 λ e'=>ho (NI e')
             exact(hrc c).tr (Tr.of_ren _ _ _) (λ e'=>by rw[ho'] at e';cases e') (λ hb pb tp e'=>absurd e' (Cs (hlay c) _ _ _))
         . rename_i hc;refine .inl ⟨.b i,[c],by rw[hfam];rfl,λ _ r=>?_,λ hb pb tp e'=>absurd e' (Cs (hlay c) _ _ _)⟩;exact Ren.seg_rest_a (by simp) hc r
     . have:Ah ρ st' us (Xs X 0 v u) (.b i) p=Ah ρ st us X (.b i) p:=hoth (.b i) p hh (by simp);rw[this];exact .inl (Bg rfl (λ _=>Ren.seg_still hh (by simp)) λ hb pb tp e'=>absurd e' (R.nobor_b i p hb pb tp))
   | h i =>
     by_cases hh:Hd.h i=hd
     . subst hh;have:Ah ρ st' us (Xs X 0 v u) (.h i) p=A8 (AS cs o (CK (segm cs o (n.getD 1)))) ws p:=hfam' p;rw[this]
       match p with
       |[]=>exact .inr (AW rfl)
       |_::_::_=>exact .inr (AW rfl)
       | [c] =>
         simp only[A8];rw[G8 _ _ _ _ (by rw[KB,EW hle];exact hle),KB,EW hle];split
         . rename_i hc;rw[NT,C9,Ac (show c-o<n.getD 1 by omega),show o+(c-o)=c by omega];split
           . exact .inr (CM rfl)
           . rename_i ho;refine .inr ⟨λ _ _ _ e'=>Cs (hlay c) _ _ _ e',?_⟩
             have ho':(Aa cs c).qo=false:=Bool.eq_false_iff.2 λ e'=>ho (NI e')
             exact(hrc c).tr (Tr.of_ren _ _ _) (λ e'=>by rw[ho'] at e';cases e') (λ hb pb tp e'=>absurd e' (Cs (hlay c) _ _ _))
         . rename_i hc;refine .inl ⟨.h i,[c],by rw[hfam];rfl,λ _ r=>?_,λ hb pb tp e'=>absurd e' (Cs (hlay c) _ _ _)⟩;exact Ren.seg_rest_a (by simp) hc r
     . have:Ah ρ st' us (Xs X 0 v u) (.h i) p=Ah ρ st us X (.h i) p:=hoth (.h i) p hh (by simp);rw[this];exact .inl (Bg rfl (λ _=>Ren.seg_still hh (by simp)) λ hb pb tp e'=>absurd e' (R.nobor_h i p hb pb tp))
 . rw[hsl',Fk];split
   . exact A5 _
   . exact R.sh t
 . unfold Xs;split
   . exact h2
   . exact R.shx i
theorem eU (R : RS h0 ω0 ω ρ st us X0) {m:Bool} {i:Nat} {n:Option Nat} {a:Opnd} {v:PV} (e:Hi m i n (a.pev st.sl) st=some (v,st1)):∃ u bx hp ω' ρ',Ad (.loadB i n a) us=some (u,bx,hp)/\RS h0 ω0 ω' ρ' st1 ⟨(AOp.loadB i n a).clears us.sl,bx,hp⟩ (X1 v u) /\
 (m=true->∀ o,a.pev st.sl= .box i o->∀ l c p,c<n.getD 1->ω l= .own (.b i) ((o+c)::p)->ω' l= .own (.x 0) (c::p)):=by
 unfold Hi at e
 split at e
 . rename_i j o hx
   have hev:=R.ev_box hx;split at e
   . rename_i hc;obtain⟨rfl,hle⟩:=hc;have hcond:i=i/\o+n.getD 1<=(AR us.bx i).length:=⟨rfl,by rw[<- R.lb i];exact hle⟩;split at e
     . simp only [B4] at e;obtain⟨v',e,he⟩:=e;cases he
       have hi:i<st.bx.length\/n.getD 1=0:=by
        rcases Br i st.bx.length with h|h
        . exact .inl h
        . right;rw[CU,Bz h] at hle;simp at hle;exact hle.2
       have hB:∀ k,Ak (BR st.bx i (AS (Ak st.bx i) o (CK (segm (Ak st.bx i) o (n.getD 1))))) k=if k=i then AS (Ak st.bx i) o (CK (segm (Ak st.bx i) o (n.getD 1))) else Ak st.bx k:=by
        intro k;rw[JE];by_cases hk:k=i
        . subst hk;rcases Br k st.bx.length with h|h
          . simp[h]
          . rw[Af (by omega),Ac rfl]
            have:Ak st.bx k=[]:=by rw[CU,Bz h];rfl
            rw[this];generalize CK (segm [] o (n.getD 1))=q;cases q<;>rfl
        . simp[hk]
       obtain⟨u,ω',h1,h2,h3⟩:=R.loadmv (λ p=>A0 p) (λ _ _=>rfl) (st':={ st with sl:=clr (.b i) st.sl,bx:=BR st.bx i (AS (Ak st.bx i) o (CK (segm (Ak st.bx i) o (n.getD 1)))) }) (hd:=.b i) (cs:=Ak st.bx i) (ws:=AR us.bx i) (by simp) (by simp)
        (λ p => rfl) (λ p=>by simp only[Ah,hB,Ac]) (λ hd' p h h'=>by
         cases hd' with
         |b k=>simp only[Ah,hB];rw[Af (λ h2=>h (by rw[h2]))]
         |s t=>exact absurd rfl (h' t)
         | _ => rfl) rfl (R.lb i).symm hle (R.cb i) (by rw[HQ];exact R.lbx) (λ k=>by
           simp only[hB];split
           . rename_i hk;rw[hk,Gk];exact R.lb i
           . exact R.lb k) (λ k c=>by
           simp only[hB];split
           . rw[G8 _ _ _ _ (by rw[KB,EW hle];exact hle)];split
             . rw[NT];split
               . rfl
               . rw[C9];split
                 . exact R.cb i _
                 . rfl
             . exact R.cb i c
           . exact R.cb k c) R.ch rfl (λ _=>rfl) e
       exact⟨u,us.bx,us.hp,ω',ρ,by simp only[Ad,hev,Gp];rw[Ac hcond.2,h1];rfl,h2,λ _ o' ho'=>by rw[hx] at ho';cases ho';exact h3⟩
     . rename_i hm;simp only[B4] at e;obtain⟨v',e,he⟩:=e;cases he
       have hrc:∀ c,RC us.hp ω (.at (.b i) [c]) (Aa (Ak st.bx i) c) (get (AR us.bx i) c):=λ c=>R.core.rc (.b i) [c]
       have hl2:=hcond.2;refine(fun⟨u,e1,e2⟩=>⟨u,us.bx,us.hp,ω,ρ,by simp only[Ad,hev,Gp];rw[Ac hcond.2,e1];rfl,e2,λ h=>absurd h hm⟩:_->_) (R.handL (hd:=.b i) (ws:=((AR us.bx i).drop o).take (n.getD 1)) e (by rw[TG,EW hle];simp;omega) (λ c=>?_) (λ c=>?_) (λ c=>?_) (λ c=>?_))
       . rw[FU];refine Uk ?_;rw[C9];split
         . exact Yh (R.cb i _)
         . exact LV
       . rw[FU,C9,Gn];split
         . exact(hrc (o+c)).brw
         . exact .undef _ _
       . rw[FU];exact UN
       . rw[FU,C9];split
         . exact TW (by simp) (Zb5 R i _)
         . exact λ i pb tp=>by simp[CD,PV.q]
   . cases e
 . cases e
theorem Zav(R:RS h0 ω0 ω ρ st us X0){m:Bool}{i:Nat}{n:Option Nat}{a:Opnd}{v:PV}(e:Hi m i n (a.pev st.sl) st=some (v,st1)):Out2 (.loadB i n a) us h0 ω0 v st1:=by
 obtain⟨u,bx,hp,ω',ρ',h1,h2,_⟩:=eU R e;exact⟨u,bx,hp,ω',ρ',h1,h2⟩
end
theorem Core.renh {h h':Ab} {ω:Nat->W} {A A':HE} (c:Core h ω A) {f:Ren} (hf:f.Ok) (ht:∀ l,(∀ i,ω l≠.ptr i)->h'[l]?=h[l]?) (hk:∀ l i,ω l= .ptr i->∃ b,h'[l]?=some b/\b.k= .own) (hlen:h'.length=h.length)
 (hA:∀ hd p,iQ f A (A' hd p) hd p\/RC h' (λ l=>Ag.ren f (ω l)) (.at hd p) (A' hd p).1 (A' hd p).2) :
 Core h' (λ l=>Ag.ren f (ω l)) A'/\Tr h ω h' (λ l=>Ag.ren f (ω l)) f (λ _=>False):=by
 have t:Tr h ω h' (λ l=>Ag.ren f (ω l)) f (λ _=>False):=
  ⟨λ l e=>⟨by simp[e,Ag.ren],ht l (λ i=>by simp[e])⟩,λ l hd p e _=>⟨by simp[e,Ag.ren],ht l (λ i=>by simp[e])⟩,λ l i e=>by simp[e,Ag.ren]⟩
 refine⟨⟨λ hd p=>?_,λ l l' hd p e e'=>?_,λ l l' i e e'=>c.injp l l' i (DN hf e) (DN hf e'),λ l e=>?_,λ l e=>?_⟩,t⟩
 . rcases hA hd p with⟨hd0,p0,e1,ho,hb⟩|hr
   . rw[e1] at ho hb ⊢;exact(c.rc hd0 p0).tr t (λ e=>⟨λ _ _ _=>id,λ r=>ho e r⟩) (λ hb' pb tp e=>⟨λ _ _ _=>id,hb hb' pb tp e⟩)
   . exact hr
 . obtain⟨a,q,e1,e2⟩:=Db e
   obtain⟨a',q',e1',e2'⟩:=Db e';obtain⟨rfl,rfl⟩:=hf.inj a q a' q' hd p e2 e2';exact c.inj l l' a q e1 e1'
 . rcases e with⟨hd,p,e⟩|⟨i,e⟩
   . obtain⟨a,q,e1,_⟩:=Db e;obtain⟨b,hb,hk'⟩:=c.kind l (.inl ⟨a,q,e1⟩);exact⟨b,by rw[ht l (λ i=>by simp[e1])];exact hb,hk'⟩
   . exact hk l i (DN hf e)
 . rw[hlen]
   cases e1:ω l with
   |own a q=>obtain⟨b,hb,_⟩:=c.kind l (.inl ⟨a,q,e1⟩);exact Bj hb
   |frz=>exact c.lt l e1
   |_=>rw[e1] at e;simp[Ag.ren] at e
section
variable {h0:Ab} {ω0 ω:Nat->W} {ρ:Nat->Nat} {st st' st1:PS} {us us':St} {X X':Cb}
theorem RS.renh (R:RS h0 ω0 ω ρ st us X) {f:Ren} (hf:f.Ok) (hh:∀ l a q i r,ω l= .own a q->f a q= .own (.h i) r->i<st'.hp.length)
 (ht:∀ l,(∀ i,ω l≠.ptr i)->us'.hp[l]?=us.hp[l]?) (hk:∀ l i,ω l= .ptr i->∃ b,us'.hp[l]?=some b/\b.k= .own) (hlen:us'.hp.length=us.hp.length)
 (hA:∀ hd p,Uu f (Ah ρ st us X) (Ah ρ st' us' X' hd p) hd p\/BU (Ah ρ st' us' X' hd p).1/\RC us'.hp (λ l=>Ag.ren f (ω l)) (.at hd p) (Ah ρ st' us' X' hd p).1 (Ah ρ st' us' X' hd p).2)
 (hs:∀ t,AX (Aa st'.sl t) (get us'.sl t)) (hx:∀ i,AX (X' i).1 (X' i).2) (l1:st'.sl.length=us'.sl.length) (l2:st'.bx.length=us'.bx.length)
 (l3:∀ i,(Ak st'.bx i).length=(AR us'.bx i).length) (c1:∀ i c,(Aa (Ak st'.bx i) c).lay=true) (c2:∀ i c,(Aa (Ak st'.hp i) c).lay=true)
 (l4:st'.hp.length=st.hp.length) (l5:∀ i,i<st.hp.length->(AV us'.hp (ρ i)).length=(Ak st'.hp i).length):RS h0 ω0 (λ l=>Ag.ren f (ω l)) ρ st' us' X':=by
 obtain⟨hc,_⟩:=R.core.renh (A':=Ah ρ st' us' X') hf ht hk hlen λ hd p=>by
  rcases hA hd p with⟨a,b,e,h1,h2⟩|h
  . refine .inl ⟨a,b,e,h1,λ hb pb tp e'=>h2 hb pb tp e' ?_⟩;rintro i rfl;rw[e] at e';exact R.nx a b i pb tp e'
  . exact .inr h.2
 refine⟨hc,hs,hx,l1,l2,l3,c1,c2,λ i hi=>?_,λ l i e=>?_,λ l i p e=>?_,?_,λ hd p i pb tp=>?_⟩
 . rw[l4] at hi
   exact⟨by simp[(R.hp i hi).1,Ag.ren],l5 i hi⟩
 . rw[l4];exact R.bdp l i (DN hf e)
 . obtain⟨a,q,e1,e2⟩:=Db e
   exact hh l a q i p e1 e2
 . have F:=R.fr.ren f
   refine⟨by rw[hlen];exact F.len,λ l hl e=>?_,F.new,F.ptr⟩;obtain⟨a,b⟩:=F.old l hl e;refine⟨?_,b⟩;rw[ht l,a];intro i e';obtain⟨_,b'⟩:=R.fr.old l hl e;rw[e'] at b';rcases e with e|e<;>rw[e] at b'<;>cases b'
 . rcases hA hd p with⟨a,b,e,_⟩|h
   . rw[e];exact R.nx a b i pb tp
   . exact h.1 i pb tp
theorem Fe{cs:List PV}(h:B1 cs=true)(c:Nat):(Aa cs c).lay=true/\(c<cs.length->(Aa cs c).cell=true):=by
 induction cs generalizing c with
 |nil=>exact⟨rfl,λ h=>by simp at h⟩
 | cons x r ih=>
   simp only[B1,Ai] at h
   cases c with
   | zero=>
     refine⟨?_,λ _=>h.1⟩;simp only[Aa]
     cases x with
     |sl q es=>cases q<;>first|rfl|(simp[PV.cell] at h)
     |fl=>rfl
     |_=>simp[PV.cell] at h
   |succ c=>exact⟨(ih h.2 c).1,λ hl=>(ih h.2 c).2 (by simpa using hl)⟩
theorem Zb0{H:Ab}{ω:Nat->W}{m:Md}{v:PV}{u:V}(r:RC H ω m v u)(h:v.cell=true):u.cell=true:=by
 cases r with
 |undef=>simp[PV.cell,V.flat] at h
 |v _ _ hx=>cases u<;>first|rfl|simp[V.flat] at hx
 |nil=>rfl
 |sl=>rfl
 |ep=>simp[PV.cell] at h
 |box=>simp[PV.cell] at h
 |ptr=>simp[PV.cell] at h
theorem cL{v:PV}{u:V}(h:AX v u)(hc:B1 v.cells=true):u.cells.length=v.cells.length/\(∀ vs,v≠.tup vs)/\∀ vs,u≠.tup vs:=by
 cases v with
 |agg cs=>obtain⟨ws,rfl,h2⟩:=h;exact⟨h2,λ _ h=>(by cases h),λ _ h=>(by cases h)⟩
 |tup vs=>simp[PV.cells,B1,PV.cell] at hc
 | fl x=>
   cases x<;>first|(simp[PV.cells,B1,PV.cell,V.flat] at hc;done)|skip
   all_goals
    refine⟨?_,λ _ h=>(by cases h),h.2⟩
    cases u<;>first|rfl|exact absurd rfl (h.1 _)|exact absurd rfl (h.2 _)
 | _=>
   refine⟨?_,λ _ h=>(by cases h),h.2⟩
   cases u<;>first|rfl|exact absurd rfl (h.1 _)|exact absurd rfl (h.2 _)
theorem RS.hand_cells{i:Nat}{v:PV}{u:V}(R:RS h0 ω0 ω ρ st us X)(e:X i=(v,u))(hc:B1 v.cells=true) :
 u.cells.length=v.cells.length/\u.cells.all V.cell=true/\(∀ c,RC us.hp ω (.at (.x i) [c]) (Aa v.cells c) (get u.cells c))/\∀ c,Ah ρ st us X (.x i) [c]=(Aa v.cells c,get u.cells c):=by
 have hs:=R.shx i
 rw[e] at hs
 obtain⟨h1,h2,h3⟩:=cL hs hc
 have hf:∀ c,Ah ρ st us X (.x i) [c]=(Aa v.cells c,get u.cells c):=λ c=>by
  simp only[Ah,e,LF h2,Pt h3]
 have hr:∀ c,RC us.hp ω (.at (.x i) [c]) (Aa v.cells c) (get u.cells c):=λ c=>by
  have:=R.core.rc (.x i) [c];rw[hf] at this;exact this
 refine⟨h1,?_,hr,hf⟩
 rw[CV]
 intro w hw
 obtain⟨c,hc',rfl⟩:=H5 hw
 have:=Zb0 (hr c) ((Fe hc c).2 (by simp only at h1 ⊢;omega))
 rw[Co,A3 hc'] at this
 exact this
theorem RS.storemv {v:PV} {u:V} (R:RS h0 ω0 ω ρ st us (X1 v u)) {hd:Hd} {cs:List PV} {ws:List V} {o:Nat} (hx:∀ i,hd≠.x i) (hsl:∀ t,hd≠.s t) (hhd:∀ i,hd= .h i->i<st'.hp.length)
 (hc:B1 v.cells=true) (hfam:∀ p,Ah ρ st us (X1 v u) hd p=A8 cs ws p) (hfam':∀ p,Ah ρ st' us' X0 hd p=A8 (AS cs o v.cells) (splice ws o u.cells) p)
 (hoth:∀ hd' p,hd'≠hd->(∀ t,hd'≠.s t)->(∀ i,hd'≠.x i)->Ah ρ st' us' X0 hd' p=Ah ρ st us (X1 v u) hd' p\/(Ah ρ st' us' X0 hd' p).1= .fl .undef) (hus:us'.sl=us.sl)
 (hsl':st'.sl=if PV.ownL (segm cs o v.cells.length)||v.own then clr hd st.sl else st.sl) (hlen:ws.length=cs.length) (hle:o+v.cells.length<=cs.length) (hlay:∀ c,(Aa cs c).lay=true)
 (ht:∀ l,(∀ i,ω l≠.ptr i)->us'.hp[l]?=us.hp[l]?) (hk:∀ l i,ω l= .ptr i->∃ b,us'.hp[l]?=some b/\b.k= .own) (hlh:us'.hp.length=us.hp.length)
 (l2:st'.bx.length=us'.bx.length) (l3:∀ i,(Ak st'.bx i).length=(AR us'.bx i).length) (c1:∀ i c,(Aa (Ak st'.bx i) c).lay=true) (c2:∀ i c,(Aa (Ak st'.hp i) c).lay=true)
 (l4:st'.hp.length=st.hp.length) (l5:∀ i,i<st.hp.length->(AV us'.hp (ρ i)).length=(Ak st'.hp i).length):∃ ω',RS h0 ω0 ω' ρ st' us' X0:=by
 obtain⟨k1,k2,k3,k4⟩:=R.hand_cells (i:=0) (v:=v) (u:=u) rfl hc
 have hrc:∀ c,RC us.hp ω (.at hd [c]) (Aa cs c) (get ws c):=λ c=>by have:=R.core.rc hd [c];rw[hfam] at this;exact this
 have hcell:∀ c,A8 (AS cs o v.cells) (splice ws o u.cells) [c]=if o<=c/\c<o+v.cells.length then (Aa v.cells (c-o),get u.cells (c-o)) else (Aa cs c,get ws c):=by
  intro c;simp only[A8];rw[G8 _ _ _ _ hle,S4 _ _ _ _ (by omega),k1];split<;>rfl
 have hc1:∀ p,(∃ c,p=[c])\/(A8 (AS cs o v.cells) (splice ws o u.cells) p).1= .fl .undef:=by
  intro p
  match p with
  |[c]=>exact .inl ⟨c,rfl⟩
  |[]=>exact .inr rfl
  |_::_::_=>exact .inr rfl
 cases ho:(PV.ownL (segm cs o v.cells.length)||v.own) with
 | true=>
   rw[ho,Ac rfl] at hsl';refine⟨_,RS.renh (st':=st') (us':=us') (X':=X0) R (Ren.seg_ok (a:=.x 0) (o:=0) (n:=v.cells.length) (b:=hd) (o':=o) (λ h=>hx 0 h.symm)) (λ l a q i r e0 e=>?_) ht hk hlh (λ hd' p=>?_) (λ t=>?_) (λ i=>A5 _) (by rw[hsl',FV,hus];exact R.lsl) l2 l3 c1 c2 l4 l5⟩
   . unfold Ren.seg at e;split at e
     . cases e;rw[l4];exact R.bdh l i _ e0
     . split at e
       . cases e;exact hhd i rfl
       . split at e
         . cases e
         . cases e;rw[l4];exact R.bdh l i _ e0
   . by_cases hh:hd'=hd
     . subst hh;rw[hfam' p];rcases hc1 p with⟨c,rfl⟩|h
       . rw[hcell c];split
         . rename_i hcc;refine .inl ⟨.x 0,[c-o],(k4 _).symm,λ _ r=>?_,λ hb pb tp e'=>absurd e' (Cs (Fe hc _).1 _ _ _)⟩;simp only[CP,CA];rw[Ren.seg_mv (by omega) (by omega)];rw[show c-o-0+o=c by omega]
         . rename_i hcc;refine .inl ⟨hd',[c],by rw[hfam];rfl,λ _ r=>?_,λ hb pb tp e'=>absurd e' (Cs (hlay c) _ _ _)⟩;exact Ren.seg_rest_b (λ h=>hx 0 h.symm) (by omega) r
       . exact .inr (AW h)
     . cases hd' with
       |x i=>exact .inr (AW (F1 i p))
       | s t=>
         simp only[Ah,hsl',Fk,hus];split
         . exact .inr (CM (A0 p))
         . rename_i hb
           have hb:(Aa st.sl t).bor hd=false:=by simpa using hb
           exact .inl (Bg rfl (λ _=>Ren.seg_still (by simp) (λ h=>hsl t h.symm)) λ hb' pb tp e' hx'=>Ren.seg_still (hx' 0) (Dz (v:=Aa st.sl t) hb (p:=p) e'))
       | b i=>
         refine(hoth (.b i) p hh (by simp) (by simp)).elim (λ hot=>?_) (λ hot=>.inr (AW hot));rw[hot];exact .inl (Bg rfl (λ _=>Ren.seg_still (by simp) hh) λ hb pb tp e'=>absurd e' (R.nobor_b i p hb pb tp))
       | h i=>
         refine(hoth (.h i) p hh (by simp) (by simp)).elim (λ hot=>?_) (λ hot=>.inr (AW hot));rw[hot];exact .inl (Bg rfl (λ _=>Ren.seg_still (by simp) hh) λ hb pb tp e'=>absurd e' (R.nobor_h i p hb pb tp))
   . rw[hsl',Fk,hus];split
     . exact A5 _
     . exact R.sh t
 | false =>
   rw[ho] at hsl';simp only[Bd,Bs] at hsl';simp only[Cy] at ho;refine⟨_,RS.renh (st':=st') (us':=us') (X':=X0) R (Ren.drop_ok (.x 0)) (λ l a q i r e0 e=>?_) ht hk hlh (λ hd' p=>?_) (λ t=>?_) (λ i=>A5 _) (by rw[hsl',hus];exact R.lsl) l2 l3 c1 c2 l4 l5⟩
   . have:=Ub a q i r e;subst this;rw[l4];exact R.bdh l i q e0
   . have t:Tr us.hp ω us'.hp (λ l=>Ag.ren (Ren.drop (.x 0)) (ω l)) (Ren.drop (.x 0)) (λ _=>False):=
      ⟨λ l e=>⟨by simp[e,Ag.ren],ht l (λ i=>by simp[e])⟩,λ l hd p e _=>⟨by simp[e,Ag.ren],ht l (λ i=>by simp[e])⟩,λ l i e=>by simp[e,Ag.ren]⟩
     by_cases hh:hd'=hd
     . subst hh;rw[hfam' p];rcases hc1 p with⟨c,rfl⟩|h
       . rw[hcell c];split
         . rename_i hcc;have hlv:=(Fe hc (c-o)).1
           have hov:(Aa v.cells (c-o)).qo=false:=by
            have hnt:∀ vs,v≠.tup vs:=(cL (R.shx 0) hc).2.1;have:=LY ho.2 [c-o];rw[LF hnt] at this;exact this
           exact .inr ⟨λ _ _ _ e'=>Cs hlv _ _ _ e',(k3 _).tr t (λ e'=>by rw[hov] at e';cases e') (λ hb pb tp e'=>absurd e' (Cs hlv _ _ _))⟩
         . rename_i hcc;exact .inl ⟨hd',[c],by rw[hfam];rfl,λ _ r=>Ren.drop_still (hx 0) _,λ hb pb tp e'=>absurd e' (Cs (hlay c) _ _ _)⟩
       . exact .inr (AW h)
     . cases hd' with
       |x i=>exact .inr (AW (F1 i p))
       | s t'=>
         simp only[Ah,hsl',hus];exact .inl (Bg rfl (λ _=>Ren.drop_still (by simp)) λ hb' pb tp e' hx'=>Ren.drop_still (hx' 0))
       | b i=>
         refine(hoth (.b i) p hh (by simp) (by simp)).elim (λ hot=>?_) (λ hot=>.inr (AW hot));rw[hot];exact .inl (Bg rfl (λ _=>Ren.drop_still (by simp)) λ hb pb tp e'=>absurd e' (R.nobor_b i p hb pb tp))
       | h i=>
         refine(hoth (.h i) p hh (by simp) (by simp)).elim (λ hot=>?_) (λ hot=>.inr (AW hot));rw[hot];exact .inl (Bg rfl (λ _=>Ren.drop_still (by simp)) λ hb pb tp e'=>absurd e' (R.nobor_h i p hb pb tp))
   . rw[hsl',hus];exact R.sh t
theorem bF{cs vs:List PV}{o:Nat}(h1:∀ c,(Aa cs c).lay=true)(h2:∀ c,(Aa vs c).lay=true)(hle:o+vs.length<=cs.length)(c:Nat):(Aa (AS cs o vs) c).lay=true:=by
 rw[G8 _ _ _ _ hle];split
 . exact h2 _
 . exact h1 _
theorem yV(x:Opnd)(st:PS):(Ag.mvOut x st).2.bx=st.bx/\(Ag.mvOut x st).2.hp=st.hp/\(Ag.mvOut x st).2.sl.length=st.sl.length:=by
 cases x with
 |c v=>exact⟨rfl,rfl,rfl⟩
 | t n=>
   simp only[Ag.mvOut,Gd];split
   . split
     . exact⟨rfl,rfl,rfl⟩
     . exact⟨rfl,rfl,by simp[FV,FT]⟩
   . exact⟨rfl,rfl,rfl⟩
theorem WE{o:AOp}{bx':List (List V)}{hp':Ab}(hst:Ad o us=some (.undef,bx',hp')){ω':Nat->W}(h:RS h0 ω0 ω' ρ st1 ⟨o.clears us.sl,bx',hp'⟩ X0):Out2 o us h0 ω0 (.fl .undef) st1:=by
 refine⟨.undef,bx',hp',ω',ρ,hst,?_⟩;have:=h.hand (v:=.fl .undef) (u:=.undef) (hd:=.x 0) (A5 _) (λ p=>by rw[A0];exact .undef _ _) (λ p=>by rw[A0];rfl) (λ p i pb tp=>by rw[A0];simp[PV.q]);exact this
theorem y9(R:RS h0 ω0 ω ρ st us X0){i n:Nat}{a x:Opnd}{v:PV}(e:PO i n a x st=some (v,st1)):Out2 (.storeB i n a x) us h0 ω0 v st1:=by
 unfold PO at e;obtain⟨ω1,R1⟩:=R.mv0 x;obtain⟨hbx,hhp,hsl⟩:=yV x st;generalize Ag.mvOut x st=mo at e R1 hbx hhp hsl;obtain⟨w,s⟩:=mo;simp only at e R1 hbx hhp hsl;split at e
 . rename_i j o hx;have hev:=R.ev_box hx;split at e
   . rename_i hcnd;obtain⟨rfl,c1,c2,c3,c4⟩:=hcnd;cases e;obtain⟨k1,k2,k3,k4⟩:=R1.hand_cells (i:=0) (v:=w) (u:=x.ev us.sl) rfl c4
     have hB:∀ k,Ak (BR s.bx i (AS (Ak s.bx i) o w.cells)) k=if k=i then AS (Ak s.bx i) o w.cells else Ak s.bx k:=by
      intro k;rw[JE];simp[c1]
     have hV:∀ k,AR (Cr us.bx i (splice (AR us.bx i) o (x.ev us.sl).cells)) k=if k=i then splice (AR us.bx i) o (x.ev us.sl).cells else AR us.bx k:=by
      intro k;rw[dJ,<- R1.lbx];simp[c1]
     subst c2
     have hst:Ad (.storeB i w.cells.length a x) us=some (.undef,Cr us.bx i (splice (AR us.bx i) o (x.ev us.sl).cells),us.hp):=by
      simp only[Ad,hev];rw[Ac ⟨trivial,by rw[<- R1.lbx];exact c1,k1,by rw[<- R1.lb i];exact c3,k2⟩]
     obtain⟨ω',h⟩:=R1.storemv (st':={ s with sl:=if PV.ownL (segm (Ak s.bx i) o w.cells.length)||w.own then clr (.b i) s.sl else s.sl,bx:=BR s.bx i (AS (Ak s.bx i) o w.cells) })
      (us':={ us with bx:=Cr us.bx i (splice (AR us.bx i) o (x.ev us.sl).cells) }) (hd:=.b i) (cs:=Ak s.bx i) (ws:=AR us.bx i) (o:=o) (by simp) (by simp) (by simp) c4 (λ p=>rfl) (λ p=>by simp only[Ah,hB,hV,Ac])
      (λ hd' p h1 h2 h3=>by
       cases hd' with
       |b k=>left;simp only[Ah,hB,hV];rw[Af (λ h=>h1 (by rw[h])),Af (λ h=>h1 (by rw[h]))]
       |s t=>exact absurd rfl (h2 t)
       |x k=>exact absurd rfl (h3 k)
       | h k=>exact .inl rfl) rfl rfl (R1.lb i).symm c3 (R1.cb i) (λ _ _=>rfl) (λ l i e=>R1.core.kind l (.inr ⟨i,e⟩)) rfl (by simp only[HQ,dE];exact R1.lbx) (λ k=>by
         simp only[hB,hV];split
         . rw[Gk,FN];exact R1.lb i
         . exact R1.lb k) (λ k c=>by
         simp only[hB];split
         . exact bF (R1.cb i) (λ c=>(Fe c4 c).1) c3 c
         . exact R1.cb k c) R1.ch rfl (λ k hk=>(R1.hp k hk).2)
     exact WE hst h
   . cases e
 . cases e
end
theorem hJ{c:V}(hc:c.flat=true)(h:Ab)(ω:Nat->W)(m:Md):RC h ω m (BO c) c/\(BO c).cell=true/\(∀ hb pb tp,(BO c).q≠some (.bor hb pb tp)):=by
 cases c<;>first|(simp[V.flat] at hc;done)|exact⟨.v _ _ rfl,rfl,λ _ _ _ h=>by simp[BO,PV.q] at h⟩|exact⟨.nil _ _,rfl,λ _ _ _ h=>by simp[BO,PV.q] at h⟩
theorem NG:∀ {zs:List V},zs.all V.flat=true->B1 (zs.map BO)=true
 |[],_=>rfl
 | z::r,h=>by
   simp only[EY,Ai] at h
   simp only[B0,B1,Ai]
   exact⟨(hJ h.1 [] (λ _=>.none) .fz).2.1,NG h.2⟩
theorem yF{zs:List V}(c:Nat)(hc:c<zs.length):Aa (zs.map BO) c=BO (zs[c]'hc)/\get zs c=zs[c]'hc:=by
 rw[Dy,Co,Gy,A3 hc];exact⟨rfl,rfl⟩
theorem fP{zs:List V}(hz:zs.all V.flat=true)(h:Ab)(ω:Nat->W)(m:Md)(c:Nat):RC h ω m (Aa (zs.map BO) c) (get zs c)/\BU (Aa (zs.map BO) c):=by
 rcases Br c zs.length with hc|hc
 . obtain⟨e1,e2⟩:=yF c hc;rw[e1,e2];obtain⟨h1,_,h3⟩:=hJ (CV.1 hz _ (Eh hc)) h ω m;exact⟨h1,λ i pb tp=>h3 _ pb tp⟩
 . rw[Fl _ _ (by simpa using hc)];exact⟨.undef _ _,λ i pb tp=>by simp[PV.q]⟩
section
variable {h0:Ab} {ω0 ω:Nat->W} {ρ:Nat->Nat} {st st' st1:PS} {us us':St} {X X':Cb}
theorem RS.handx(R:RS h0 ω0 ω ρ st us X0){v:PV}{u:V}(hs:AX v u)(hr:∀ p,RC us.hp ω (.at (.x 0) p) (v.fcell p) (u.fcell p))(hx:∀ p,BU (v.fcell p)):RS h0 ω0 ω ρ st us (X1 v u):=by
 have:=RS.ren (st':=st) (us':=us) (X':=X1 v u) R Ren.id_ok (λ hd p i q e=>by simp[Ren.id] at e;exact e.1) (λ hd' p=>?_) rfl R.sh (λ i=>?_) R.lsl R.lbx R.lb R.cb R.ch rfl (λ _=>rfl)
 . rwa [CX] at this
 . cases hd' with
   | x i=>
     refine .inr ?_;rw[CX];by_cases hi:i=0
     . subst hi;exact⟨hx p,hr p⟩
     . exact AW (E1 i hi p)
   |s t=>exact .inl (Bh rfl)
   |b t=>exact .inl (Bh rfl)
   |h t=>exact .inl (Bh rfl)
 . by_cases hi:i=0
   . subst hi;exact hs
   . rw[Dl v u i hi];exact A5 _
theorem RS.handz(R:RS h0 ω0 ω ρ st us X0){zs:List V}(hz:zs.all V.flat=true):RS h0 ω0 ω ρ st us (X1 (.agg (zs.map BO)) (.agg zs)):=by
 refine R.handx ⟨zs,rfl,by simp⟩ (λ p=>?_) (λ p=>?_)
 . match p with
   |[c]=>exact(fP hz _ _ _ c).1
   |[]=>exact .undef _ _
   |_::_::_=>exact .undef _ _
 . match p with
   |[c]=>exact(fP hz us.hp ω .fz c).2
   |[]=>exact λ i pb tp=>by simp[PV.fcell,PV.q]
   |_::_::_=>exact λ i pb tp=>by simp[PV.fcell,PV.q]
theorem RS.newbox{v:PV}{u:V}(R:RS h0 ω0 ω ρ st us (X1 v u))(i:Nat)(hi:i<st.bx.length)(hc:B1 v.cells=true) :
 ∃ ω',RS h0 ω0 ω' ρ { st with sl:=clr (.b i) (FP i st.sl),bx:=BR st.bx i v.cells } { us with sl:=clearBox i us.sl,bx:=Cr us.bx i u.cells } (X1 (.box i 0) (.box i 0)):=by
 obtain⟨k1,k2,k3,k4⟩:=R.hand_cells (i:=0) (v:=v) (u:=u) rfl hc
 have hB:∀ k,Ak (BR st.bx i v.cells) k=if k=i then v.cells else Ak st.bx k:=by
  intro k;rw[JE];simp[hi]
 have hV:∀ k,AR (Cr us.bx i u.cells) k=if k=i then u.cells else AR us.bx k:=by
  intro k;rw[dJ,<- R.lbx];simp[hi]
 have hslot:∀ t,Aa (clr (.b i) (FP i st.sl)) t= .fl .undef\/(Aa (clr (.b i) (FP i st.sl)) t=Aa st.sl t/\get (clearBox i us.sl) t=get us.sl t/\(Aa st.sl t).bor (.b i)=false):=by
  intro t;rw[Fk,sZ,bh];by_cases hu:Aa st.sl t= .fl .undef
  . left;rw[hu];rfl
  . cases hbx : (Aa st.sl t).isBox i with
    |true=>left;rfl
    | false =>
      simp only[Bd,Bs]
      cases hbb:(Aa st.sl t).bor (.b i) with
      |true=>left;rfl
      | false =>
        right;refine⟨rfl,?_,rfl⟩
        have hne:(get us.sl t).isBox i=false:=by
         have hr:=λ p=>R.core.rc (.s t) p
         simp only[Ah] at hr;have hs:=R.sh t;generalize Aa st.sl t=w at hu hbx hr hs;generalize get us.sl t=x at hr hs
         cases w with
         |agg cs=>obtain⟨ws,rfl,_⟩:=hs;rfl
         |tup cs=>obtain⟨ws,rfl,_⟩:=hs;rfl
         | fl a=>
           have hs':(∀ us',x≠.agg us')/\∀ us',x≠.tup us':=by
            cases a<;>first|exact hs|exact absurd rfl hu
           have r:=hr [0];rw[G7 (λ _ h=>(by cases h)) (λ _ h=>(by cases h)),ET hs'.1 hs'.2] at r
           cases r with
           |undef=>exact absurd rfl hu
           |v _ _ hx=>cases x<;>first|rfl|simp[V.flat] at hx
         | box j o=>
           have r:=hr [0];rw[G7 (λ _ h=>(by cases h)) (λ _ h=>(by cases h)),ET hs.1 hs.2] at r;cases r;exact hbx
         | _=>
           have r:=hr [0];rw[G7 (λ _ h=>(by cases h)) (λ _ h=>(by cases h)),ET hs.1 hs.2] at r;cases r<;>rfl
        rw[hne];rfl
 refine⟨_,RS.ren (X':=X1 (.box i 0) (.box i 0)) R (Ren.mv_ok (.x 0) (.b i)) (UT (by simp)) (λ hd' p=>?_) rfl (λ t=>?_) (λ j=>?_) (by simp[FV,tg,tD,R.lsl]) (by simp[HQ,dE,R.lbx]) (λ k=>?_) (λ k c=>?_) R.ch rfl (λ _=>rfl)⟩
 . cases hd' with
   | x j =>
     refine .inr ?_;by_cases hj:j=0
     . subst hj
       have hq:∀ p,((PV.box i 0).fcell p= .box i 0/\(V.box i 0).fcell p= .box i 0)\/(PV.box i 0).fcell p= .fl .undef:=by
        intro p
        match p with
        |[0]=>exact .inl ⟨rfl,rfl⟩
        |[]=>exact .inr rfl
        |(_+1)::_=>exact .inr rfl
        |0::_::_=>exact .inr rfl
       show BU ((PV.box i 0).fcell p)/\RC _ _ _ ((PV.box i 0).fcell p) ((V.box i 0).fcell p);rcases hq p with⟨e1,e2⟩|e
       . rw[e1,e2];exact⟨λ i pb tp=>by simp[PV.q],.box _ _ _⟩
       . rw[e];exact⟨λ i pb tp=>by simp[PV.q],.undef _ _⟩
     . exact AW (E1 j hj p)
   | s t=>
     simp only[Ah];rcases hslot t with h|⟨h1,h2,h3⟩
     . refine .inr ?_;rw[h];exact CM (A0 p)
     . rw[h1,h2];exact .inl (Bg rfl (λ _=>Ren.mv_still (by simp) (by simp)) λ hb pb tp e hx=>Ren.mv_still (hx 0) (Dz (v:=Aa st.sl t) h3 (p:=p) e))
   | b k=>
     simp only[Ah,hB,hV];by_cases hk:k=i
     . subst hk;simp only[Ac]
       match p with
       |[]=>exact .inr (AW rfl)
       |_::_::_=>exact .inr (AW rfl)
       |[c]=>exact .inl ⟨.x 0,[c],(k4 c).symm,λ _ r=>by simp[Ren.mv],λ hb pb tp e'=>absurd e' (Cs (Fe hc c).1 _ _ _)⟩
     . simp only[Af hk];exact .inl (Bg rfl (λ _=>Ren.mv_still (by simp) (by simpa using hk)) λ hb pb tp e'=>absurd e' (R.nobor_b k p hb pb tp))
   |h k=>exact .inl (Bg rfl (λ _=>Ren.mv_still (by simp) (by simp)) λ hb pb tp e'=>absurd e' (R.nobor_h k p hb pb tp))
 . simp only
   rcases hslot t with h|⟨h1,h2,h3⟩
   . rw[h];exact A5 _
   . rw[h1,h2];exact R.sh t
 . by_cases hj:j=0
   . subst hj;exact⟨λ _ h=>(by cases h),λ _ h=>(by cases h)⟩
   . rw[Dl _ _ j hj];exact A5 _
 . simp only[hB,hV];split
   . exact k1.symm
   . exact R.lb k
 . simp only[hB];split
   . exact(Fe hc c).1
   . exact R.cb k c
theorem ZbN (R:RS h0 ω0 ω ρ st us X0) {i n:Nat} {x:Opnd} {v:PV}
 (e:(match Ag.mvOut x st with|(v,st)=>if i<st.bx.length/\v.cells.length=n/\B1 v.cells=true then some (PV.box i 0,{ st with sl:=clr (.b i) (FP i st.sl),bx:=BR st.bx i v.cells }) else none)=some (v,st1)):Out2 (.boxB i n x) us h0 ω0 v st1:=by
 obtain⟨ω1,R1⟩:=R.mv0 x
 generalize Ag.mvOut x st=mo at e R1
 obtain⟨w,s⟩:=mo
 simp only at e R1
 split at e
 . rename_i hc
   obtain⟨c1,c2,c3⟩:=hc;cases e;obtain⟨k1,k2,_,_⟩:=R1.hand_cells (i:=0) (v:=w) (u:=x.ev us.sl) rfl c3;obtain⟨ω',h⟩:=R1.newbox i c1 c3;exact⟨_,_,_,ω',ρ,by simp only[Ad];rw[Ac ⟨by rw[<- R1.lbx];exact c1,by rw[k1,c2],k2⟩],h⟩
 . cases e
theorem Nx{zs:List V}(h:zs.all V.flat=true):zs.all V.cell=true:=by
 rw[CV] at h ⊢;intro x hx;have:=h x hx
 cases x<;>first|rfl|simp[V.flat] at this
theorem yx(R:RS h0 ω0 ω ρ st us X0){i:Nat}{zs:List V}(hi:i<st.bx.length)(hz:zs.all V.flat=true):Out2 (.allocB i zs) us h0 ω0 (.box i 0) { st with sl:=clr (.b i) (FP i st.sl),bx:=BR st.bx i (zs.map BO) }:=by
 obtain⟨ω',h⟩:=(R.handz hz).newbox i hi (NG hz);exact⟨_,_,_,ω',ρ,by simp only[Ad];rw[Ac ⟨by rw[<- R.lbx];exact hi,Nx hz⟩];rfl,h⟩
end
theorem RC.und{h:Ab}{ω:Nat->W}{hd hd':Hd}{p p':List Nat}{q:Ql}{k:Nat}{v:PV}{u:V}(hq:q.isOwn=false)(r:RC h ω (Md.sub (.at hd p) q k) v u):RC h ω (.at hd' p') (Kc q v) u:=by
 cases q with
 |own=>cases hq
 |ownw w=>cases hq
 | frz=>
   cases r with
   |undef=>exact .undef _ _
   |v _ _ hx=>exact .v _ _ hx
   |nil=>exact .nil _ _
   |sl _ q es l o n b h1 hk hc hne hn hw hle hr=>exact .sl _ _ _ _ _ _ b h1 hk hc (λ _ e=>by simp at e) hn hw hle hr
   |ep=>exact .undef _ _
   |box=>exact .undef _ _
 | bor a c d=>
   cases r with
   |undef=>exact .undef _ _
   |v _ _ hx=>exact .v _ _ hx
   |nil _ q=>cases q<;>first|exact .nil _ _|exact .undef _ _
   | sl _ q es l o n b h1 hk hc hne hn hw hle hr=>
     cases q with
     |own=>exact .sl _ _ _ _ _ _ b h1 hk ⟨hc,λ e=>by cases e⟩ (λ _ e=>by simp at e) hn hw hle hr
     |ownw w=>exact .sl _ _ _ _ _ _ b h1 hk ⟨hc,λ e=>by cases e⟩ (λ _ e=>by simp at e) hn hw hle hr
     |frz=>exact .sl _ _ _ _ _ _ b h1 hk hc (λ _ e=>by simp at e) hn hw hle hr
     |bor=>exact .undef _ _
     |pre=>exact .undef _ _
   |ep _ q=>cases q<;>exact .undef _ _
   |box=>exact .undef _ _
 | pre a c=>
   cases r with
   |undef=>exact .undef _ _
   |v _ _ hx=>exact .v _ _ hx
   |nil _ q=>cases q<;>first|exact .nil _ _|exact .undef _ _
   | sl _ q es l o n b h1 hk hc hne hn hw hle hr=>
     cases q with
     |own=>exact .sl _ _ _ _ _ _ b h1 hk ⟨hc,λ e=>by cases e⟩ (λ _ e=>by simp at e) hn hw hle hr
     |ownw w=>exact .sl _ _ _ _ _ _ b h1 hk ⟨hc,λ e=>by cases e⟩ (λ _ e=>by simp at e) hn hw hle hr
     |frz=>exact .sl _ _ _ _ _ _ b h1 hk hc (λ _ e=>by simp at e) hn hw hle hr
     |bor=>exact .undef _ _
     |pre=>exact .undef _ _
   |ep _ q=>cases q<;>exact .undef _ _
   |box=>exact .undef _ _
theorem YH{q:Ql}{v:PV}(hx:∀ i,q.hd≠some (.x i)):(Kc q v).sc/\(Kc q v).qo=false/\BU (Kc q v):=by
 have z:∀ (hd:Hd) (es:List (List PV)),q.hd=some hd->(PV.sl (.bor hd [] false) es).sc/\(PV.sl (.bor hd [] false) es).qo=false/\BU (PV.sl (.bor hd [] false) es):=by
  intro hd es e;refine⟨⟨λ _ h=>(by cases h),λ _ h=>(by cases h)⟩,rfl,λ i pb tp h=>?_⟩;simp[PV.q] at h;exact hx i (by rw[e,h.1])
 have y:∀ es,(PV.sl .frz es).sc/\(PV.sl .frz es).qo=false/\BU (PV.sl .frz es):=λ es=>⟨⟨λ _ h=>(by cases h),λ _ h=>(by cases h)⟩,rfl,λ i pb tp=>by simp[PV.q]⟩
 have x:∀ a,(PV.fl a).sc/\(PV.fl a).qo=false/\BU (PV.fl a):=λ a=>⟨⟨λ _ h=>(by cases h),λ _ h=>(by cases h)⟩,rfl,λ i pb tp=>by simp[PV.q]⟩
 unfold Kc
 split<;>first|exact x _|exact y _|exact z _ _ rfl
theorem dT(q:Ql)(cs:List PV)(k:Nat):Aa (E7 q cs) k=Kc q (Aa cs k)\/(cs.length<=k/\Aa (E7 q cs) k= .fl .undef):=by
 induction cs generalizing k with
 |nil=>exact .inr ⟨by simp,rfl⟩
 | cons x r ih=>cases k with
   |zero=>exact .inl rfl
   | succ k=>
     rcases ih k with h|⟨h1,h2⟩
     . exact .inl h
     . exact .inr ⟨by simp;omega,h2⟩
theorem dW(q:Ql)(cs:List PV):(E7 q cs).length=cs.length:=by
 induction cs with
 |nil=>rfl
 |cons x r ih=>simp[E7,ih]
section
variable {h0:Ab} {ω0 ω:Nat->W} {ρ:Nat->Nat} {st st' st1:PS} {us us':St} {X X':Cb}
theorem RS.blk(R:RS h0 ω0 ω ρ st us X){i:Nat}(hi:i<st.hp.length):∃ b,us.hp[ρ i]?=some b/\b.k= .own/\AV us.hp (ρ i)=b.cs:=by
 obtain⟨b,h1,h2⟩:=R.core.kind (ρ i) (.inr ⟨i,(R.hp i hi).1⟩);exact⟨b,h1,h2,by simp[AV,h1]⟩
theorem fm (R:RS h0 ω0 ω ρ st us X0){m:Bool}{n:Option Nat}{a:Opnd}{v:PV}(e:Hn m n (a.pev st.sl) st=some (v,st1)):Out2 (.loadH n a) us h0 ω0 v st1:=by
 unfold Hn at e;split at e
 . rename_i i o hx;obtain⟨hev,_⟩:=R.ev_ptr hx;split at e
   . rename_i hc;obtain⟨hi,hle⟩:=hc;obtain⟨b,hb1,hb2,hb3⟩:=R.blk hi;have hlen:(AV us.hp (ρ i)).length=(Ak st.hp i).length:=(R.hp i hi).2
     have hrd:rd us.hp (ρ i) o (n.getD 1)=some (((AV us.hp (ρ i)).drop o).take (n.getD 1)):=by
      simp[rd,hb1,hb2,hb3];rw[<- hb3,hlen];exact hle
     split at e
     . simp only [B4] at e;obtain⟨v',e,he⟩:=e;cases he
       have hB:∀ k,Ak (BR st.hp i (AS (Ak st.hp i) o (CK (segm (Ak st.hp i) o (n.getD 1))))) k=if k=i then AS (Ak st.hp i) o (CK (segm (Ak st.hp i) o (n.getD 1))) else Ak st.hp k:=by
        intro k;rw[JE];simp[hi]
       obtain⟨u,ω',h1,h2,_⟩:=R.loadmv (λ p=>A0 p) (λ _ _=>rfl) (st':={ st with sl:=clr (.h i) st.sl,hp:=BR st.hp i (AS (Ak st.hp i) o (CK (segm (Ak st.hp i) o (n.getD 1)))) }) (hd:=.h i) (cs:=Ak st.hp i) (ws:=AV us.hp (ρ i)) (by simp) (by simp)
        (λ p => rfl) (λ p=>by simp only[Ah,hB,Ac]) (λ hd' p h h'=>by
         cases hd' with
         |h k=>simp only[Ah,hB];rw[Af (λ h2=>h (by rw[h2]))]
         |s t=>exact absurd rfl (h' t)
         | _ => rfl) rfl hlen hle (R.ch i) R.lbx R.lb R.cb (λ k c=>by
           simp only[hB];split
           . rw[G8 _ _ _ _ (by rw[KB,EW hle];exact hle)];split
             . rw[NT];split
               . rfl
               . rw[C9];split
                 . exact R.ch i _
                 . rfl
             . exact R.ch i c
           . exact R.ch k c) (by simp[HQ]) (λ k=>by
           simp only[hB];split
           . rename_i hk;rw[hk,Gk]
           . rfl) e
       exact⟨u,us.bx,us.hp,ω',ρ,by simp only[Ad,hev,hrd,Hf,h1],h2⟩
     . simp only[B4] at e;obtain⟨v',e,he⟩:=e;cases he
       have hrc:∀ c,RC us.hp ω (.at (.h i) [c]) (Aa (Ak st.hp i) c) (get (AV us.hp (ρ i)) c):=λ c=>R.core.rc (.h i) [c]
       refine(fun⟨u,e1,e2⟩=>⟨u,us.bx,us.hp,ω,ρ,by simp only[Ad,hev,hrd,Hf,e1],e2⟩:_->_) (R.handL (hd:=.h i) (ws:=((AV us.hp (ρ i)).drop o).take (n.getD 1)) e (by rw[TG,EW hle];simp;omega) (λ c=>?_) (λ c=>?_) (λ c=>?_) (λ c=>?_))
       . rw[FU];refine Uk ?_;rw[C9];split
         . exact Yh (R.ch i _)
         . exact LV
       . rw[FU,C9,Gn];split
         . exact(hrc (o+c)).brw
         . exact .undef _ _
       . rw[FU];exact UN
       . rw[FU,C9];split
         . exact TW (by simp) (ZcY R i _)
         . exact λ i pb tp=>by simp[CD,PV.q]
   . cases e
 . rename_i q es j o hx;split at e
   . rename_i hc;obtain⟨c1,c2,c3⟩:=hc;simp only[B4] at e;obtain⟨v',e,he⟩:=e;cases he;obtain⟨hd,_,r⟩:=R.ev_one hx (λ _ h=>(by cases h)) (λ _ h=>(by cases h)) (λ _ h=>(by cases h));have hn:=R.ev_nobx a [0];rw[hx] at hn
     have hqx:∀ i,q.hd≠some (.x i):=by
      intro i h
      cases q with
      |bor a b t=>simp[Ql.hd] at h;subst h;exact hn i b t rfl
      |pre a b=>simp[Ql.hd] at h;subst h;exact hn i b true rfl
      |_=>simp[Ql.hd] at h
     generalize hu:a.ev us.sl=u at r
     cases r with
     | ep _ _ _ _ _ l o1 p b h1 hk hq hcc hw hle hr hp=>
       have hel:=Ue hw c1;rw[hel] at c2;have hjw:(j+1)*b.w<=es.length*b.w:=FZ _ c1;rw[Df,H6] at hjw
       have hrd:rd us.hp l p (n.getD 1)=some ((b.cs.drop p).take (n.getD 1)):=by
        rw[rd,h1];simp only;rw[Ac ⟨hk,by omega⟩]
       have hseg:(segm (Bb es j) o (n.getD 1)).length=n.getD 1:=EW (by rw[hel];exact c2)
       have hcell:∀ c,(c<n.getD 1/\Aa (E7 q (segm (Bb es j) o (n.getD 1))) c=Kc q (Aa es.flatten (j*b.w+(o+c)))/\get ((b.cs.drop p).take (n.getD 1)) c=get b.cs (o1+(j*b.w+(o+c)))/\j*b.w+(o+c)<es.length*b.w)\/Aa (E7 q (segm (Bb es j) o (n.getD 1))) c= .fl .undef:=by
        intro c;by_cases hcn:c<n.getD 1
        . refine .inl ⟨hcn,?_,?_,by omega⟩
          . rcases dT q (segm (Bb es j) o (n.getD 1)) c with h|⟨h,_⟩
            . rw[h,C9,Ac hcn,<- JH hw j (o+c) (by omega)]
            . rw[hseg] at h;omega
          . rw[Gn,Ac hcn,hp];congr 1;omega
        . rcases dT q (segm (Bb es j) o (n.getD 1)) c with h|⟨_,h⟩
          . exact .inr (by rw[Fl _ _ (by rw[dW,hseg];omega)])
          . exact .inr h
       refine(fun⟨u,e1,e2⟩=>⟨u,us.bx,us.hp,ω,ρ,by simp only[Ad,hu,hrd,Hf,e1],e2⟩:_->_) (R.handL (hd:=.x 0) (ws:=(b.cs.drop p).take (n.getD 1)) e (by rw[dW,hseg];simp;omega) (λ c=>?_) (λ c=>?_) (λ c=>?_) (λ c=>?_))
       . rcases hcell c with⟨_,h,_⟩|h
         . rw[h];exact(YH hqx).1
         . rw[h];exact LV
       . rcases hcell c with⟨_,h,h',h''⟩|h
         . rw[h,h'];exact(hr _ h'').und hq
         . rw[h];exact .undef _ _
       . rcases hcell c with⟨_,h,_⟩|h
         . rw[h];exact(YH hqx).2.1
         . rw[h];rfl
       . rcases hcell c with⟨_,h,_⟩|h
         . rw[h];exact(YH hqx).2.2
         . rw[h];exact λ i pb tp=>by simp[PV.q]
   . cases e
 . cases e
theorem xJ (R:RS h0 ω0 ω ρ st us X0) {n:Nat} {a x:Opnd} {v w:PV} {s:PS} {i o:Nat} (emo:Ag.mvOut x st=(w,s)) (hx:a.pev s.sl= .ptr i o)
 (e:(if i<s.hp.length/\w.cells.length=n/\o+n<=(Ak s.hp i).length/\B1 w.cells=true then
  some (PV.fl V.undef,{ s with sl:=if PV.ownL (segm (Ak s.hp i) o n)||w.own then clr (.h i) s.sl else s.sl,hp:=BR s.hp i (AS (Ak s.hp i) o w.cells) }) else none)=some (v,st1)):Out2 (.storeH n a x) us h0 ω0 v st1:=by
 obtain⟨ω1,R1⟩:=R.mv0 x
 rw[emo] at R1
 obtain⟨hev,_⟩:=R1.ev_ptr hx
 split at e
 . rename_i hcnd
   obtain⟨hi,c2,c3,c4⟩:=hcnd;cases e;subst c2;obtain⟨k1,k2,k3,k4⟩:=R1.hand_cells (i:=0) (v:=w) (u:=x.ev us.sl) rfl c4;obtain⟨b,hb1,hb2,hb3⟩:=R1.blk hi;have hlen:(AV us.hp (ρ i)).length=(Ak s.hp i).length:=(R1.hp i hi).2
   have hle:o+(x.ev us.sl).cells.length<=b.cs.length:=by
    have:=hlen;rw[hb3] at this;rw[k1,this];exact c3
   have hwr:wr us.hp (ρ i) o (x.ev us.sl).cells=some (us.hp.set (ρ i) { b with cs:=splice b.cs o (x.ev us.sl).cells }):=by
    rw[wr,hb1];simp only;rw[Ac ⟨hb2,hle⟩]
   have hB:∀ k,Ak (BR s.hp i (AS (Ak s.hp i) o w.cells)) k=if k=i then AS (Ak s.hp i) o w.cells else Ak s.hp k:=by
    intro k;rw[JE];simp[hi]
   have hlt:ρ i<us.hp.length:=Bj hb1
   have hset:∀ l,(us.hp.set (ρ i) { b with cs:=splice b.cs o (x.ev us.sl).cells })[l]?=if l=ρ i then some { b with cs:=splice b.cs o (x.ev us.sl).cells } else us.hp[l]?:=by
    intro l;rw[F0];by_cases h:ρ i=l
    . subst h;simp[hlt]
    . rw[Af h,Af (λ h'=>h h'.symm)]
   have hV:∀ k,k<s.hp.length->AV (us.hp.set (ρ i) { b with cs:=splice b.cs o (x.ev us.sl).cells }) (ρ k)=if k=i then splice (AV us.hp (ρ i)) o (x.ev us.sl).cells else AV us.hp (ρ k):=by
    intro k hk;simp only[AV,hset];by_cases h:k=i
    . subst h;simp[hb1]
    . have:ρ k≠ρ i:=by
       intro e;have h1:=(R1.hp k hk).1;rw[e,(R1.hp i hi).1] at h1;cases h1;exact h rfl
      rw[Af this,Af h]
   obtain⟨ω',h⟩:=R1.storemv (st':={ s with sl:=if PV.ownL (segm (Ak s.hp i) o w.cells.length)||w.own then clr (.h i) s.sl else s.sl,hp:=BR s.hp i (AS (Ak s.hp i) o w.cells) })
    (us':={ us with hp:=us.hp.set (ρ i) { b with cs:=splice b.cs o (x.ev us.sl).cells } }) (hd:=.h i) (cs:=Ak s.hp i) (ws:=AV us.hp (ρ i)) (o:=o) (by simp) (by simp) (λ k hk=>by cases hk;simp only[HQ];exact hi) c4 (λ p=>rfl)
    (λ p=>by simp only[Ah,hB,Ac];rw[hV i hi,Ac rfl])
    (λ hd' p h1 h2 h3=>by
     cases hd' with
     |b k=>exact .inl rfl
     |s t=>exact absurd rfl (h2 t)
     |x k=>exact absurd rfl (h3 k)
     | h k=>
       have hki:k≠i:=λ h=>h1 (by rw[h])
       simp only[Ah,hB,Af hki];rcases Br k s.hp.length with hk|hk
       . left;rw[hV k hk,Af hki]
       . right
         have hz:Ak s.hp k=[]:=by rw[CU,Bz hk];rfl
         rw[hz];unfold A8;split<;>rfl) rfl rfl hlen c3 (R1.ch i) (λ l hl=>by
     simp only[hset]
     rw[Af (λ h=>hl i (by rw[h];exact(R1.hp i hi).1))]) (λ l j e=>by
     simp only[hset];split
     . exact⟨_,rfl,hb2⟩
     . exact R1.core.kind l (.inr ⟨j,e⟩)) (by simp) R1.lbx R1.lb R1.cb (λ k c=>by
     simp only[hB];split
     . exact bF (R1.ch i) (λ c=>(Fe c4 c).1) c3 c
     . exact R1.ch k c) (by simp[HQ]) (λ k hk=>by
     simp only[hB];rw[hV k hk];split
     . rw[FN,Gk];exact hlen
     . exact(R1.hp k hk).2)
   exact WE (o:=.storeH w.cells.length a x) (by simp only[Ad,hev];rw[Ac ⟨k1,k2⟩,hwr];rfl) h
 . cases e
end
end
end Go.Ag
