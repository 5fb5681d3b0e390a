/- Part 3 of what FnPressed needs. No conditions. -/
import Derived.Test.YtbkpfpcnjpggaaaGreatLibB
namespace Go.Ag
set_option linter.unusedSimpArgs false
set_option linter.unusedVariables false
noncomputable section
section
variable {h0:Ad} {ω0 ω:Nat->W} {ρ ρ':Nat->Nat} {st st' st1:PS} {us us':St} {X X':CK}
def Cg(f:Ren)(n:Nat)(w0:W)(T:Nat->Bool)(ω:Nat->W):Nat->W:=λ l=>if l=n then w0 else if T l then .none else ren f (ω l)
def cT(f:Ren)(ω:Nat->W)(T:Nat->Bool)(A:Jb)(vu:PV×V)(hd':Hd)(p':List Nat):Prop:=
 ∃ hd p,vu=A hd p/\(vu.1.qo=true->(∀ l r,ω l= .own hd (p++r)->T l=false)/\∀ r,f hd (p++r)= .own hd' (p'++r)) /\
   ∀ hb pb tp,vu.1.q=some (.bor hb pb tp)->(∀ i,hb≠.x i)->(∀ l q,ω l= .own hb q->T l=false)/\(tp=true->f.still hb)/\f.soft hb
theorem bT {h:Ad} {ω:Nat->W} {f:Ren} {w0:W} {T:Nat->Bool} {h1:Ad} {blk:Blk} (hl:h1.length=h.length) (he:∀ l,T l=false->h1[l]?=h[l]?)
 (hT:∀ l,T l=true->∃ hd p,ω l= .own hd p) (hlt:∀ l,ω l≠.none->l<h.length):Tr h ω (h1++[blk]) (Cg f h.length w0 T ω) f (λ l=>T l=true):=by
 have old:∀ l,ω l≠.none->T l=false->(h1++[blk])[l]?=h[l]?/\Cg f h.length w0 T ω l=ren f (ω l):=by
  intro l hne ht;have:=hlt l hne;refine⟨by rw[Bx (by omega),he l ht],?_⟩;unfold Cg;rw[Ae (by omega),Ae (by simp[ht])]
 have nT:∀ l,(∀ hd p,ω l≠.own hd p)->T l=false:=by
  intro l hn
  cases ht:T l with
  |false=>rfl
  |true=>obtain⟨hd,p,e⟩:=hT l ht;exact absurd e (hn hd p)
 refine⟨λ l e=>?_,λ l hd p e ht=>?_,λ l i e=>?_⟩
 . obtain⟨a,b⟩:=old l (by simp[e]) (nT l (by simp[e]))
   exact⟨by rw[b,e];rfl,a⟩
 . obtain⟨a,b⟩:=old l (by simp[e]) (by simpa using ht)
   exact⟨by rw[b,e];rfl,a⟩
 . obtain⟨a,b⟩:=old l (by simp[e]) (nT l (by simp[e]))
   rw[b,e];rfl
theorem Core.notNone{h:Ad}{ω:Nat->W}{A:Jb}(c:Core h ω A)(l:Nat)(e:ω l≠.none):l<h.length:=by
 cases e1:ω l with
 |none=>exact absurd e1 e
 |frz=>exact c.lt l e1
 |own a q=>obtain⟨b,hb,_⟩:=c.kind l (.inl ⟨a,q,e1⟩);exact Ce hb
 |ptr i=>obtain⟨b,hb,_⟩:=c.kind l (.inr ⟨i,e1⟩);exact Ce hb
theorem RS.push (R:RS h0 ω0 ω ρ st us X) {f:Ren} (hf:f.Ok) {w0:W} {T:Nat->Bool} {h1:Ad} {blk:Blk} (hbk:blk.k= .own) (hl:h1.length=us.hp.length) (he:∀ l,T l=false->h1[l]?=us.hp[l]?) (hhp:us'.hp=h1++[blk])
 (hT:∀ l,T l=true->∃ hd p,ω l= .own hd p) (hw0:(∃ hd p,w0= .own hd p)\/∃ i,w0= .ptr i) (hfresh:∀ l,T l=false->Ag.ren f (ω l)≠w0)
 (hA:∀ hd p,cT f ω T (Ai ρ st us X) (Ai ρ' st' us' X' hd p) hd p\/CD (Ai ρ' st' us' X' hd p).1/\RC us'.hp (Cg f us.hp.length w0 T ω) (.at hd p) (Ai ρ' st' us' X' hd p).1 (Ai ρ' st' us' X' hd p).2)
 (hs:∀ t,AZ (Aa st'.sl t) (get us'.sl t)) (hx:∀ i,AZ (X' i).1 (X' i).2) (l1:st'.sl.length=us'.sl.length) (l2:st'.bx.length=us'.bx.length)
 (l3:∀ i,(Aj st'.bx i).length=(AW us'.bx i).length) (c1:∀ i c,(Aa (Aj st'.bx i) c).lay=true) (c2:∀ i c,(Aa (Aj st'.hp i) c).lay=true)
 (l4:∀ i,i<st'.hp.length->Cg f us.hp.length w0 T ω (ρ' i)= .ptr i/\(A5 us'.hp (ρ' i)).length=(Aj st'.hp i).length)
 (l5:∀ l i,Cg f us.hp.length w0 T ω l= .ptr i->i<st'.hp.length) (l6:∀ l i p,Cg f us.hp.length w0 T ω l= .own (.h i) p->i<st'.hp.length) :
 RS h0 ω0 (Cg f us.hp.length w0 T ω) ρ' st' us' X':=by
 have t:=bT (h:=us.hp) (ω:=ω) (f:=f) (w0:=w0) (T:=T) (blk:=blk) hl he hT R.core.notNone
 have val:∀ l,(l=us.hp.length/\Cg f us.hp.length w0 T ω l=w0)\/(l≠us.hp.length/\T l=true/\Cg f us.hp.length w0 T ω l= .none)\/(l≠us.hp.length/\T l=false/\Cg f us.hp.length w0 T ω l=Ag.ren f (ω l)):=by
  intro l;unfold Cg;by_cases h:l=us.hp.length
  . exact .inl ⟨h,by rw[Ac h]⟩
  . rw[Ae h]
    cases ht:T l with
    |true=>exact .inr (.inl ⟨h,rfl,rfl⟩)
    |false=>exact .inr (.inr ⟨h,rfl,rfl⟩)
 have uni:∀ l l',(∀ hd p,Cg f us.hp.length w0 T ω l= .own hd p->Cg f us.hp.length w0 T ω l'= .own hd p->l=l')/\∀ i,Cg f us.hp.length w0 T ω l= .ptr i->Cg f us.hp.length w0 T ω l'= .ptr i->l=l':=by
  intro l l';rcases val l with⟨a,b⟩|⟨a,b,c⟩|⟨a,b,c⟩
  . rcases val l' with⟨a',b'⟩|⟨a',b',c'⟩|⟨a',b',c'⟩
    . exact⟨λ _ _ _ _=>(by rw[a,a']),λ _ _ _=>(by rw[a,a'])⟩
    . exact⟨λ _ _ _ e=>(by rw[c'] at e;cases e),λ _ _ e=>(by rw[c'] at e;cases e)⟩
    . refine⟨λ hd p e e'=>?_,λ i e e'=>?_⟩
      . rw[b] at e;rw[c'] at e';exact absurd (e'.trans e.symm) (hfresh l' b')
      . rw[b] at e;rw[c'] at e';exact absurd (e'.trans e.symm) (hfresh l' b')
  . exact⟨λ _ _ e=>(by rw[c] at e;cases e),λ _ e=>(by rw[c] at e;cases e)⟩
  . rcases val l' with⟨a',b'⟩|⟨a',b',c'⟩|⟨a',b',c'⟩
    . refine⟨λ hd p e e'=>?_,λ i e e'=>?_⟩
      . rw[c] at e;rw[b'] at e';exact absurd (e.trans e'.symm) (hfresh l b)
      . rw[c] at e;rw[b'] at e';exact absurd (e.trans e'.symm) (hfresh l b)
    . exact⟨λ _ _ _ e=>(by rw[c'] at e;cases e),λ _ _ e=>(by rw[c'] at e;cases e)⟩
    . refine⟨λ hd p e e'=>?_,λ i e e'=>?_⟩
      . rw[c] at e;rw[c'] at e';obtain⟨x,q,e1,e2⟩:=D3 e;obtain⟨x',q',e1',e2'⟩:=D3 e';obtain⟨rfl,rfl⟩:=hf.inj x q x' q' hd p e2 e2';exact R.core.inj l l' x q e1 e1'
      . rw[c] at e;rw[c'] at e';exact R.core.injp l l' i (Es hf e) (Es hf e')
 have hlen:us'.hp.length=us.hp.length+1:=by rw[hhp];simp[hl]
 have oldb:∀ l,ω l≠.none->T l=false->us'.hp[l]?=us.hp[l]?:=by
  intro l hne ht;have:=R.core.notNone l hne;rw[hhp,Bx (by omega),he l ht]
 refine⟨⟨λ hd p=>?_,λ l l' hd p=>(uni l l').1 hd p,λ l l' i=>(uni l l').2 i,λ l e=>?_,λ l e=>?_⟩,hs,hx,l1,l2,l3,c1,c2,l4,l5,l6,⟨?_,λ l hl' e=>?_,λ l hl' e=>?_,λ l i e=>?_⟩,λ hd p i pb tp=>?_⟩
 . rcases hA hd p with⟨a,b,e,ho,hb⟩|h
   . have hnx:=R.nx a b;rw[e] at ho hb ⊢;rw[hhp]
     exact(R.core.rc a b).tr t (λ e'=>⟨λ l r h=>by simp[(ho e').1 l r h],(ho e').2⟩) (λ hb' pb tp e'=>by
      obtain⟨x,y,z⟩:=hb hb' pb tp e' (λ i h=>by subst h;exact hnx i pb tp e')
      exact⟨λ l q h=>by simp[x l q h],y,z⟩)
   . exact h.2
 . rcases val l with⟨a,b⟩|⟨a,b,c⟩|⟨a,b,c⟩
   . exact⟨blk,by rw[hhp,a,<- hl];simp,hbk⟩
   . rw[c] at e;rcases e with⟨_,_,e⟩|⟨_,e⟩<;>cases e
   . rw[c] at e
     have:(∃ hd p,ω l= .own hd p)\/∃ i,ω l= .ptr i:=by
      rcases e with⟨hd,p,e⟩|⟨i,e⟩
      . obtain⟨x,q,e1,_⟩:=D3 e;exact .inl ⟨x,q,e1⟩
      . exact .inr ⟨i,Es hf e⟩
     obtain⟨b',h1',h2'⟩:=R.core.kind l this;exact⟨b',by rw[oldb l (by rcases this with⟨_,_,h⟩|⟨_,h⟩<;>simp[h]) b];exact h1',h2'⟩
 . rw[hlen]
   rcases val l with⟨a,b⟩|⟨a,b,c⟩|⟨a,b,c⟩
   . omega
   . rw[c] at e;cases e
   . have:ω l≠.none:=by intro h;rw[c,h] at e;cases e
     have:=R.core.notNone l this;omega
 . rw[hlen];have:=R.fr.len;omega
 . obtain⟨a,b⟩:=R.fr.old l hl' e
   have hlt:l<us.hp.length:=by have:=R.fr.len;omega
   have hnT:T l=false:=by
    cases ht:T l with
    |false=>rfl
    | true=>
      obtain⟨hd,p,e'⟩:=hT l ht;rw[e'] at b;rcases e with e|e<;>rw[e] at b<;>cases b
   refine⟨by rw[hhp,Bx (by omega),he l hnT,a],?_⟩;unfold Cg;rw[Ae (by omega),Ae (by simp[hnT]),b];rcases e with e|e<;>rw[e]<;>rfl
 . have hlt:l<us.hp.length:=by have:=R.fr.len;omega
   unfold Cg at e;rw[Ae (by omega)] at e;split at e
   . cases e
   . exact(R.fr.ren f).new l hl' e
 . have e1:=R.fr.ptr l i e
   have hlt:=R.core.notNone l (by rw[e1];simp)
   have hnT:T l=false:=by
    cases ht:T l with
    |false=>rfl
    |true=>obtain⟨hd,p,e'⟩:=hT l ht;rw[e1] at e';cases e'
   unfold Cg;rw[Ae (by omega),Ae (by simp[hnT]),e1];rfl
 . rcases hA hd p with⟨a,b,e,_⟩|h
   . rw[e];exact R.nx a b i pb tp
   . exact h.1 i pb tp
def Ja:Nat->Bool:=λ _=>false
theorem KB {f:Ren} {A:Jb} {vu:PV×V} {hd:Hd} {p:List Nat} {T:Nat->Bool} (e:vu=A hd p) (hT:∀ l q,ω l= .own hd q->T l=false) (h:vu.1.qo=true->f.still hd)
 (hb:∀ hb pb tp,vu.1.q=some (.bor hb pb tp)->(∀ i,hb≠.x i)->(∀ l q,ω l= .own hb q->T l=false)/\f.still hb):cT f ω T A vu hd p:=
 ⟨hd,p,e,λ e=>⟨λ l r=>hT l _,λ _=>h e _⟩,λ hb' pb tp e h'=>⟨(hb hb' pb tp e h').1,λ _=>(hb hb' pb tp e h').2,(hb hb' pb tp e h').2.soft⟩⟩
theorem RS.newptr{v:PV}{u:V}(R:RS h0 ω0 ω ρ st us (X1 v u))(hc:BJ v.cells=true) :
 ∃ ω' ρ',RS h0 ω0 ω' ρ' { st with sl:=clr (.h st.hp.length) st.sl,hp:=st.hp++[v.cells] } { us with hp:=us.hp++[⟨.own,1,u.cells⟩] } (X1 (.ptr st.hp.length 0) (.ptr us.hp.length 0)):=by
 obtain⟨k1,k2,k3,k4⟩:=R.hand_cells (i:=0) (v:=v) (u:=u) rfl hc
 have hB:∀ k,Aj (st.hp++[v.cells]) k=if k=st.hp.length then v.cells else Aj st.hp k:=by
  intro k;rw[Dx,Dx];by_cases h:k=st.hp.length
  . subst h;simp
  . rw[Ae h];rcases BN k st.hp.length with h1|h1
    . rw[Bx h1]
    . rw[BV (by simp;omega),BV h1]
 have hρ:∀ k,k<st.hp.length->ρ k<us.hp.length:=λ k hk=>by obtain⟨b,h,_⟩:=R.blk hk;exact Ce h
 have hV:∀ k,k<st.hp.length->A5 (us.hp++[(⟨.own,1,u.cells⟩:Blk)]) (ρ k)=A5 us.hp (ρ k):=λ k hk=>by simp only[A5];rw[Bx (hρ k hk)]
 have hN:A5 (us.hp++[(⟨.own,1,u.cells⟩:Blk)]) us.hp.length=u.cells:=by simp[A5]
 have hfresh:∀ l,Ja l=false->Ag.ren (Ren.mv (.x 0) (.h st.hp.length)) (ω l)≠.ptr st.hp.length:=λ l _ e=>by
  have:=R.bdp l _ (Es (Ren.mv_ok _ _) e);omega
 have pw:∀ l,l≠us.hp.length->Cg (Ren.mv (.x 0) (.h st.hp.length)) us.hp.length (.ptr st.hp.length) Ja ω l=Ag.ren (Ren.mv (.x 0) (.h st.hp.length)) (ω l):=λ l h=>by simp[Cg,h,Ja]
 refine⟨_,upd ρ st.hp.length us.hp.length,RS.push (X':=X1 (.ptr st.hp.length 0) (.ptr us.hp.length 0)) R (Ren.mv_ok (.x 0) (.h st.hp.length)) (w0:=.ptr st.hp.length) (T:=Ja) (h1:=us.hp) (blk:=⟨.own,1,u.cells⟩) rfl rfl (λ _ _=>rfl) rfl (λ l h=>by cases h) (.inr ⟨_,rfl⟩) hfresh (λ hd' p=>?_) (λ t=>?_) (λ j=>?_) (by simp[Gs,R.lsl]) R.lbx R.lb R.cb (λ k c=>?_) (λ i hi=>?_) (λ l i e=>?_) (λ l i p e=>?_)⟩
 . cases hd' with
   | x j =>
     refine .inr ?_;by_cases hj:j=0
     . subst hj
       have hq:∀ p,((PV.ptr st.hp.length 0).fcell p= .ptr st.hp.length 0/\(V.ptr us.hp.length 0).fcell p= .ptr us.hp.length 0)\/(PV.ptr st.hp.length 0).fcell p= .fl .undef:=by
        intro p
        match p with
        |[0]=>exact .inl ⟨rfl,rfl⟩
        |[]=>exact .inr rfl
        |(_+1)::_=>exact .inr rfl
        |0::_::_=>exact .inr rfl
       show CD ((PV.ptr st.hp.length 0).fcell p)/\RC _ _ _ ((PV.ptr st.hp.length 0).fcell p) ((V.ptr us.hp.length 0).fcell p);rcases hq p with⟨e1,e2⟩|e
       . rw[e1,e2];exact⟨λ i pb tp=>by simp[PV.q],.ptr _ _ _ _ _ (by simp[Cg])⟩
       . rw[e];exact⟨λ i pb tp=>by simp[PV.q],.undef _ _⟩
     . exact AS (GA j hj p)
   | s t=>
     simp only[Ai,F3];split
     . exact .inr (DI (A4 p))
     . rename_i hbor
       have hbor:(Aa st.sl t).bor (.h st.hp.length)=false:=by simpa using hbor
       exact .inl (KB rfl (λ _ _ _=>rfl) (λ _=>Ren.mv_still (by simp) (by simp)) λ hb pb tp e hx=>⟨λ _ _ _=>rfl,Ren.mv_still (hx 0) (Ef (v:=Aa st.sl t) hbor (p:=p) e)⟩)
   |b i=>exact .inl (KB rfl (λ _ _ _=>rfl) (λ _=>Ren.mv_still (by simp) (by simp)) λ hb pb tp e'=>absurd e' (R.nobor_b i p hb pb tp))
   | h i =>
     by_cases hi:i=st.hp.length
     . subst hi
       have:Ai (upd ρ st.hp.length us.hp.length) { st with sl:=clr (.h st.hp.length) st.sl,hp:=st.hp++[v.cells] } { us with hp:=us.hp++[⟨.own,1,u.cells⟩] } (X1 (.ptr st.hp.length 0) (.ptr us.hp.length 0)) (.h st.hp.length) p=A9 v.cells u.cells p:=by
        simp only[Ai,hB,Ac,CI,hN]
       rw[this]
       match p with
       |[]=>exact .inr (AS rfl)
       |_::_::_=>exact .inr (AS rfl)
       |[c]=>exact .inl ⟨.x 0,[c],(k4 c).symm,λ _=>⟨λ _ _ _=>rfl,λ r=>by simp[Ren.mv]⟩,λ hb pb tp e'=>absurd e' (CR (Gn hc c).1 _ _ _)⟩
     . rcases BN i st.hp.length with hlt|hge
       . have:Ai (upd ρ st.hp.length us.hp.length) { st with sl:=clr (.h st.hp.length) st.sl,hp:=st.hp++[v.cells] } { us with hp:=us.hp++[⟨.own,1,u.cells⟩] } (X1 (.ptr st.hp.length 0) (.ptr us.hp.length 0)) (.h i) p=Ai ρ st us (X1 v u) (.h i) p:=by
          simp only[Ai,hB,Ae hi,DJ _ _ _ _ hi,hV i hlt]
         rw[this];exact .inl (KB rfl (λ _ _ _=>rfl) (λ _=>Ren.mv_still (by simp) (by simpa using hi)) λ hb pb tp e'=>absurd e' (R.nobor_h i p hb pb tp))
       . refine .inr (AS ?_)
         have hz:Aj st.hp i=[]:=by rw[Dx,BV hge];rfl
         simp only[Ai,hB,Ae hi,hz];unfold A9;split<;>rfl
 . simp only[F3];split
   . exact Bd _
   . exact R.sh t
 . by_cases hj:j=0
   . subst hj;exact⟨λ _ h=>(by cases h),λ _ h=>(by cases h)⟩
   . rw[D8 _ _ j hj];exact Bd _
 . simp only[hB];split
   . exact(Gn hc c).1
   . exact R.ch k c
 . simp only[Cq,AH,AJ] at hi
   simp only[hB];by_cases h:i=st.hp.length
   . subst h;rw[CI,Ac rfl,hN];exact⟨by simp[Cg],k1⟩
   . have hlt:i<st.hp.length:=by omega
     rw[DJ _ _ _ _ h,Ae h,hV i hlt,pw _ (by have:=hρ i hlt;omega),(R.hp i hlt).1];exact⟨rfl,(R.hp i hlt).2⟩
 . simp only[Cq,AH,AJ]
   by_cases h:l=us.hp.length
   . subst h;simp[Cg] at e;omega
   . rw[pw l h] at e;have:=R.bdp l i (Es (Ren.mv_ok _ _) e);omega
 . simp only[Cq,AH,AJ]
   by_cases h:l=us.hp.length
   . subst h;simp[Cg] at e
   . rw[pw l h] at e;obtain⟨a,q,e1,e2⟩:=D3 e;unfold Ren.mv at e2;split at e2
     . simp at e2;omega
     . split at e2
       . cases e2
       . simp at e2;have:=R.bdh l i q (by rw[e1,e2.1]);omega
end
theorem y8{cs:List PV}(h:BJ cs=true)(hd:Hd):PV.borL hd cs=false:=by
 cases e:PV.borL hd cs with
 |false=>rfl
 | true=>
   obtain⟨c,hc⟩:=(WE hd cs).1 e;have:=(Gn h c).1;generalize Aa cs c=v at hc this
   cases v with
   |sl q es=>cases q<;>first|(simp[PV.bor] at hc;done)|(simp[PV.lay] at this;done)
   |fl=>simp[PV.bor] at hc
   |_=>simp[PV.lay] at this
theorem zz{cs:List PV}:BJ cs=true↔∀ c,c<cs.length->(Aa cs c).cell=true:=by
 induction cs with
 |nil=>simp[BJ]
 | cons x r ih=>
   simp only[BJ,Ah,ih];constructor
   . rintro⟨h1,h2⟩ c hc
     cases c with
     |zero=>exact h1
     |succ c=>exact h2 c (by simpa using hc)
   . exact λ h=>⟨h 0 (by simp),λ c hc=>h (c+1) (by simpa using hc)⟩
theorem xe{cs vs:List PV}{o:Nat}(h1:BJ cs=true)(h2:BJ vs=true)(hle:o+vs.length<=cs.length):BJ (AM cs o vs)=true:=by
 rw[zz] at h1 h2 ⊢;intro c hc;rw[Hq] at hc;rw[Iv _ _ _ _ hle];split
 . exact h2 _ (by omega)
 . exact h1 _ hc
def Ren.deep:Ren:=λ hd p=>if hd= .x 0 then (match p with|[]=>.frz|c::r=>.own (.x 0) (0::c::r)) else .own hd p
theorem Ren.deep_ok:Ren.deep.Ok:=by
 refine⟨λ hd p hd' p' x c e e'=>?_,λ hd p=>?_⟩
 . unfold Ren.deep at e e';split at e
   . rename_i h1;split at e
     . cases e
     . cases e;split at e'
       . rename_i h2;split at e'
         . cases e'
         . simp at e';exact⟨h1.trans h2.symm,by rw[e'.1,e'.2]⟩
       . rename_i h2;simp at e';exact absurd e'.1 h2
   . rename_i h1;cases e;split at e'
     . split at e'
       . cases e'
       . simp at e';exact absurd e'.1.symm h1
     . simp at e';exact⟨e'.1.symm,e'.2.symm⟩
 . unfold Ren.deep;split
   . split
     . exact .inl rfl
     . exact .inr ⟨_,_,rfl⟩
   . exact .inr ⟨_,_,rfl⟩
theorem Ren.deep_still{c:Hd}(h:c≠.x 0):Ren.deep.still c:=λ p=>by simp[Ren.deep,h]
section
variable {h0:Ad} {ω0 ω:Nat->W} {ρ ρ':Nat->Nat} {st st' st1:PS} {us us':St} {X X':CK}
theorem ZaJ(R:RS h0 ω0 ω ρ st us X0){zs:List V}(hz:zs.all V.flat=true):Out2 (.allocH zs) us h0 ω0 (.ptr st.hp.length 0) { st with sl:=clr (.h st.hp.length) st.sl,hp:=st.hp++[zs.map BG] }:=by
 obtain⟨ω',ρ',h⟩:=(R.handz hz).newptr (Pm hz);exact⟨_,_,_,ω',ρ',by simp only[Af];rw[Ac (O6 hz)];rfl,h⟩
theorem ZcI (R:RS h0 ω0 ω ρ st us X0) {n:Nat} {x:Opnd} {v:PV}
 (e:(match Ag.mvOut x st with|(v,st)=>if v.cells.length=n/\BJ v.cells=true then some (PV.ptr st.hp.length 0,{ st with sl:=clr (.h st.hp.length) st.sl,hp:=st.hp++[v.cells] }) else none)=some (v,st1)):Out2 (.boxH n x) us h0 ω0 v st1:=by
 obtain⟨ω1,R1⟩:=R.mv0 x
 generalize Ag.mvOut x st=mo at e R1
 obtain⟨w,s⟩:=mo
 simp only at e R1
 split at e
 . rename_i hc
   obtain⟨c2,c3⟩:=hc;cases e;obtain⟨k1,k2,_,_⟩:=R1.hand_cells (i:=0) (v:=w) (u:=x.ev us.sl) rfl c3;obtain⟨ω',ρ',h⟩:=R1.newptr c3;exact⟨_,_,_,ω',ρ',by simp only[Af];rw[Ac ⟨by rw[k1,c2],k2⟩],h⟩
 . cases e
theorem RS.part{cs:List PV}{ws:List V}(R:RS h0 ω0 ω ρ st us (X1 (.agg cs) (.agg ws)))(hc:BJ cs=true)(x:Opnd){off size:Nat}(h1:(Ag.mvOut x st).1.cells.length=size)(h2:off+size<=cs.length)(h3:BJ (Ag.mvOut x st).1.cells=true) :
 (x.ev us.sl).cells.length=size/\off+size<=ws.length/\(x.ev us.sl).cells.all V.cell=true /\
  ∃ ω',RS h0 ω0 ω' ρ (Ag.mvOut x st).2 us (X1 (.agg (AM cs off (Ag.mvOut x st).1.cells)) (.agg (splice ws off (x.ev us.sl).cells))):=by
 obtain⟨ω1,R1⟩:=R.mvOut x 1 (λ p=>by rw[D8 _ _ 1 (by simp)];exact A4 p) (λ n j=>by
  by_cases hj:j=0
  . subst hj;exact y8 hc _
  . rw[D8 _ _ j hj];rfl)
 generalize Ag.mvOut x st=mo at R1 h1 h3 ⊢
 obtain⟨w,s⟩:=mo
 simp only at R1 h1 h3 ⊢
 obtain⟨k1,k2,k3,k4⟩:=R1.hand_cells (i:=1) (v:=w) (u:=x.ev us.sl) (by simp[Xs]) h3
 have hl:ws.length=cs.length:=by
  have:=R1.shx 0;simp only[Xs] at this;obtain⟨ws',e,hl⟩:=this;cases e;exact hl
 subst h1
 have hx0:∀ c,Ai ρ s us (Xs (X1 (.agg cs) (.agg ws)) 1 w (x.ev us.sl)) (.x 0) [c]=(Aa cs c,get ws c):=λ c=>rfl
 refine⟨k1,by omega,k2,_,RS.ren (X':=X1 (.agg (AM cs off w.cells)) (.agg (splice ws off (x.ev us.sl).cells))) R1 (Ren.seg_ok (a:=.x 1) (o:=0) (n:=w.cells.length) (b:=.x 0) (o':=off) (by simp)) (dg (by simp)) (λ hd' p=>?_) rfl R1.sh (λ j=>?_) R1.lsl R1.lbx R1.lb R1.cb R1.ch rfl (λ _=>rfl)⟩
 . cases hd' with
   | x j =>
     by_cases hj:j=0
     . subst hj
       match p with
       |[]=>exact .inr (AS rfl)
       |_::_::_=>exact .inr (AS rfl)
       | [c]=>
         have:Ai ρ s us (X1 (.agg (AM cs off w.cells)) (.agg (splice ws off (x.ev us.sl).cells))) (.x 0) [c]=(Aa (AM cs off w.cells) c,get (splice ws off (x.ev us.sl).cells) c):=rfl;rw[this,Iv _ _ _ _ h2,V1 _ _ _ _ (by omega),k1];split
         . rename_i hcc;refine .inl ⟨.x 1,[c-off],(k4 _).symm,λ _ r=>?_,λ hb pb tp e'=>absurd e' (CR (Gn h3 _).1 _ _ _)⟩;simp only[Eg,CW];rw[Ren.seg_mv (by omega) (by omega),show c-off-0+off=c by omega]
         . rename_i hcc;refine .inl ⟨.x 0,[c],(hx0 c).symm,λ _ r=>?_,λ hb pb tp e'=>absurd e' (CR (Gn hc _).1 _ _ _)⟩;exact Ren.seg_rest_b (by simp) (by omega) r
     . exact .inr (AS (GA j hj p))
   |s t=>exact .inl (Bl rfl (λ _=>Ren.seg_still (by simp) (by simp)) λ hb pb tp e hx=>Ren.seg_still (hx 1) (hx 0))
   |b i=>exact .inl (Bl rfl (λ _=>Ren.seg_still (by simp) (by simp)) λ hb pb tp e'=>absurd e' (R1.nobor_b i p hb pb tp))
   |h i=>exact .inl (Bl rfl (λ _=>Ren.seg_still (by simp) (by simp)) λ hb pb tp e'=>absurd e' (R1.nobor_h i p hb pb tp))
 . by_cases hj:j=0
   . subst hj;exact⟨_,rfl,by rw[GZ,Hq];exact hl⟩
   . rw[D8 _ _ j hj];exact Bd _
theorem ZT:∀ (ps:List (Nat×Nat×Opnd)) {ω:Nat->W} {st st1:PS} {cs cs1:List PV} {ws:List V},RS h0 ω0 ω ρ st us (X1 (.agg cs) (.agg ws))->BJ cs=true->EO cs ps st=some (cs1,st1) ->
 ∃ ws1 ω',Fe us.sl ws ps=some ws1/\BJ cs1=true/\RS h0 ω0 ω' ρ st1 us (X1 (.agg cs1) (.agg ws1))
 | [],ω,st,st1,cs,cs1,ws,R,hc,e=>by
   simp only[EO,Ak,Al] at e
   obtain⟨rfl,rfl⟩:=e
   exact⟨ws,ω,rfl,hc,R⟩
 | (off,size,x)::r,ω,st,st1,cs,cs1,ws,R,hc,e=>by
   simp only[EO] at e
   split at e
   . rename_i h
     obtain⟨h1,h2,h3⟩:=h
     obtain⟨a1,a2,a3,ω',R'⟩:=R.part hc x h1 h2 h3
     obtain⟨ws1,ω'',b1,b2,b3⟩:=ZT r R' (xe hc h3 (by omega)) e
     exact⟨ws1,ω'',by simp only[Fe];rw[Ac ⟨a1,a2,a3⟩];exact b1,b2,b3⟩
   . cases e
theorem Zcl (R:RS h0 ω0 ω ρ st us X0) {zs:List V} {ps:List (Nat×Nat×Opnd)} {v:PV}
 (e:(if zs.all V.flat=true then (EO (zs.map BG) ps st).map fun(cs,st)=>(PV.agg cs,st) else none)=some (v,st1)):Out2 (.build zs ps) us h0 ω0 v st1:=by
 split at e
 . rename_i hz
   simp only[B8] at e;obtain⟨⟨cs,s⟩,e1,e2⟩:=e;cases e2;obtain⟨ws1,ω',h1,h2,h3⟩:=ZT ps (R.handz hz) (Pm hz) e1;exact⟨_,_,_,ω',ρ,by simp only[Af];rw[Ac (O6 hz),h1];rfl,h3⟩
 . cases e
theorem RS.newslice{cs:List PV}{ws:List V}(R:RS h0 ω0 ω ρ st us (X1 (.agg cs) (.agg ws)))(hc:BJ cs=true){es:List (List PV)}{w:Nat}(hes:es≠[])(hw:∀ e∈es,e.length=w)(hfl:∀ k,k<es.length*w->Aa es.flatten k=Aa cs k)(hl:es.length*w<=ws.length) :
 ∃ ω',RS h0 ω0 ω' ρ st { us with hp:=us.hp++[⟨.own,w,ws⟩] } (X1 (.sl .own es) (.slice us.hp.length 0 es.length)):=by
 have hρ:∀ k,k<st.hp.length->ρ k<us.hp.length:=λ k hk=>by obtain⟨b,h,_⟩:=R.blk hk;exact Ce h
 have hV:∀ k,k<st.hp.length->A5 (us.hp++[(⟨.own,w,ws⟩:Blk)]) (ρ k)=A5 us.hp (ρ k):=λ k hk=>by simp only[A5];rw[Bx (hρ k hk)]
 have hfresh:∀ l,Ja l=false->Ag.ren Ren.deep (ω l)≠.own (.x 0) [0]:=λ l _ e=>by
  obtain⟨a,q,_,e2⟩:=D3 e;unfold Ren.deep at e2;split at e2
  . split at e2
    . cases e2
    . simp at e2
  . rename_i h;simp at e2;exact h e2.1
 have pw:∀ l,l≠us.hp.length->Cg Ren.deep us.hp.length (.own (.x 0) [0]) Ja ω l=Ag.ren Ren.deep (ω l):=λ l h=>by simp[Cg,h,Ja]
 have t:=bT (h:=us.hp) (ω:=ω) (f:=Ren.deep) (w0:=.own (.x 0) [0]) (T:=Ja) (blk:=⟨.own,w,ws⟩) (h1:=us.hp) rfl (λ _ _=>rfl) (λ l h=>by cases h) R.core.notNone
 refine⟨_,RS.push (X':=X1 (.sl .own es) (.slice us.hp.length 0 es.length)) R Ren.deep_ok (w0:=.own (.x 0) [0]) (T:=Ja) (h1:=us.hp) (blk:=⟨.own,w,ws⟩) rfl rfl (λ _ _=>rfl) rfl (λ l h=>by cases h) (.inl ⟨_,_,rfl⟩) hfresh (λ hd' p=>?_) R.sh (λ j=>?_) R.lsl R.lbx R.lb R.cb R.ch (λ i hi=>?_) (λ l i e=>?_) (λ l i p e=>?_)⟩
 . cases hd' with
   | x j =>
     refine .inr ?_;by_cases hj:j=0
     . subst hj
       match p with
       |[]=>exact AS rfl
       |(_+1)::_=>exact AS rfl
       |0::_::_=>exact AS rfl
       | [0] =>
         refine⟨λ i pb tp=>by simp[Ai,X1,PV.fcell,PV.q],?_⟩
         refine RC.sl _ .own es us.hp.length 0 es.length ⟨.own,w,ws⟩ (by simp) (by simp) ⟨by simp[Cg],rfl,rfl⟩ (λ _ _=>hes) rfl hw (by simpa using hl) λ k hk=>?_
         rw[hfl k hk,Cf];have r:=R.core.rc (.x 0) [k];have r':RC us.hp ω (.at (.x 0) [k]) (Aa cs k) (get ws k):=r;have hlay:=(Gn hc k).1
         have r2:RC us.hp ω (.inn (.x 0) [k]) (Aa cs k) (get ws k):=by
          generalize Aa cs k=a at r' hlay;generalize get ws k=b at r'
          cases r' with
          |undef=>exact .undef _ _
          |v _ _ hx=>exact .v _ _ hx
          |nil=>exact .nil _ _
          | sl _ q es' l o n b h1 hk hc hne hn hw hle hr=>
            cases q with
            |bor=>simp[PV.lay] at hlay
            |pre=>simp[PV.lay] at hlay
            |frz=>exact .sl _ _ _ _ _ _ b h1 hk hc hne hn hw hle hr
            |own=>exact .sl _ _ _ _ _ _ b h1 hk hc hne hn hw hle hr
            |ownw=>exact .sl _ _ _ _ _ _ b h1 hk hc hne hn hw hle hr
          |ep=>simp[PV.lay] at hlay
          |box=>simp[PV.lay] at hlay
          |ptr=>simp[PV.lay] at hlay
         exact r2.inn t (λ l r _=>by simp[Ja]) (λ r=>by simp[Ren.deep])
     . exact AS (GA j hj p)
   |s t=>exact .inl (KB rfl (λ _ _ _=>rfl) (λ _=>Ren.deep_still (by simp)) λ hb pb tp e hx=>⟨λ _ _ _=>rfl,Ren.deep_still (hx 0)⟩)
   |b i=>exact .inl (KB rfl (λ _ _ _=>rfl) (λ _=>Ren.deep_still (by simp)) λ hb pb tp e'=>absurd e' (R.nobor_b i p hb pb tp))
   | h i=>
     rcases BN i st.hp.length with hlt|hge
     . have:Ai ρ st { us with hp:=us.hp++[⟨.own,w,ws⟩] } (X1 (.sl .own es) (.slice us.hp.length 0 es.length)) (.h i) p=Ai ρ st us (X1 (.agg cs) (.agg ws)) (.h i) p:=by simp only[Ai,hV i hlt]
       rw[this];exact .inl (KB rfl (λ _ _ _=>rfl) (λ _=>Ren.deep_still (by simp)) λ hb pb tp e'=>absurd e' (R.nobor_h i p hb pb tp))
     . refine .inr (AS ?_)
       have hz:Aj st.hp i=[]:=by rw[Dx,BV hge];rfl
       simp only[Ai,hz];unfold A9;split<;>rfl
 . by_cases hj:j=0
   . subst hj;exact⟨λ _ h=>(by cases h),λ _ h=>(by cases h)⟩
   . rw[D8 _ _ j hj];exact Bd _
 . rw[pw _ (by have:=hρ i hi;omega),(R.hp i hi).1,hV i hi]
   exact⟨rfl,(R.hp i hi).2⟩
 . by_cases h:l=us.hp.length
   . subst h;simp[Cg] at e
   . rw[pw l h] at e;exact R.bdp l i (Es Ren.deep_ok e)
 . by_cases h:l=us.hp.length
   . subst h;simp[Cg] at e
   . rw[pw l h] at e;obtain⟨a,q,e1,e2⟩:=D3 e;unfold Ren.deep at e2;split at e2
     . split at e2<;>simp at e2
     . simp at e2;exact R.bdh l i q (by rw[e1,e2.1])
theorem bC{z:List V}(hz:z.all V.flat=true):∀ n,(DE z n).all V.flat=true
 |0=>rfl
 |n+1=>by rw[DE,List.all_append,hz,bC hz n];rfl
theorem kE (z:List V):∀ n,(DE z n).length=n*z.length
 |0=>by simp[DE]
 |n+1=>by rw[DE,Cq,kE z n,EJ];omega
theorem kq(z:List V):∀ n,(List.replicate n (z.map BG)).flatten=(DE z n).map BG
 |0=>rfl
 |n+1=>by rw[List.replicate_succ,JD,kq z n,DE,Gx]
theorem zk(R:RS h0 ω0 ω ρ st us X0){w:Nat}{z:List V}{len:Opnd}{n:Int}(hl:len.pev st.sl= .fl (.int .i64 n))(h1:0<=n)(h2:z.length=w)(h3:0<w)(h4:z.all V.flat=true)(h5:Av (n.toNat*w)) :
 Out2 (.mkSlice w z len) us h0 ω0 (.sl .own (List.replicate n.toNat (z.map BG))) st:=by
 have hev:=(R.ev_fl hl (by simp)).1
 by_cases hn:n=0
 . subst hn
   refine⟨.nils,us.bx,us.hp,ω,ρ,by simp only[Af,hev];rw[Ac ⟨h1,h2,h3,O6 h4,h5⟩,Ac trivial],?_⟩;refine R.handx ⟨λ _ h=>(by cases h),λ _ h=>(by cases h)⟩ (λ p=>?_) (λ p=>?_)
   . match p with
     |[0]=>exact .nil _ _
     |[]=>exact .undef _ _
     |(_+1)::_=>exact .undef _ _
     |0::_::_=>exact .undef _ _
   . match p with
     |[0]=>exact λ i pb tp=>by simp[PV.fcell,PV.q]
     |[]=>exact λ i pb tp=>by simp[PV.fcell,PV.q]
     |(_+1)::_=>exact λ i pb tp=>by simp[PV.fcell,PV.q]
     |0::_::_=>exact λ i pb tp=>by simp[PV.fcell,PV.q]
 . have hne:List.replicate n.toNat (z.map BG)≠[]:=by
    intro h;have:=congrArg List.length h;simp at this;omega
   obtain⟨ω',h⟩:=(R.handz (bC h4 n.toNat)).newslice (Pm (bC h4 n.toNat)) (es:=List.replicate n.toNat (z.map BG)) (w:=w) hne (λ e he=>by rw[List.eq_of_mem_replicate he];simpa using h2) (λ k _=>by rw[kq]) (by rw[kE,h2];simp);refine⟨.slice us.hp.length 0 n.toNat,us.bx,us.hp++[(⟨.own,w,DE z n.toNat⟩:Blk)],ω',ρ,by simp only[Af,hev];rw[Ac ⟨h1,h2,h3,O6 h4,h5⟩,Ae hn],?_⟩;rw[List.length_replicate] at h;exact h
theorem V3(w:Nat):∀ (n:Nat) (cs:List PV),(EI w n cs).length=n
 |0,_=>rfl
 |n+1,cs=>by simp[EI,V3 w n]
theorem kV(w:Nat):∀ (n:Nat) (cs:List PV),cs.length=n*w->∀ e∈EI w n cs,e.length=w
 |0,_,_=>by simp[EI]
 | n+1,cs,h=>by
   rw[EJ,GD] at h
   simp only[EI,Cz]
   rintro e (rfl|he)
   . simp;omega
   . exact kV w n _ (by simp;omega) e he
theorem iW(w:Nat):∀ (n:Nat) (cs:List PV),cs.length=n*w->(EI w n cs).flatten=cs
 | 0,cs,h=>by
   have:cs=[]:=FA (by simpa using h)
   subst this;rfl
 | n+1,cs,h=>by
   rw[EJ,GD] at h
   simp only[EI,JD]
   rw[iW w n _ (by simp;omega),List.take_append_drop]
theorem jI:∀ (ps:List (Nat×Nat×Opnd)) {st st1:PS} {cs cs1:List PV},EO cs ps st=some (cs1,st1)->cs1.length=cs.length
 |[],st,st1,cs,cs1,e=>by simp only[EO,Ak,Al] at e;rw[e.1]
 | (off,size,x)::r,st,st1,cs,cs1,e=>by
   simp only[EO] at e
   split at e
   . rw[jI r e,Hq]
   . cases e
theorem kg{s:List V}:∀ (ps:List (Nat×Nat×Opnd)) {cs cs1:List V},Fe s cs ps=some cs1->cs1.length=cs.length
 |[],cs,cs1,e=>by simp only[Fe,Ak] at e;rw[e]
 | (off,size,x)::r,cs,cs1,e=>by
   simp only[Fe] at e
   split at e
   . rw[kg r e,GZ]
   . cases e
theorem yN (R:RS h0 ω0 ω ρ st us X0) {w n:Nat} {zs:List V} {ps:List (Nat×Nat×Opnd)} {v:PV}
 (e:(if n=0 then some (PV.sl .own [],st) else if zs.all V.flat=true/\zs.length=n*w/\0<w then (EO (zs.map BG) ps st).map fun(cs,st)=>(PV.sl .own (EI w n cs),st) else none)=some (v,st1)):Out2 (.litSlice w n zs ps) us h0 ω0 v st1:=by
 split at e
 . rename_i hn
   cases e;refine⟨.nils,us.bx,us.hp,ω,ρ,by simp only[Af];rw[Ac hn],?_⟩;refine R.handx ⟨λ _ h=>(by cases h),λ _ h=>(by cases h)⟩ (λ p=>?_) (λ p=>?_)
   . match p with
     |[0]=>exact .nil _ _
     |[]=>exact .undef _ _
     |(_+1)::_=>exact .undef _ _
     |0::_::_=>exact .undef _ _
   . match p with
     |[0]=>exact λ i pb tp=>by simp[PV.fcell,PV.q]
     |[]=>exact λ i pb tp=>by simp[PV.fcell,PV.q]
     |(_+1)::_=>exact λ i pb tp=>by simp[PV.fcell,PV.q]
     |0::_::_=>exact λ i pb tp=>by simp[PV.fcell,PV.q]
 . rename_i hn
   split at e
   . rename_i hz;obtain⟨hz,hl,hw⟩:=hz;simp only[B8] at e;obtain⟨⟨cs,s⟩,e1,e2⟩:=e;cases e2;obtain⟨ws1,ω1,h1,h2,h3⟩:=ZT ps (R.handz hz) (Pm hz) e1
     have hcl:cs.length=n*w:=by rw[jI ps e1];simpa using hl
     have hwl:ws1.length=n*w:=by rw[kg ps h1];exact hl
     have hne:EI w n cs≠[]:=by
      intro h;have:=congrArg List.length h;rw[V3] at this;simp at this;omega
     obtain⟨ω',h⟩:=h3.newslice h2 (es:=EI w n cs) (w:=w) hne (kV w n cs hcl) (λ k _=>by rw[iW w n cs hcl]) (by rw[V3,hwl];exact BI _);rw[V3] at h;refine⟨.slice us.hp.length 0 n,us.bx,us.hp++[(⟨.own,w,ws1⟩:Blk)],ω',ρ,?_,h⟩;simp only[Af];rw[Ae hn,Ac ⟨O6 hz,hl,hw⟩,h1];rfl
   . cases e
end
theorem zO{cs:List PV}(h:HL cs=true)(c:Nat)(hc:c<cs.length):∃ x,Aa cs c= .fl x/\x.flat=true:=by
 induction cs generalizing c with
 |nil=>simp at hc
 | cons v r ih=>
   simp only[HL,Ah] at h
   cases c with
   | zero=>
     have h1:=h.1;simp only[Aa]
     cases v<;>first|exact⟨_,rfl,h1⟩|simp[PV.flatc] at h1
   |succ c=>exact ih h.2 c (by simpa using hc)
theorem yB{es:List (List PV)}(h:JI es=true):HL es.flatten=true:=by
 induction es with
 |nil=>rfl
 | cons e r ih=>
   simp only[JI,Ah] at h
   have app:∀ a b:List PV,HL a=true->HL b=true->HL (a++b)=true:=by
    intro a b
    induction a with
    |nil=>intro _ h;exact h
    |cons x s ih=>intro h1 h2;simp only[HL,Ah,Eg] at h1 ⊢;exact⟨h1.1,ih h1.2 h2⟩
   rw[JD];exact app _ _ h.1 (ih h.2)
theorem ZbN{x:V}(h:x.flat=true):x≠.undef:=by rintro rfl;simp[V.flat] at h
def Ren.app(m:Nat):Ren:=λ hd p=>match hd,p with
 |.x 0,0::k::r=>if k<m then .own (.x 0) (0::k::r) else .frz
 |.x 1,0::k::r=>.own (.x 0) (0::(m+k)::r)
 |.x _,_=>.frz
 |hd,p=>.own hd p
theorem Ren.app_still{m:Nat}{c:Hd}(h:∀ i,c≠.x i):(Ren.app m).still c:=λ p=>by
 cases c with
 |x i=>exact absurd rfl (h i)
 |_=>rfl
theorem Ren.app_x{m i:Nat}{p:List Nat}:(∃ k r,i=0/\p=0::k::r/\k<m/\Ren.app m (.x i) p= .own (.x 0) (0::k::r))\/(∃ k r,i=1/\p=0::k::r/\Ren.app m (.x i) p= .own (.x 0) (0::(m+k)::r))\/Ren.app m (.x i) p= .frz:=by
 unfold Ren.app;split
 . rename_i k r e;cases e;split
   . exact .inl ⟨k,r,rfl,rfl,‹_›,rfl⟩
   . exact .inr (.inr rfl)
 . rename_i k r e;cases e;exact .inr (.inl ⟨k,r,rfl,rfl,rfl⟩)
 . exact .inr (.inr rfl)
 . rename_i h _ _;exact(h _ rfl).elim
theorem Ren.app_ok(m:Nat):(Ren.app m).Ok:=by
 refine⟨λ hd p hd' p' x c e e'=>?_,λ hd p=>?_⟩
 . have st:∀ (a:Hd) (q:List Nat),(∀ i,a≠.x i)->Ren.app m a q= .own a q:=λ a q h=>Ren.app_still h q
   cases hd with
   | x i =>
     rcases Ren.app_x (m:=m) (i:=i) (p:=p) with⟨k,r,rfl,rfl,hk,h⟩|⟨k,r,rfl,rfl,h⟩|h
     . rw[h] at e;cases e
       cases hd' with
       | x j=>
         rcases Ren.app_x (m:=m) (i:=j) (p:=p') with⟨k',r',rfl,rfl,hk',h'⟩|⟨k',r',rfl,rfl,h'⟩|h'
         . rw[h'] at e';simp at e';exact⟨rfl,by rw[e'.1,e'.2]⟩
         . rw[h'] at e';simp at e';omega
         . rw[h'] at e';cases e'
       |_=>rw[st _ _ (by simp)] at e';cases e'
     . rw[h] at e;cases e
       cases hd' with
       | x j=>
         rcases Ren.app_x (m:=m) (i:=j) (p:=p') with⟨k',r',rfl,rfl,hk',h'⟩|⟨k',r',rfl,rfl,h'⟩|h'
         . rw[h'] at e';simp at e';omega
         . rw[h'] at e';simp at e';exact⟨rfl,by rw[e'.1,e'.2]⟩
         . rw[h'] at e';cases e'
       |_=>rw[st _ _ (by simp)] at e';cases e'
     . rw[h] at e;cases e
   | _ =>
     rw[st _ _ (by simp)] at e;cases e
     cases hd' with
     | x j=>
       rcases Ren.app_x (m:=m) (i:=j) (p:=p') with⟨k',r',rfl,rfl,hk',h'⟩|⟨k',r',rfl,rfl,h'⟩|h'<;>rw[h'] at e'<;>cases e'
     |_=>rw[st _ _ (by simp)] at e';first|(cases e';done)|(cases e';exact⟨rfl,rfl⟩)
 . cases hd with
   |x i=>rcases Ren.app_x (m:=m) (i:=i) (p:=p) with⟨k,r,_,_,_,h⟩|⟨k,r,_,_,h⟩|h<;>rw[h]<;>first|exact .inl rfl|exact .inr ⟨_,_,rfl⟩
   |_=>exact .inr ⟨_,_,rfl⟩
theorem ZcL{m:Nat}(hd:Hd)(p:List Nat)(i:Nat)(q:List Nat)(e:Ren.app m hd p= .own (.h i) q):hd= .h i:=by
 cases hd with
 |x j=>rcases Ren.app_x (m:=m) (i:=j) (p:=p) with⟨k,r,_,_,_,h⟩|⟨k,r,_,_,h⟩|h<;>rw[h] at e<;>cases e
 |_=>first|(cases e;done)|(cases e;rfl)
section
variable {h0:Ad} {ω0 ω:Nat->W} {ρ ρ':Nat->Nat} {st st' st1:PS} {us us':St} {X X':CK}
def LP(h:Ad)(ω:Nat->W)(vy:PV)(w:Nat)(new:List (List PV))(ycs:List V):Prop:=
 (∀ e∈new,e.length=w)/\ycs.length=new.length*w/\((vy= .sl .own new/\∀ k,k<new.length*w->RC h ω (.inn (.x 1) [0,k]) (Aa new.flatten k) (get ycs k))\/(vy= .fl .undef/\∀ k,k<new.length*w->∃ x,x.flat=true/\Aa new.flatten k= .fl x/\get ycs k=x))
def X2(v:PV)(u:V)(vy:PV)(uy:V):CK:=Xs (Xs X0 1 vy uy) 0 v u
theorem RS.appK {v0:PV} {u0:V} {vy:PV} {uy:V} (R:RS h0 ω0 ω ρ st us (X2 v0 u0 vy uy)) {w:Nat} {es new:List (List PV)} {ycs:List V} (hN:LP us.hp ω vy w new ycs) (hk:0<new.length) (hw0:0<w) (hroom:Av ((es.length+new.length)*w))
 (h0':(u0= .nils/\es=[])\/∃ q l b,v0= .sl q es/\u0= .slice l 0 es.length/\us.hp[l]?=some b/\b.k= .own/\b.w=w/\ω l= .own (.x 0) [0]/\es.length*w<=b.cs.length/\(∀ e∈es,e.length=w)/\∀ k,k<es.length*w->RC us.hp ω (.inn (.x 0) [0,k]) (Aa es.flatten k) (get b.cs k))
 (hy:Ed us.hp w uy=some (ycs,new.length)) :
 ∃ ω' ur h',Ag.app us.hp w u0 uy=some (ur,h')/\RS h0 ω0 ω' ρ st { us with hp:=h' } (X1 (.sl .own (es++new)) ur):=by
 obtain⟨n1,n2,n3⟩:=hN
 have hw:∀ e∈es,e.length=w:=by
  rcases h0' with⟨_,rfl⟩|⟨q,l,b,_,_,_,_,_,_,_,h,_⟩
  . simp
  . exact h
 have hlen:es.flatten.length=es.length*w:=lq hw
 have key:∃ (T:Nat->Bool) (h1:Ad) (xcs:List V),(∀ l,T l=true->ω l= .own (.x 0) [0])/\h1.length=us.hp.length/\(∀ l,T l=false->h1[l]?=us.hp[l]?)/\xcs.length=es.length*w /\
  (∀ k,k<es.length*w->RC us.hp ω (.inn (.x 0) [0,k]) (Aa es.flatten k) (get xcs k))/\Ag.app us.hp w u0 uy=some (.slice us.hp.length 0 (es.length+new.length),h1++[⟨.own,w,xcs++ycs⟩]):=by
  rcases h0' with⟨rfl,rfl⟩|⟨q,l,b,_,rfl,hb,hbk,hbw,hlab,hle,_,hr⟩
  . refine⟨Ja,us.hp,[],λ l h=>(by cases h),rfl,λ _ _=>rfl,by simp,λ k hk=>(by simp at hk),?_⟩
    simp only[Ag.app,hy];rw[Ae (by omega),Ac (by simpa using hroom)];simp
  . refine⟨λ l'=>l' == l,us.hp.set l ⟨.dead,w,[]⟩,b.cs.take (es.length*w),λ l' h=>?_,by simp,λ l' h=>?_,by simp;omega,λ k hk=>?_,?_⟩
    . have:l'=l:=by simpa using h
      rw[this];exact hlab
    . have:l'≠l:=by simpa using h
      rw[List.getElem?_set_ne (Hv this)]
    . have:=hr k hk
      have e:get (b.cs.take (es.length*w)) k=get b.cs k:=by
       have:=Hw b.cs 0 (es.length*w) k;simp only[Ha,Cf] at this;rw[this,Ac hk]
      rw[e];exact this
    . simp only[Ag.app,hy];rw[Ae (by omega),hb];simp only;rw[Ac ⟨hbk,hbw,trivial,hle,hroom⟩]
 obtain⟨T,h1,xcs,t1,t2,t3,t4,t5,t6⟩:=key
 have hTo:∀ l,T l=true->∃ hd p,ω l= .own hd p:=λ l h=>⟨_,_,t1 l h⟩
 have hρ:∀ k,k<st.hp.length->ρ k<us.hp.length:=λ k hk=>by obtain⟨b,h,_⟩:=R.blk hk;exact Ce h
 have nT:∀ l,(∀ r,ω l≠.own (.x 0) r)->T l=false:=λ l h=>by
  cases e:T l with
  |false=>rfl
  |true=>exact absurd (t1 l e) (h _)
 have nT2:∀ l a q,ω l= .own a q->(∀ i,a≠.x i)->T l=false:=λ l a q e h=>nT l λ r e'=>by rw[e] at e';cases e';exact h 0 rfl
 have hfresh:∀ l,T l=false->Ag.ren (Ren.app (es.length*w)) (ω l)≠.own (.x 0) [0]:=λ l _ e=>by
  obtain⟨a,q,_,e2⟩:=D3 e
  cases a with
  |x i=>rcases Ren.app_x (m:=es.length*w) (i:=i) (p:=q) with⟨k,r,_,_,_,h⟩|⟨k,r,_,_,h⟩|h<;>rw[h] at e2<;>cases e2
  |_=>cases e2
 have hV:∀ k,k<st.hp.length->A5 (h1++[(⟨.own,w,xcs++ycs⟩:Blk)]) (ρ k)=A5 us.hp (ρ k):=λ k hk=>by
  simp only[A5];rw[Bx (by rw[t2];exact hρ k hk),t3 _ (nT _ λ r e=>by rw[(R.hp k hk).1] at e;cases e)]
 have t:=bT (h:=us.hp) (ω:=ω) (f:=Ren.app (es.length*w)) (w0:=.own (.x 0) [0]) (T:=T) (blk:=⟨.own,w,xcs++ycs⟩) (h1:=h1) t2 t3 hTo R.core.notNone
 have pw:∀ l,l≠us.hp.length->T l=false->Cg (Ren.app (es.length*w)) us.hp.length (.own (.x 0) [0]) T ω l=Ag.ren (Ren.app (es.length*w)) (ω l):=λ l h h'=>by simp[Cg,h,h']
 have hlw:∀ e∈es++new,e.length=w:=by
  intro e he;rcases CF.1 he with he|he
  . exact hw e he
  . exact n1 e he
 have hlast:(h1++[(⟨.own,w,xcs++ycs⟩:Blk)])[us.hp.length]?=some ⟨.own,w,xcs++ycs⟩:=by rw[<- t2];simp
 refine⟨_,_,_,t6,RS.push (X':=X1 (.sl .own (es++new)) (.slice us.hp.length 0 (es.length+new.length))) R (Ren.app_ok (es.length*w)) (w0:=.own (.x 0) [0]) (T:=T) (h1:=h1) (blk:=⟨.own,w,xcs++ycs⟩) rfl t2 t3 rfl hTo (.inl ⟨_,_,rfl⟩) hfresh (λ hd' p=>?_) R.sh (λ j=>?_) R.lsl R.lbx R.lb R.cb R.ch (λ i hi=>?_) (λ l i e=>?_) (λ l i p e=>?_)⟩
 . cases hd' with
   | x j =>
     refine .inr ?_;by_cases hj:j=0
     . subst hj
       match p with
       |[]=>exact AS rfl
       |(_+1)::_=>exact AS rfl
       |0::_::_=>exact AS rfl
       | [0] =>
         refine⟨λ i pb tp=>by simp[Ai,X1,PV.fcell,PV.q],?_⟩
         refine RC.sl _ .own (es++new) us.hp.length 0 (es.length+new.length) ⟨.own,w,xcs++ycs⟩ hlast (by simp) ⟨by simp[Cg],rfl,rfl⟩ (λ _ _ h=>by simp at h;rw[h.2] at hk;simp at hk) (by simp) hlw (by simp only[Cq,Cf,t4,n2,EJ];exact BI _) λ k hk'=>?_
         rw[Cf,List.flatten_append];simp only[Cq,EJ] at hk';by_cases hke:k<es.length*w
         . rw[YR _ _ _ (by rw[hlen];exact hke),fL _ _ _ (by rw[t4];exact hke)]
           exact(t5 k hke).inn t (λ l r e=>by
            have:T l=false:=by
             cases e':T l with
             |false=>rfl
             |true=>have:=t1 l e';rw[e] at this;simp at this
            simp[this]) (λ r=>by simp[Ren.app,hke])
         . rw[YE _ _ _ (by rw[hlen];omega),ru _ _ _ (by rw[t4];omega),hlen,t4];rcases n3 with⟨_,hr⟩|⟨_,hf⟩
           . have r:=hr (k-es.length*w) (by omega);refine r.inn t (λ l r e=>?_) (λ r=>?_)
             . rw[nT l (λ r' e'=>by rw[e] at e';cases e')];simp
             . simp only[Ren.app,Eg,CW,Md.sub];rw[show es.length*w+(k-es.length*w)=k by omega]
           . obtain⟨x,hx1,hx2,hx3⟩:=hf (k-es.length*w) (by omega);rw[hx2,hx3];exact .v _ _ hx1
     . exact AS (GA j hj p)
   |s t'=>exact .inl (KB rfl (λ l q e=>nT2 l _ q e (by simp)) (λ _=>Ren.app_still (by simp)) λ hb pb tp e hx=>⟨λ l q e=>nT2 l _ q e hx,Ren.app_still hx⟩)
   |b i=>exact .inl (KB rfl (λ l q e=>nT2 l _ q e (by simp)) (λ _=>Ren.app_still (by simp)) λ hb pb tp e'=>absurd e' (R.nobor_b i p hb pb tp))
   | h i=>
     rcases BN i st.hp.length with hlt|hge
     . have:Ai ρ st { us with hp:=h1++[⟨.own,w,xcs++ycs⟩] } (X1 (.sl .own (es++new)) (.slice us.hp.length 0 (es.length+new.length))) (.h i) p=Ai ρ st us (X2 v0 u0 vy uy) (.h i) p:=by simp only[Ai,hV i hlt]
       rw[this];exact .inl (KB rfl (λ l q e=>nT2 l _ q e (by simp)) (λ _=>Ren.app_still (by simp)) λ hb pb tp e'=>absurd e' (R.nobor_h i p hb pb tp))
     . refine .inr (AS ?_)
       have hz:Aj st.hp i=[]:=by rw[Dx,BV hge];rfl
       simp only[Ai,hz];unfold A9;split<;>rfl
 . by_cases hj:j=0
   . subst hj;exact⟨λ _ h=>(by cases h),λ _ h=>(by cases h)⟩
   . rw[D8 _ _ j hj];exact Bd _
 . have hnT:T (ρ i)=false:=nT _ λ r e=>by rw[(R.hp i hi).1] at e;cases e
   rw[pw _ (by have:=hρ i hi;omega) hnT,(R.hp i hi).1,hV i hi];exact⟨rfl,(R.hp i hi).2⟩
 . by_cases h:l=us.hp.length
   . subst h;simp[Cg] at e
   . cases hT:T l with
     |true=>simp[Cg,h,hT] at e
     |false=>rw[pw l h hT] at e;exact R.bdp l i (Es (Ren.app_ok _) e)
 . by_cases h:l=us.hp.length
   . subst h;simp[Cg] at e
   . cases hT:T l with
     |true=>simp[Cg,h,hT] at e
     | false=>
       rw[pw l h hT] at e;obtain⟨a,q,e1,e2⟩:=D3 e;have:=ZcL a q i p e2;subst this;exact R.bdh l i q e1
theorem RS.handU(R:RS h0 ω0 ω ρ st us X0)(i:Nat)(u:V):RS h0 ω0 ω ρ st us (Xs X0 i (.fl .undef) u):=by
 have:=RS.ren (st':=st) (us':=us) (X':=Xs X0 i (.fl .undef) u) R Ren.id_ok (λ hd p i q e=>by simp[Ren.id] at e;exact e.1) (λ hd' p=>?_) rfl R.sh (λ j=>?_) R.lsl R.lbx R.lb R.cb R.ch rfl (λ _=>rfl)
 . rwa [DQ] at this
 . cases hd' with
   |x j=>exact .inr (AS (by by_cases hj:j=i<;>simp[Ai,Xs,hj,X0,A4]))
   |s t=>exact .inl (Bm rfl)
   |b t=>exact .inl (Bm rfl)
   |h t=>exact .inl (Bm rfl)
 . by_cases hj:j=i<;>simp[Xs,hj,X0]<;>exact Bd _
theorem Zai(R:RS h0 ω0 ω ρ st us X0){w:Nat}{y:Opnd}{new:List (List PV)}(hw0:0<w)(e:FF w y st=some (new,st')) :
 ∃ ω' vy ycs,RS h0 ω0 ω' ρ st' us (Xs X0 1 vy (y.ev us.sl))/\(∀ hd,vy.bor hd=false)/\LP us.hp ω' vy w new ycs/\Ed us.hp w (y.ev us.sl)=some (ycs,new.length):=by
 have rdw:∀ {l o:Nat} {b:Blk} {es:List (List PV)},us.hp[l]?=some b->b.k≠.dead->(es≠[]->b.w=w)->o+es.length*b.w<=b.cs.length->Ed us.hp w (.slice l o es.length)=some ((b.cs.drop o).take (es.length*w),es.length)/\((b.cs.drop o).take (es.length*w)).length=es.length*w:=by
  intro l o b es h1 hk hbw hle
  have hle':o+es.length*w<=b.cs.length:=by
   by_cases hes:es=[]
   . subst hes;simp at hle ⊢;exact hle
   . rw[<- hbw hes];exact hle
  exact⟨by simp only[Ed,rd,h1];rw[Ac ⟨hk,hle'⟩];rfl,Rc hle'⟩
 have flatcase:∀ {q:Ql} {es:List (List PV)},y.pev st.sl= .sl q es->C0 w es=true->JI es=true->∃ ω' vy ycs,RS h0 ω0 ω' ρ st us (Xs X0 1 vy (y.ev us.sl))/\(∀ hd,vy.bor hd=false)/\LP us.hp ω' vy w es ycs/\Ed us.hp w (y.ev us.sl)=some (ycs,es.length):=by
  intro q es hy haw hfl;have haw':=(KN w es).1 haw;obtain⟨hd,_,r⟩:=R.ev_one hy (λ _ h=>(by cases h)) (λ _ h=>(by cases h)) (λ _ h=>(by cases h));refine(fun⟨ycs,a,b⟩=>⟨ω,.fl .undef,ycs,R.handU 1 _,λ _=>rfl,a,b⟩:_->_) (?_:∃ ycs,LP us.hp ω (.fl .undef) w es ycs/\Ed us.hp w (y.ev us.sl)=some (ycs,es.length));generalize y.ev us.sl=u at r
  cases r with
  |nil=>exact⟨[],⟨by simp,by simp,.inr ⟨rfl,λ k hk=>by simp at hk⟩⟩,rfl⟩
  | sl _ _ _ l o n b h1 hk hc hne hn hw hle hr=>
    subst hn
    have hbw:es≠[]->b.w=w:=λ h=>by
     obtain⟨e0,he0⟩:=P0 _ h;rw[<- hw e0 he0];exact haw' e0 he0
    obtain⟨a1,a2⟩:=rdw h1 hk hbw hle;refine⟨_,⟨haw',a2,.inr ⟨rfl,λ k hk'=>?_⟩⟩,a1⟩
    have hes:es≠[]:=by rintro rfl;simp at hk'
    obtain⟨x,hx1,hx2⟩:=zO (yB hfl) k (by rw[lq haw'];exact hk');have r:=hr k (by rw[hbw hes];exact hk');rw[hx1] at r;refine⟨x,hx2,hx1,?_⟩;rw[Hw,Ac hk'];generalize get b.cs (o+k)=z at r;generalize Md.sub (.at hd [0]) q k=mm at r
    cases r with
    |undef=>exact absurd rfl (ZbN hx2)
    |v=>rfl
 unfold FF at e
 split at e
 . rename_i s hy
   split at e
   . rename_i hw;cases e;subst hw;rw[(R.ev_fl hy (by simp)).1];refine⟨ω,.fl .undef,s.map λ b=>.int .u8 b.toNat,R.handU 1 _,λ _=>rfl,⟨by simp,by simp,.inr ⟨rfl,λ k hk=>?_⟩⟩,by simp[Ed]⟩;simp only[Bc,Sr] at hk;have:=KM (w:=1) (es:=s.map λ b=>[PV.fl (.int .u8 b.toNat)]) (by simp) k 0 (by omega);simp only[Sr,HF] at this;rw[this,P2,Dl,HD,HD,Bf hk];exact⟨_,rfl,rfl,rfl⟩
   . cases e
 . rename_i es hy
   split at e
   . rename_i hc;cases e;exact flatcase hy hc.1 hc.2
   . cases e
 . rename_i hd p t es hy
   split at e
   . rename_i hc;cases e;exact flatcase hy hc.1 hc.2
   . cases e
 . rename_i hd p es hy
   split at e
   . rename_i hc;cases e;exact flatcase hy hc.1 hc.2
   . cases e
 . rename_i es hy
   split at e
   . rename_i haw;cases e;have haw':=(KN w new).1 haw;obtain⟨ω1,R1⟩:=R.mvOut y 1 (λ p=>A4 p) (λ n j=>rfl)
     have hmo:(Ag.mvOut y st).1= .sl .own new:=by
      cases y with
      |c v=>exact hy
      | t n=>
        simp only[Opnd.pev] at hy;simp only[Ag.mvOut,hy,Ge,PV.own,PV.bor,AN,AL,AQ]
     rw[hmo] at R1;have r:=R1.core.rc (.x 1) [0];have hs:=R1.shx 1;refine⟨ω1,.sl .own new,?_⟩;refine(fun⟨ycs,a,b⟩=>⟨ycs,R1,λ _=>rfl,a,b⟩:_->_) (?_:∃ ycs,LP us.hp ω1 (.sl .own new) w new ycs/\Ed us.hp w (y.ev us.sl)=some (ycs,new.length))
     have hs':(∀ us',y.ev us.sl≠.agg us')/\∀ us',y.ev us.sl≠.tup us':=by
      have:AZ (.sl .own new) (y.ev us.sl):=hs;exact this
     have r':RC us.hp ω1 (.at (.x 1) [0]) (.sl .own new) (y.ev us.sl):=by
      have:RC us.hp ω1 (.at (.x 1) [0]) (.sl .own new) ((y.ev us.sl).fcell [0]):=r;rwa [GS hs'.1 hs'.2] at this
     generalize y.ev us.sl=u at r'
     cases r' with
     |nil=>exact⟨[],⟨by simp,by simp,.inl ⟨rfl,λ k hk=>by simp at hk⟩⟩,rfl⟩
     | sl _ _ _ l o n b h1 hk hc hne hn hw hle hr=>
       subst hn;have hes:=hne rfl (.inl rfl);obtain⟨e0,he0⟩:=P0 _ hes
       have hbw:b.w=w:=by rw[<- hw e0 he0];exact haw' e0 he0
       obtain⟨a1,a2⟩:=rdw h1 hk (λ _=>hbw) hle;refine⟨_,⟨haw',a2,.inl ⟨rfl,λ k hk'=>?_⟩⟩,a1⟩;have r:=hr k (by rw[hbw];exact hk');rw[Hw,Ac hk'];simpa [Md.sub] using r
   . cases e
 . rename_i w' hy
   cases e;obtain⟨hd,_,r⟩:=R.ev_one hy (λ _ h=>(by cases h)) (λ _ h=>(by cases h)) (λ _ h=>(by cases h));refine(λ a=>⟨ω,.fl .undef,[],R.handU 1 _,λ _=>rfl,⟨by simp,by simp,.inr ⟨rfl,λ k hk=>by simp at hk⟩⟩,a⟩:_->_) (?_:Ed us.hp w (y.ev us.sl)=some ([],0));generalize y.ev us.sl=u at r
   cases r with
   |nil=>rfl
   | sl _ _ _ l o n b h1 hk hc hne hn hw hle hr=>
     subst hn;have:=(rdw (es:=[]) h1 hk (λ h=>absurd rfl h) hle).1;simpa using this
 . cases e
end
section
variable {h0:Ad} {ω0 ω:Nat->W} {ρ ρ':Nat->Nat} {st st' st1:PS} {us us':St} {X X':CK}
theorem RJ(R:RS h0 ω0 ω ρ st us X){hd:Hd}{c:Nat}{qh:Ql}{eh:List (List PV)}(hg:Ds st hd [c]= .sl qh eh){v:PV}(hv:v= .fl .undef\/∃ q es,v= .sl q es)(hl:v.lay=true) :
 (∀ hd' p,(∀ i,hd'≠.x i)->(Ai ρ (setK st v hd [c]) us X' hd' p).1= .fl .undef\/(hd'=hd/\p=[c]/\(Ai ρ (setK st v hd [c]) us X' hd' p)=(v,(Ai ρ st us X hd [c]).2)) \/
  (Ai ρ (setK st v hd [c]) us X' hd' p=Ai ρ st us X hd' p/\¬ (hd'=hd/\p=[c])/\∀ hb pb tp,(Ai ρ st us X hd' p).1.q=some (.bor hb pb tp)->hb≠hd)) /\
 (∀ t,AZ (Aa (setK st v hd [c]).sl t) (get us.sl t))/\(setK st v hd [c]).sl.length=st.sl.length/\(setK st v hd [c]).bx.length=st.bx.length/\(∀ i,(Aj (setK st v hd [c]).bx i).length=(Aj st.bx i).length) /\
 (∀ i c',(Aa (Aj (setK st v hd [c]).bx i) c').lay=true)/\(∀ i c',(Aa (Aj (setK st v hd [c]).hp i) c').lay=true)/\(setK st v hd [c]).hp.length=st.hp.length/\(∀ i,(Aj (setK st v hd [c]).hp i).length=(Aj st.hp i).length) /\
 (∀ i,hd≠.x i)/\Ai ρ st us X hd [c]=(.sl qh eh,(Ai ρ st us X hd [c]).2)/\∀ p,(Ai ρ st us X hd p).1= .fl .undef\/∃ c',p=[c']:=by
 have cat:∀ (cs:List PV) (ws:List V) p,(A9 cs ws p).1= .fl .undef\/∃ c',p=[c']:=by
  intro cs ws p
  match p with
  |[c']=>exact .inr ⟨c',rfl⟩
  |[]=>exact .inl rfl
  |_::_::_=>exact .inl rfl
 have clr3:∀ (sl':List PV) (t:Nat) (p:List Nat) (hd:Hd),sl'=clr hd st.sl->(Aa sl' t).fcell p= .fl .undef\/((Aa sl' t).fcell p=(Aa st.sl t).fcell p/\∀ hb pb tp,((Aa st.sl t).fcell p).q=some (.bor hb pb tp)->hb≠hd):=by
  rintro sl' t p hd rfl;rw[F3]
  cases hb:(Aa st.sl t).bor hd with
  |true=>left;exact A4 p
  |false=>right;exact⟨rfl,λ hb' pb tp e=>Ef hb e⟩
 cases hd with
 |x i=>cases hg
 | b i =>
   simp only[Ds] at hg
   have hi:i<st.bx.length:=by
    rcases BN i st.bx.length with h|h
    . exact h
    . rw[Dx,BV h] at hg;cases hg
   have hc:c<(Aj st.bx i).length:=by
    rcases BN c (Aj st.bx i).length with h|h
    . exact h
    . rw[Gv _ _ h] at hg;cases hg
   have hB:∀ k,Aj (B0 st.bx i (B1 (Aj st.bx i) c v)) k=if k=i then B1 (Aj st.bx i) c v else Aj st.bx k:=by intro k;rw[Js];simp[hi]
   refine⟨λ hd' p hx=>?_,λ t=>?_,by simp[setK,Gs],by simp[setK,Hr],λ k=>?_,λ k c'=>?_,R.ch,rfl,λ _=>rfl,by simp,by simp only[Ai,A9,hg],cat _ _⟩
   . cases hd' with
     |x j=>exact absurd rfl (hx j)
     | s t=>
       rcases clr3 _ t p (.b i) rfl with h|⟨h1,h2⟩
       . left;exact h
       . right;right;refine⟨?_,by simp,h2⟩;simp only[Ai,setK];rw[h1]
     |h j=>right;right;exact⟨rfl,by simp,λ hb pb tp e=>absurd e (R.nobor_h j p hb pb tp)⟩
     | b j =>
       by_cases hj:j=i
       . subst hj
         match p with
         |[]=>left;rfl
         |_::_::_=>left;rfl
         | [c']=>
           by_cases hcc:c'=c
           . subst hcc;right;left;refine⟨rfl,rfl,?_⟩;simp only[Ai,setK,hB,Ac,A9,EG,hc,and_self]
           . right;right;refine⟨?_,by simp[hcc],λ hb pb tp e=>absurd e (R.nobor_b j _ hb pb tp)⟩;simp only[Ai,setK,hB,Ac,A9,EG,hcc,false_and,AQ]
       . right;right;refine⟨?_,by simp[hj],λ hb pb tp e=>absurd e (R.nobor_b j p hb pb tp)⟩;simp only[Ai,setK,hB,Ae hj]
   . simp only[setK,F3];split
     . exact Bd _
     . exact R.sh t
   . simp only[setK,hB];split
     . rename_i h;rw[h,G3]
     . rfl
   . simp only[setK,hB];split
     . rw[EG];split
       . exact hl
       . exact R.cb i c'
     . exact R.cb k c'
 | h i =>
   simp only[Ds] at hg
   have hi:i<st.hp.length:=by
    rcases BN i st.hp.length with h|h
    . exact h
    . rw[Dx,BV h] at hg;cases hg
   have hc:c<(Aj st.hp i).length:=by
    rcases BN c (Aj st.hp i).length with h|h
    . exact h
    . rw[Gv _ _ h] at hg;cases hg
   have hB:∀ k,Aj (B0 st.hp i (B1 (Aj st.hp i) c v)) k=if k=i then B1 (Aj st.hp i) c v else Aj st.hp k:=by intro k;rw[Js];simp[hi]
   refine⟨λ hd' p hx=>?_,λ t=>?_,by simp[setK,Gs],rfl,λ _=>rfl,R.cb,λ k c'=>?_,by simp[setK,Hr],λ k=>?_,by simp,by simp only[Ai,A9,hg],cat _ _⟩
   . cases hd' with
     |x j=>exact absurd rfl (hx j)
     | s t=>
       rcases clr3 _ t p (.h i) rfl with h|⟨h1,h2⟩
       . left;exact h
       . right;right;refine⟨?_,by simp,h2⟩;simp only[Ai,setK];rw[h1]
     |b j=>right;right;exact⟨rfl,by simp,λ hb pb tp e=>absurd e (R.nobor_b j p hb pb tp)⟩
     | h j =>
       by_cases hj:j=i
       . subst hj
         match p with
         |[]=>left;rfl
         |_::_::_=>left;rfl
         | [c']=>
           by_cases hcc:c'=c
           . subst hcc;right;left;refine⟨rfl,rfl,?_⟩;simp only[Ai,setK,hB,Ac,A9,EG,hc,and_self]
           . right;right;refine⟨?_,by simp[hcc],λ hb pb tp e=>absurd e (R.nobor_h j _ hb pb tp)⟩;simp only[Ai,setK,hB,Ac,A9,EG,hcc,false_and,AQ]
       . right;right;refine⟨?_,by simp[hj],λ hb pb tp e=>absurd e (R.nobor_h j p hb pb tp)⟩;simp only[Ai,setK,hB,Ae hj]
   . simp only[setK,F3];split
     . exact Bd _
     . exact R.sh t
   . simp only[setK,hB];split
     . rw[EG];split
       . exact hl
       . exact R.ch i c'
     . exact R.ch k c'
   . simp only[setK,hB];split
     . rename_i h;rw[h,G3]
     . rfl
 | s t0=>
   simp only[Ds] at hg
   have hlt:t0<st.sl.length:=by
    rcases BN t0 st.sl.length with h|h
    . exact h
    . rw[Gv _ _ h,A4] at hg;cases hg
   have hset:(∃ cs,Aa st.sl t0= .agg cs/\c<cs.length/\(Aa st.sl t0).setc [c] v= .agg (B1 cs c v))\/(c=0/\Aa st.sl t0= .sl qh eh/\(Aa st.sl t0).setc [c] v=v):=by
    generalize Aa st.sl t0=w at hg
    cases w with
    | agg cs=>
      left;refine⟨cs,rfl,?_,rfl⟩;rcases BN c cs.length with h|h
      . exact h
      . simp only[PV.fcell] at hg;rw[Gv _ _ h] at hg;cases hg
    |tup vs=>cases hg
    | sl q es=>
      cases c with
      |zero=>right;exact⟨rfl,hg,rfl⟩
      |succ c=>cases hg
    |_=>cases c<;>cases hg
   have hfc:∀ p,((Aa st.sl t0).setc [c] v).fcell p= .fl .undef\/(p=[c]/\((Aa st.sl t0).setc [c] v).fcell p=v)\/(p≠[c]/\((Aa st.sl t0).setc [c] v).fcell p=(Aa st.sl t0).fcell p):=by
    intro p;rcases hset with⟨cs,e1,e2,e3⟩|⟨rfl,e1,e2⟩
    . rw[e3,e1]
      match p with
      |[]=>left;rfl
      |_::_::_=>left;rfl
      | [c']=>
        by_cases hcc:c'=c
        . subst hcc;right;left;exact⟨rfl,by simp[PV.fcell,EG,e2]⟩
        . right;right;exact⟨by simp[hcc],by simp[PV.fcell,EG,hcc]⟩
    . rw[e2]
      have hvs:v.sc:=by rcases hv with rfl|⟨q,es,rfl⟩<;>exact⟨λ _ h=>(by cases h),λ _ h=>(by cases h)⟩
      match p with
      |[0]=>right;left;exact⟨rfl,Iu hvs.1 hvs.2⟩
      |[]=>left;rcases hv with rfl|⟨q,es,rfl⟩<;>rfl
      |(_+1)::_=>left;rcases hv with rfl|⟨q,es,rfl⟩<;>rfl
      |0::_::_=>left;rcases hv with rfl|⟨q,es,rfl⟩<;>rfl
   have hshp:AZ ((Aa st.sl t0).setc [c] v) (get us.sl t0):=by
    have:=R.sh t0;rcases hset with⟨cs,e1,e2,e3⟩|⟨rfl,e1,e2⟩
    . rw[e3];rw[e1] at this;obtain⟨ws,h1,h2⟩:=this;exact⟨ws,h1,by rw[G3];exact h2⟩
    . rw[e2];rw[e1] at this;rcases hv with rfl|⟨q,es,rfl⟩
      . exact Bd _
      . exact this
   refine⟨λ hd' p hx=>?_,λ t=>?_,by simp[setK,Gs,G3],rfl,λ _=>rfl,R.cb,R.ch,rfl,λ _=>rfl,by simp,by simp only[Ai,hg],λ p=>?_⟩
   . cases hd' with
     |x j=>exact absurd rfl (hx j)
     |b j=>right;right;exact⟨rfl,by simp,λ hb pb tp e=>absurd e (R.nobor_b j p hb pb tp)⟩
     |h j=>right;right;exact⟨rfl,by simp,λ hb pb tp e=>absurd e (R.nobor_h j p hb pb tp)⟩
     | s t=>
       simp only[Ai,setK];rcases PA (st:=st) (us:=us) t0 ((Aa st.sl t0).setc [c] v) t R.lsl (get us.sl t0) with h|⟨rfl,h0,h1,h2,h3⟩|⟨h1,h2,h3,h4⟩
       . left;rw[h];exact A4 p
       . rw[h1];rcases hfc p with h|⟨rfl,h⟩|⟨hp,h⟩
         . left;exact h
         . right;left;exact⟨rfl,rfl,by rw[h]⟩
         . right;right;refine⟨by rw[h],λ hh=>hp hh.2,λ hb pb tp e=>?_⟩;rw[<- h] at e;exact Ef h3 e
       . rw[h1];by_cases htt:t=t0
         . subst htt;left;rw[Gv _ _ (by omega)];exact A4 p
         . right;right;exact⟨rfl,λ hh=>htt (by cases hh.1;rfl),λ hb pb tp e=>Ef h3 e⟩
   . simp only[setK];exact VR R.sh hshp t
   . simp only[Ai];rcases hset with⟨cs,e1,_,_⟩|⟨_,e1,_⟩
     . rw[e1]
       match p with
       |[c']=>exact .inr ⟨c',rfl⟩
       |[]=>exact .inl rfl
       |_::_::_=>exact .inl rfl
     . rw[e1]
       match p with
       |[c']=>exact .inr ⟨c',rfl⟩
       |[]=>exact .inl rfl
       |(_+1)::_::_=>exact .inl rfl
       |0::_::_=>exact .inl rfl
theorem RS.takeK(R:RS h0 ω0 ω ρ st us X)(hX:(∀ p,(X 0).1.fcell p= .fl .undef)/\∀ j hd,(X j).1.bor hd=false){hd:Hd}{c:Nat}{qh:Ql}{eh:List (List PV)}(hg:Ds st hd [c]= .sl qh eh)(hq:qh.isOwn=true)(hu:(∀ ws,(Ai ρ st us X hd [c]).2≠.agg ws)/\∀ ws,(Ai ρ st us X hd [c]).2≠.tup ws) :
 ∃ ω',RS h0 ω0 ω' ρ (setK st (.fl .undef) hd [c]) us (Xs X 0 (.sl qh eh) (Ai ρ st us X hd [c]).2)/\∀ l p,ω l= .own hd (c::p)->ω' l= .own (.x 0) (0::p):=by
 obtain⟨a1,a2,a3,a4,a5,a6,a7,a8,a9,a10,a11,a12⟩:=RJ (X':=Xs X 0 (.sl qh eh) (Ai ρ st us X hd [c]).2) R hg (.inl rfl) rfl
 refine⟨_,RS.ren R (Ren.seg_ok (a:=hd) (o:=c) (n:=1) (b:=.x 0) (o':=0) (a10 0)) (dg (by simp)) (λ hd' p=>?_) rfl a2 (λ j=>?_) (by rw[a3];exact R.lsl) (by rw[a4];exact R.lbx) (λ i=>by rw[a5];exact R.lb i) a6 a7 a8 a9,λ l p e=>?_⟩
 . by_cases hxx:∃ j,hd'= .x j
   . obtain⟨j,rfl⟩:=hxx;by_cases hj:j=0
     . subst hj
       match p with
       |[]=>exact .inr (AS rfl)
       |(_+1)::_=>exact .inr (AS rfl)
       |0::_::_=>exact .inr (AS rfl)
       | [0]=>
         refine .inl ⟨hd,[c],?_,λ _ r=>?_,λ hb pb tp e=>?_⟩
         . rw[a11];show (PV.sl qh eh,((Ai ρ st us X hd [c]).2).fcell [0])=_;rw[GS hu.1 hu.2]
         . simp only[Eg,CW];rw[Ren.seg_mv (by omega) (by omega)];simp
         . have e2:(PV.sl qh eh).q=some (Ql.bor hb pb tp):=e;cases qh<;>simp[PV.q] at e2<;>cases hq
     . have hfx:Ai ρ (setK st (.fl .undef) hd [c]) us (Xs X 0 (.sl qh eh) (Ai ρ st us X hd [c]).2) (.x j) p=Ai ρ st us X (.x j) p:=by simp[Ai,Xs,hj]
       refine .inl (Bl hfx (λ _=>Ren.seg_still (λ h=>a10 j h.symm) (by simpa using hj)) λ hb pb tp e hx=>Ren.seg_still ?_ (hx 0));rw[hfx] at e;exact Ef (hX.2 j hd) e
   . rcases a1 hd' p (λ i h=>hxx ⟨i,h⟩) with h|⟨h1,h2,h3⟩|⟨h1,h2,h3⟩
     . exact .inr (AS h)
     . exact .inr (AS (by rw[h3]))
     . rw[h1];refine .inl ⟨hd',p,rfl,λ hown r=>?_,λ hb pb tp e hx=>?_⟩
       . by_cases hh:hd'=hd
         . subst hh;rcases a12 p with h|⟨c',rfl⟩
           . rw[h] at hown;cases hown
           . have hcc:c'≠c:=λ h=>h2 ⟨rfl,by rw[h]⟩
             exact Ren.seg_rest_a (a10 0) (by omega) r
         . exact Ren.seg_still hh (λ h=>hxx ⟨0,h⟩) _
       . have:(Ren.seg hd c 1 (.x 0) 0).still hb:=Ren.seg_still (h3 hb pb tp e) (hx 0);exact⟨λ _=>this,this.soft⟩
 . unfold Xs;split
   . exact⟨hu.1,hu.2⟩
   . exact R.shx j
 . simp only[e,Ag.ren]
   rw[Ren.seg_mv (by omega) (by omega)];simp
theorem RS.drop1{v:PV}{u:V}{vy:PV}{uy:V}(R:RS h0 ω0 ω ρ st us (X2 v u vy uy)):∃ ω',RS h0 ω0 ω' ρ st us (X1 v u):=by
 refine⟨_,RS.ren (st':=st) (us':=us) (X':=X1 v u) R (Ren.drop_ok (.x 1)) R7 (λ hd' p=>?_) rfl R.sh (λ i=>?_) R.lsl R.lbx R.lb R.cb R.ch rfl (λ _=>rfl)⟩
 . cases hd' with
   | x i=>
     by_cases hi:i=0
     . subst hi;exact .inl (Bl rfl (λ _=>Ren.drop_still (by simp)) λ hb pb tp _ h=>Ren.drop_still (h 1))
     . exact .inr (AS (GA i hi p))
   |s t=>exact .inl (Bl rfl (λ _=>Ren.drop_still (by simp)) λ hb pb tp _ h=>Ren.drop_still (h 1))
   |b t=>exact .inl (Bl rfl (λ _=>Ren.drop_still (by simp)) λ hb pb tp _ h=>Ren.drop_still (h 1))
   |h t=>exact .inl (Bl rfl (λ _=>Ren.drop_still (by simp)) λ hb pb tp _ h=>Ren.drop_still (h 1))
 . by_cases hi:i=0
   . subst hi;exact R.shx 0
   . rw[D8 _ _ i hi];exact Bd _
theorem RS.rehand{v v':PV}{u u':V}{vy:PV}{uy:V}(R:RS h0 ω0 ω ρ st us (X2 v u vy uy))(hs:AZ v' u')(hr:∀ p,RC us.hp ω (.at (.x 0) p) (v'.fcell p) (u'.fcell p))(hx:∀ p,CD (v'.fcell p)):RS h0 ω0 ω ρ st us (X2 v' u' vy uy):=by
 have:=RS.ren (st':=st) (us':=us) (X':=X2 v' u' vy uy) R Ren.id_ok (λ hd p i q e=>by simp[Ren.id] at e;exact e.1) (λ hd' p=>?_) rfl R.sh (λ i=>?_) R.lsl R.lbx R.lb R.cb R.ch rfl (λ _=>rfl)
 . rwa [DQ] at this
 . cases hd' with
   | x i=>
     by_cases hi:i=0
     . subst hi;refine .inr ?_;rw[DQ];exact⟨hx p,hr p⟩
     . exact .inl (Bm (by simp[Ai,X2,Xs,hi]))
   |s t=>exact .inl (Bm rfl)
   |b t=>exact .inl (Bm rfl)
   |h t=>exact .inl (Bm rfl)
 . by_cases hi:i=0
   . subst hi;exact hs
   . have:=R.shx i;simpa [X2,Xs,hi] using this
theorem zc{q:Ql}{es:List (List PV)}{H:Ad}{m:Md}{u:V}(r:RC H ω m (.sl q es) u):AZ (.sl q es) u/\(∀ p,((PV.sl q es).fcell p= .sl q es/\u.fcell p=u)\/(PV.sl q es).fcell p= .fl .undef):=by
 have hsc:(∀ us,u≠.agg us)/\∀ us,u≠.tup us:=by
  cases r<;>exact⟨λ _ h=>(by cases h),λ _ h=>(by cases h)⟩
 refine⟨hsc,λ p=>?_⟩
 match p with
 |[0]=>exact .inl ⟨rfl,GS hsc.1 hsc.2⟩
 |[]=>exact .inr rfl
 |(_+1)::_=>exact .inr rfl
 |0::_::_=>exact .inr rfl
theorem ZbL {w:Nat} {es new:List (List PV)} {ycs:List V} {q0 qr:Ql} {u0:V} {vy:PV} {uy:V} (R:RS h0 ω0 ω ρ st us (X2 (.sl q0 es) u0 vy uy)) (hN:LP us.hp ω vy w new ycs) (hw0:0<w) (hroom:Av ((es.length+new.length)*w))
 (hr:RC us.hp ω (.at (.x 0) [0]) (.sl q0 es) u0) (hq:q0= .own\/q0= .ownw w) (hw:∀ e∈es,e.length=w) (hy:Ed us.hp w uy=some (ycs,new.length)) (hqr:(0<new.length->qr= .own)/\(new.length=0->qr=q0)) :
 ∃ ω' ur h',Ag.app us.hp w u0 uy=some (ur,h')/\RS h0 ω0 ω' ρ st { us with hp:=h' } (X1 (.sl qr (es++new)) ur):=by
 by_cases hk:new.length=0
 . have hnil:new=[]:=FA hk
   subst hnil;obtain⟨ω',h⟩:=R.drop1;refine⟨ω',u0,us.hp,?_,by rw[hqr.2 rfl,Sx];exact h⟩;simp only[Ag.app,hy,AJ];cases hr<;>simp
 . rw[hqr.1 (by omega)]
   refine R.appK hN (by omega) hw0 hroom ?_ hy
   cases hr with
   |nil=>exact .inl ⟨rfl,rfl⟩
   | sl _ _ _ l o n b h1 hkd hc hne hn hw' hle hr=>
     subst hn;refine .inr ⟨q0,l,b,rfl,?_⟩
     have hlab:ω l= .own (.x 0) [0]/\o=0/\b.k= .own/\b.w=w:=by
      rcases hq with rfl|rfl
      . obtain⟨c1,c2,c3⟩:=hc;obtain⟨e0,he0⟩:=P0 _ (hne rfl (.inl rfl));exact⟨c1,c2,c3,by rw[<- hw' e0 he0];exact hw e0 he0⟩
      . obtain⟨c1,c2,c3,c4⟩:=hc;exact⟨c1,c2,c3,c4⟩
     obtain⟨c1,rfl,c3,c4⟩:=hlab;rw[c4] at hle hr;refine⟨rfl,h1,c3,c4,c1,by omega,hw,λ k hk=>?_⟩;have:=hr k hk;rw[Cf] at this;rcases hq with rfl|rfl<;>exact this
theorem Zbv{x:Opnd}{q:Ql}{es:List (List PV)}(hx:x.pev st.sl= .sl q es)(hq:q.isOwn=true):(Ag.mvOut x st).1= .sl q es:=by
 cases x with
 |c v=>exact hx
 | t n=>
   simp only[Opnd.pev] at hx
   have:(PV.sl q es).own=true/\(PV.sl q es).bor (.s n)=false:=by cases q<;>first|exact⟨rfl,rfl⟩|cases hq
   simp only[Ag.mvOut,hx,Ge,this.1,this.2,AN,AL,AQ]
theorem ng{v:PV}{u:V}(hv:∀ hd,v.bor hd=false)(j:Nat)(hd:Hd):(Xs X0 1 v u j).1.bor hd=false:=by
 unfold Xs;split
 . exact hv hd
 . rfl
theorem oe (R:RS h0 ω0 ω ρ st us X0){w:Nat}{x y:Opnd}{v:PV}(e:(match FF w y st with|some (new,st)=>IX w x new st|none=>none)=some (v,st1)):Out2 (.app w x y) us h0 ω0 v st1:=by
 split at e
 . rename_i new st' hsrc
   have hw0:0<w:=by
    unfold IX at e
    repeat' split at e
    all_goals first|(cases e;done)|(rename_i h;exact h.1)|(rename_i h _;exact h.1)
   obtain⟨ω1,vy,ycs,R1,hvb,hN,hy⟩:=Zai R hw0 hsrc
   have fin:∀ {ω2:Nat->W} {st2:PS} {q0 qr:Ql} {es:List (List PV)},RS h0 ω0 ω2 ρ st2 us (X2 (.sl q0 es) (x.ev us.sl) vy (y.ev us.sl))->LP us.hp ω2 vy w new ycs->Av ((es.length+new.length)*w)->RC us.hp ω2 (.at (.x 0) [0]) (.sl q0 es) (x.ev us.sl)->(q0= .own\/q0= .ownw w)->(∀ e∈es,e.length=w) ->
    ((0<new.length->qr= .own)/\(new.length=0->qr=q0))->Out2 (.app w x y) us h0 ω0 (.sl qr (es++new)) st2:=by
    intro ω2 st2 q0 qr es R2 hN2 hroom hr hq hw hqr
    obtain⟨ω',ur,h',e1,e2⟩:=ZbL R2 hN2 hw0 hroom hr hq hw hy hqr
    exact⟨ur,us.bx,h',ω',ρ,by simp only[Af];rw[Ac hw0,e1];rfl,e2⟩
   have hNre:∀ {ω2:Nat->W} {st2:PS} {v0:PV} {u0:V},RS h0 ω0 ω2 ρ st2 us (X2 v0 u0 vy (y.ev us.sl))->LP us.hp ω2 vy w new ycs:=by
    intro ω2 st2 v0 u0 R2;obtain⟨a,b,c⟩:=hN;refine⟨a,b,c.imp (fun⟨hv,_⟩=>⟨hv,λ k hk=>?_⟩) id⟩;subst hv;have r:=R2.core.rc (.x 1) [0];have hs:AZ (.sl .own new) (y.ev us.sl):=R2.shx 1
    have r':RC us.hp ω2 (.at (.x 1) [0]) (.sl .own new) (y.ev us.sl):=by
     have:RC us.hp ω2 (.at (.x 1) [0]) (.sl .own new) ((y.ev us.sl).fcell [0]):=r;rwa [GS hs.1 hs.2] at this
    generalize y.ev us.sl=u at r' hy
    cases r' with
    |nil=>simp at hk
    | sl _ _ _ l o n b' h1 hkd hc hne hn hw hle hr=>
      subst hn;obtain⟨e0,he0⟩:=P0 _ (hne rfl (.inl rfl))
      have hbw:b'.w=w:=by rw[<- hw e0 he0];exact a e0 he0
      rw[hbw] at hle hr;simp only[Ed,rd,h1] at hy;rw[Ac ⟨hkd,hle⟩] at hy;simp only[Cv,Ak,Al] at hy;have r:=hr k hk;rw[<- hy.1,Hw,Ac hk];exact r
   have rc0:∀ {ω2:Nat->W} {st2:PS} {q:Ql} {es:List (List PV)} {u0:V},RS h0 ω0 ω2 ρ st2 us (X2 (.sl q es) u0 vy (y.ev us.sl))->RC us.hp ω2 (.at (.x 0) [0]) (.sl q es) u0:=by
    intro ω2 st2 q es u0 R2;have hs:AZ (.sl q es) u0:=R2.shx 0;have:RC us.hp ω2 (.at (.x 0) [0]) (.sl q es) (u0.fcell [0]):=R2.core.rc (.x 0) [0];rwa [GS hs.1 hs.2] at this
   have slot:∀ {q:Ql} {es:List (List PV)},x.pev st'.sl= .sl q es->q.isOwn=true->∃ ω2,RS h0 ω0 ω2 ρ (Ag.mvOut x st').2 us (X2 (.sl q es) (x.ev us.sl) vy (y.ev us.sl)):=by
    intro q es hx hq;obtain⟨ω2,R2⟩:=R1.mvOut x 0 (λ p=>A4 p) (λ n j=>ng hvb j _);rw[Zbv hx hq] at R2;exact⟨ω2,R2⟩
   have held:∀ {hd:Hd} {c:Nat} {qh:Ql} {eh:List (List PV)},Ds st' hd [c]= .sl qh eh->qh.isOwn=true->∃ ω2 uh,RS h0 ω0 ω2 ρ (setK st' (.fl .undef) hd [c]) us (X2 (.sl qh eh) uh vy (y.ev us.sl))/\RC us.hp ω1 (.at hd [c]) (.sl qh eh) uh/\∀ l p,ω1 l= .own hd (c::p)->ω2 l= .own (.x 0) (0::p):=by
    intro hd c qh eh hg hq;obtain⟨_,_,_,_,_,_,_,_,_,_,a11,_⟩:=RJ (X':=X0) (v:=.fl .undef) R1 hg (.inl rfl) rfl;have r:=R1.core.rc hd [c];rw[a11] at r;have hu:(∀ ws,(Ai ρ st' us (Xs X0 1 vy (y.ev us.sl)) hd [c]).2≠.agg ws)/\∀ ws,(Ai ρ st' us (Xs X0 1 vy (y.ev us.sl)) hd [c]).2≠.tup ws:=r.scalar (λ a h=>by cases h);obtain⟨ω2,R2,h2⟩:=R1.takeK ⟨λ p=>A4 p,λ j hd=>ng hvb j hd⟩ hg hq hu;exact⟨ω2,_,R2,r,h2⟩
   have preK : ∀ {hd:Hd} {c:Nat} {es eh:List (List PV)} {qh:Ql},qh.isOwn=true->(qh= .own\/qh= .ownw w)->x.pev st'.sl= .sl (.pre hd [c]) es->Ds st' hd [c]= .sl qh eh->C0 w eh=true->0<eh.length->es.length<=eh.length->Av ((es.length+new.length)*w) ->
    Out2 (.app w x y) us h0 ω0 (.sl (if es.length+new.length=0 then .ownw w else .own) (eh.take es.length++new)) (setK st' (.fl .undef) hd [c]):=by
    intro hd c es eh qh hqo hqq hx hg c2 c3 c4 c5
    obtain⟨ω2,uh,R2,rh,hlab⟩:=held hg hqo
    have hwh:=(KN w eh).1 c2
    have htl:(eh.take es.length).length=es.length:=by simp;omega
    have cut:RC us.hp ω2 (.at (.x 0) [0]) (.sl (if es.length=0 then .ownw w else .own) (eh.take es.length)) (x.ev us.sl):=by
     obtain⟨hdx,_,rx⟩:=R1.ev_one hx (λ _ h=>(by cases h)) (λ _ h=>(by cases h)) (λ _ h=>(by cases h));have r2:=rc0 R2;generalize x.ev us.sl=u at rx
     cases rx with
     |nil=>exact .nil _ _
     | sl _ _ _ l o n b h1 hk hc hne hn hw hle hr=>
       obtain⟨hl,rfl⟩:=hc
       cases r2 with
       |nil=>simp at c3
       | sl _ _ _ l' o' n' b' h1' hk' hc' hne' hn' hw' hle' hr'=>
         have hl2:=hlab l [] hl;have hll:l'=l:=R2.core.inj l' l (.x 0) [0] (by rcases hqq with rfl|rfl;exact hc'.1;exact hc'.1) hl2;subst hll;rw[h1] at h1';cases h1'
         have hbw:b.w=w:=by
          obtain⟨e0,he0⟩:=P0 eh (by rintro rfl;simp at c3);rw[<- hw' e0 he0];exact hwh e0 he0
         have hc2:ω2 l'= .own (.x 0) [0]/\o'=0/\b.k= .own:=by rcases hqq with rfl|rfl;exact hc';exact⟨hc'.1,hc'.2.1,hc'.2.2.1⟩
         obtain⟨g1,rfl,g3⟩:=hc2;subst hn;have hmul:es.length*b.w<=eh.length*b.w:=KR _ c4
         have hcells:∀ k,k<(eh.take es.length).length*b.w->RC us.hp ω2 (.inn (.x 0) ([0]++[k])) (Aa (eh.take es.length).flatten k) (get b.cs (0+k)):=by
          intro k hk;rw[htl] at hk
          have hb0:0<b.w:=by rw[hbw];exact hw0
          have e1:=KM (w:=b.w) (es:=eh.take es.length) (λ e he=>hw' e (KU he)) (k / b.w) (k % b.w) (KS _ hb0);have e2:=KM (w:=b.w) hw' (k / b.w) (k % b.w) (KS _ hb0)
          have hd1:k / b.w*b.w+k % b.w=k:=by rw[Xh];exact XL k b.w
          rw[hd1] at e1 e2;rw[e1,P2,PZ ((Xn hb0).2 hk),<- P2,<- e2];have:=hr' k (by omega);rcases hqq with rfl|rfl<;>exact this
         by_cases hz:es.length=0
         . rw[Ac hz];exact RC.sl _ (.ownw w) _ l' 0 _ b h1 hk ⟨g1,rfl,g3,hbw⟩ (λ _ h=>by simp at h) htl.symm (λ e he=>hw' e (KU he)) (by rw[htl];omega) hcells
         . rw[Ae hz];exact RC.sl _ .own _ l' 0 _ b h1 hk ⟨g1,rfl,g3⟩ (λ _ _ h=>by rw[h] at htl;simp at htl;omega) htl.symm (λ e he=>hw' e (KU he)) (by rw[htl];omega) hcells
    obtain⟨s1,s2⟩:=zc cut
    have R3:=R2.rehand (v':=.sl (if es.length=0 then .ownw w else .own) (eh.take es.length)) (u':=x.ev us.sl) s1 (λ p=>by
     rcases s2 p with⟨e1,e2⟩|e1
     . rw[e1,e2]
       match p,e1 with
       |[0],_=>exact cut
       |[],e1=>cases e1
       |(_+1)::_,e1=>cases e1
       |0::_::_,e1=>cases e1
     . rw[e1];exact .undef _ _) (λ p=>by
     rcases s2 p with⟨e1,e2⟩|e1
     . rw[e1];intro i pb tp h;split at h<;>simp[PV.q] at h
     . rw[e1];exact λ i pb tp=>by simp[PV.q])
    refine fin R3 (hNre R3) (by rw[htl];exact c5) cut (by split;exact .inr rfl;exact .inl rfl) (λ e he=>hwh e (KU he)) ⟨λ h=>by rw[Ae (by omega)],λ h=>?_⟩
    simp only[h,HF]
   unfold IX at e;split at e
   . rename_i es hx;split at e
     . rename_i hc;obtain⟨_,c2,c3⟩:=hc;cases e;obtain⟨ω2,R2⟩:=slot hx rfl;exact fin R2 (hNre R2) c3 (rc0 R2) (.inl rfl) ((KN w es).1 c2) ⟨λ _=>rfl,λ _=>rfl⟩
     . cases e
   . rename_i w' es hx;split at e
     . rename_i hc;obtain⟨_,rfl,c2,c3⟩:=hc;cases e;obtain⟨ω2,R2⟩:=slot hx rfl;exact fin (qr:=if new.length=0 then .ownw w' else .own) R2 (hNre R2) c3 (rc0 R2) (.inr rfl) ((KN w' es).1 c2) ⟨λ h=>by rw[Ae (by omega)],λ h=>by rw[Ac h]⟩
     . cases e
   . rename_i hd c es hx;split at e
     . rename_i eh hg;split at e
       . rename_i hc;obtain⟨_,c2,c3,c4⟩:=hc;cases e;obtain⟨ω2,uh,R2,rh,hlab⟩:=held hg rfl
         have hu:uh=x.ev us.sl:=by
          obtain⟨hdx,_,rx⟩:=R1.ev_one hx (λ _ h=>(by cases h)) (λ _ h=>(by cases h)) (λ _ h=>(by cases h));generalize x.ev us.sl=u at rx
          cases rx with
          | nil=>
            have:eh=[]:=FA (by rw[<- c3];rfl);subst this
            cases rh with
            |nil=>rfl
            |sl _ _ _ l o n b h1 hk hc hne hn hw hle hr=>exact absurd rfl (hne rfl (.inl rfl))
          | sl _ _ _ l o n b h1 hk hc hne hn hw hle hr=>
            have hes:=hne rfl (.inr ⟨hd,[c],rfl⟩)
            have heh:eh≠[]:=by rintro rfl;exact hes (FA c3)
            obtain⟨_,hc2⟩:=hc;obtain⟨hl,ho⟩:=hc2 rfl
            cases rh with
            |nil=>exact absurd rfl heh
            | sl _ _ _ l' o' n' b' h1' hk' hc' hne' hn' hw' hle' hr'=>
              rw[R1.core.inj l' l hd [c] hc'.1 hl,hc'.2.1,ho,hn',hn,c3]
         subst hu;exact fin R2 (hNre R2) c4 (rc0 R2) (.inl rfl) ((KN w eh).1 c2) ⟨λ _=>rfl,λ _=>rfl⟩
       . cases e
     . cases e
   . rename_i hd c es hx;split at e
     . rename_i eh hg;split at e
       . rename_i hc;obtain⟨_,c2,c3,c4,c5⟩:=hc;cases e;exact preK rfl (.inl rfl) hx hg c2 c3 c4 c5
       . cases e
     . rename_i w' eh hg;split at e
       . rename_i hc;obtain⟨_,rfl,c2,c3,c4,c5⟩:=hc;cases e;exact preK rfl (.inr rfl) hx hg c2 c3 c4 c5
       . cases e
     . cases e
   . cases e
 . cases e
end
def Ren.segD(hd:Hd)(p s n:Nat):Ren:=λ hd' q=>match q with
 |[]=>.own hd' []
 | c::r=>if hd'= .x 0/\c<n then .own hd (p::(s+c)::r) else if hd'=hd/\c=p then (match r with
   |[]=>.own hd' [c]
   |k::r'=>if s<=k/\k<s+n then .frz else .own hd' (c::k::r')) else .own hd' (c::r)
theorem Ren.segD_ok{hd:Hd}{p s n:Nat}(hx:hd≠.x 0):(Ren.segD hd p s n).Ok:=by
 have cl : ∀ (a:Hd) (q:List Nat),(∃ c r,a= .x 0/\q=c::r/\c<n/\Ren.segD hd p s n a q= .own hd (p::(s+c)::r))\/Ren.segD hd p s n a q= .frz\/(Ren.segD hd p s n a q= .own a q/\∀ c r,¬ (a=hd/\q=p::(s+c)::r/\c<n)):=by
  intro a q
  match q with
  |[]=>exact .inr (.inr ⟨rfl,λ c r h=>by cases h.2.1⟩)
  | c :: r=>
    by_cases h1:a= .x 0/\c<n
    . exact .inl ⟨c,r,h1.1,rfl,h1.2,by simp only[Ren.segD];rw[Ac h1]⟩
    . by_cases h2:a=hd/\c=p
      . match r with
        |[]=>exact .inr (.inr ⟨by simp only[Ren.segD];rw[Ae h1,Ac h2],λ c' r' h=>by cases h.2.1⟩)
        | k::r'=>
          by_cases h3:s<=k/\k<s+n
          . exact .inr (.inl (by simp only[Ren.segD];rw[Ae h1,Ac h2,Ac h3]))
          . refine .inr (.inr ⟨by simp only[Ren.segD];rw[Ae h1,Ac h2,Ae h3],λ c' r'' h=>?_⟩);obtain⟨_,e,hlt⟩:=h;simp at e;omega
      . refine .inr (.inr ⟨by simp only[Ren.segD];rw[Ae h1,Ae h2],λ c' r'' h=>?_⟩);obtain⟨e1,e,_⟩:=h;simp at e;exact h2 ⟨e1,e.1⟩
 refine⟨λ a q a' q' x c e e'=>?_,λ a q=>?_⟩
 . rcases cl a q with⟨c1,r1,rfl,rfl,hc1,h1⟩|h1|⟨h1,n1⟩
   . rw[h1] at e;cases e;rcases cl a' q' with⟨c2,r2,rfl,rfl,hc2,h2⟩|h2|⟨h2,n2⟩
     . rw[h2] at e';simp at e';exact⟨rfl,by rw[e'.1,e'.2]⟩
     . rw[h2] at e';cases e'
     . rw[h2] at e';cases e';exact absurd ⟨rfl,rfl,hc1⟩ (n2 c1 r1)
   . rw[h1] at e;cases e
   . rw[h1] at e;cases e;rcases cl a' q' with⟨c2,r2,rfl,rfl,hc2,h2⟩|h2|⟨h2,n2⟩
     . rw[h2] at e';cases e';exact absurd ⟨rfl,rfl,hc2⟩ (n1 c2 r2)
     . rw[h2] at e';cases e'
     . rw[h2] at e';cases e';exact⟨rfl,rfl⟩
 . rcases cl a q with⟨c1,r1,_,_,_,h1⟩|h1|⟨h1,_⟩
   . exact .inr ⟨_,_,h1⟩
   . exact .inl h1
   . exact .inr ⟨_,_,h1⟩
theorem Ren.segD_still{hd:Hd}{p s n:Nat}{c:Hd}(h1:c≠hd)(h2:c≠.x 0):(Ren.segD hd p s n).still c:=λ q=>by
 match q with
 |[]=>rfl
 |c'::r=>simp only[Ren.segD];rw[Ae (λ h=>h2 h.1),Ae (λ h=>h1 h.1)]
theorem Ren.segD_mv{hd:Hd}{p s n c:Nat}(hc:c<n)(r:List Nat):Ren.segD hd p s n (.x 0) (c::r)= .own hd (p::(s+c)::r):=by
 simp only[Ren.segD];rw[Ac ⟨trivial,hc⟩]
theorem Ren.segD_oth{hd:Hd}{p s n c:Nat}(hx:hd≠.x 0)(hc:c≠p)(r:List Nat):Ren.segD hd p s n hd (c::r)= .own hd (c::r):=by
 simp only[Ren.segD];rw[Ae (λ h=>hx h.1),Ae (λ h=>hc h.2)]
theorem Ren.segD_in{hd:Hd}{p s n k:Nat}(hx:hd≠.x 0)(hk:¬ (s<=k/\k<s+n))(r:List Nat):Ren.segD hd p s n hd (p::k::r)= .own hd (p::k::r):=by
 simp only[Ren.segD];rw[Ae (λ h=>hx h.1),Ac ⟨trivial,trivial⟩,Ae hk]
theorem Ren.segD_top{hd:Hd}{p s n:Nat}(hx:hd≠.x 0):Ren.segD hd p s n hd [p]= .own hd [p]:=by
 simp only[Ren.segD];rw[Ae (λ h=>hx h.1),Ac ⟨trivial,trivial⟩]
theorem Zcc{hd:Hd}{p s n:Nat}(a:Hd)(q:List Nat)(i:Nat)(r:List Nat)(e:Ren.segD hd p s n a q= .own (.h i) r):a= .h i\/hd= .h i:=by
 match q with
 |[]=>cases e;exact .inl rfl
 | c :: r'=>
   simp only[Ren.segD] at e;split at e
   . cases e;exact .inr rfl
   . split at e
     . split at e
       . cases e;exact .inl rfl
       . split at e
         . cases e
         . cases e;exact .inl rfl
     . cases e;exact .inl rfl
theorem LQ(es:List (List PV))(j:Nat)(e:List PV):(Df es j e).length=es.length:=by
 induction es generalizing j with
 |nil=>rfl
 | cons x r ih=>cases j with
   |zero=>rfl
   |succ j=>simp[Df,ih]
theorem ZaM(es:List (List PV))(j k:Nat)(e:List PV):Cl (Df es j e) k=if k=j/\j<es.length then e else Cl es k:=by
 induction es generalizing j k with
 |nil=>simp[Df,Cl]
 | cons x r ih=>cases j with
   | zero=>cases k with
     |zero=>simp[Df,Cl]
     |succ k=>simp[Df,Cl]
   | succ j=>cases k with
     |zero=>simp[Df,Cl]
     |succ k=>simp only[Df,Cl,ih,AH];congr 1;simp
theorem cD{w:Nat}{es:List (List PV)}(hw:∀ e∈es,e.length=w){j:Nat}{e:List PV}(he:e.length=w):∀ x∈Df es j e,x.length=w:=by
 induction es generalizing j with
 |nil=>simp[Df]
 | cons x r ih=>cases j with
   |zero=>simp only[Df,Cz];rintro y (rfl|h);exact he;exact hw y (by simp[h])
   |succ j=>simp only[Df,Cz];rintro y (rfl|h);exact hw y (by simp);exact ih (λ e h=>hw e (by simp[h])) y h
section
variable {h0:Ad} {ω0 ω:Nat->W} {ρ ρ':Nat->Nat} {st st' st1:PS} {us us':St} {X X':CK}
theorem RS.rent (R:RS h0 ω0 ω ρ st us X) {f:Ren} (hf:f.Ok) (hh:∀ l a q i r,ω l= .own a q->f a q= .own (.h i) r->i<st'.hp.length) {l0:Nat} {hd0:Hd} {p0:List Nat} (hl0:ω l0= .own hd0 p0)
 (ht:∀ l,l≠l0->us'.hp[l]?=us.hp[l]?) (hk:∃ b,us'.hp[l0]?=some b/\b.k= .own) (hlen:us'.hp.length=us.hp.length)
 (hA:∀ hd p,cT f ω (λ l=>l == l0) (Ai ρ st us X) (Ai ρ st' us' X' hd p) hd p\/CD (Ai ρ st' us' X' hd p).1/\RC us'.hp (λ l=>Ag.ren f (ω l)) (.at hd p) (Ai ρ st' us' X' hd p).1 (Ai ρ st' us' X' hd p).2)
 (hs:∀ t,AZ (Aa st'.sl t) (get us'.sl t)) (hx:∀ i,AZ (X' i).1 (X' i).2) (l1:st'.sl.length=us'.sl.length) (l2:st'.bx.length=us'.bx.length)
 (l3:∀ i,(Aj st'.bx i).length=(AW us'.bx i).length) (c1:∀ i c,(Aa (Aj st'.bx i) c).lay=true) (c2:∀ i c,(Aa (Aj st'.hp i) c).lay=true)
 (l4:st'.hp.length=st.hp.length) (l5:∀ i,i<st.hp.length->(A5 us'.hp (ρ i)).length=(Aj st'.hp i).length):RS h0 ω0 (λ l=>Ag.ren f (ω l)) ρ st' us' X':=by
 have t:Tr us.hp ω us'.hp (λ l=>Ag.ren f (ω l)) f (λ l=>(l == l0)=true):=
  ⟨λ l e=>⟨by simp[e,Ag.ren],ht l (by rintro rfl;rw[hl0] at e;cases e)⟩,λ l hd p e hn=>⟨by simp[e,Ag.ren],ht l (by simpa using hn)⟩,λ l i e=>by simp[e,Ag.ren]⟩
 have c:=R.core
 refine⟨⟨λ hd p=>?_,λ l l' hd p e e'=>?_,λ l l' i e e'=>c.injp l l' i (Es hf e) (Es hf e'),λ l e=>?_,λ l e=>?_⟩,hs,hx,l1,l2,l3,c1,c2,λ i hi=>?_,λ l i e=>?_,λ l i p e=>?_,?_,λ hd p i pb tp=>?_⟩
 . rcases hA hd p with⟨a,b,e,ho,hb⟩|h
   . have hnx:=R.nx a b;rw[e] at ho hb ⊢
     exact(R.core.rc a b).tr t (λ e'=>⟨λ l r h=>by simp[(ho e').1 l r h],(ho e').2⟩) (λ hb' pb tp e'=>by
      obtain⟨x,y,z⟩:=hb hb' pb tp e' (λ i h=>by subst h;exact hnx i pb tp e')
      exact⟨λ l q h=>by simp[x l q h],y,z⟩)
   . exact h.2
 . obtain⟨a,q,e1,e2⟩:=D3 e
   obtain⟨a',q',e1',e2'⟩:=D3 e';obtain⟨rfl,rfl⟩:=hf.inj a q a' q' hd p e2 e2';exact c.inj l l' a q e1 e1'
 . by_cases hl:l=l0
   . subst hl;exact hk
   . have:(∃ hd p,ω l= .own hd p)\/∃ i,ω l= .ptr i:=by
      rcases e with⟨hd,p,e⟩|⟨i,e⟩
      . obtain⟨x,q,e1,_⟩:=D3 e;exact .inl ⟨x,q,e1⟩
      . exact .inr ⟨i,Es hf e⟩
     obtain⟨b',h1',h2'⟩:=R.core.kind l this;exact⟨b',by rw[ht l hl];exact h1',h2'⟩
 . rw[hlen]
   exact c.notNone l (by intro h;rw[h] at e;cases e)
 . rw[l4] at hi
   exact⟨by simp[(R.hp i hi).1,Ag.ren],l5 i hi⟩
 . rw[l4];exact R.bdp l i (Es hf e)
 . obtain⟨a,q,e1,e2⟩:=D3 e
   exact hh l a q i p e1 e2
 . have F:=R.fr.ren f
   refine⟨by rw[hlen];exact F.len,λ l hl e=>?_,F.new,F.ptr⟩;obtain⟨a,b⟩:=F.old l hl e;refine⟨?_,b⟩;rw[ht l,a];rintro rfl;obtain⟨_,b'⟩:=R.fr.old l hl e;rw[hl0] at b';rcases e with e|e<;>rw[e] at b'<;>cases b'
 . rcases hA hd p with⟨a,b,e,_⟩|h
   . rw[e];exact R.nx a b i pb tp
   . exact h.1 i pb tp
theorem RC.lay_inn{H:Ad}{hd:Hd}{p:List Nat}{v:PV}{u:V}(r:RC H ω (.at hd p) v u)(hlay:v.lay=true):RC H ω (.inn hd p) v u:=by
 cases r with
 |undef=>exact .undef _ _
 |v _ _ hx=>exact .v _ _ hx
 |nil=>exact .nil _ _
 | sl _ q es' l o n b h1 hk hc hne hn hw hle hr=>
   cases q with
   |bor=>simp[PV.lay] at hlay
   |pre=>simp[PV.lay] at hlay
   |frz=>exact .sl _ _ _ _ _ _ b h1 hk hc hne hn hw hle hr
   |own=>exact .sl _ _ _ _ _ _ b h1 hk hc hne hn hw hle hr
   |ownw=>exact .sl _ _ _ _ _ _ b h1 hk hc hne hn hw hle hr
 |ep=>simp[PV.lay] at hlay
 |box=>simp[PV.lay] at hlay
 |ptr=>simp[PV.lay] at hlay
theorem kh{w:Nat}{es:List (List PV)}(hw:∀ e∈es,e.length=w){j o:Nat}{vs:List PV}(hj:j<es.length)(hle:o+vs.length<=w)(k:Nat)(hk:k<es.length*w) :
 Aa (Df es j (AM (Cl es j) o vs)).flatten k=if j*w+o<=k/\k<j*w+o+vs.length then Aa vs (k-(j*w+o)) else Aa es.flatten k:=by
 have hw0:0<w:=by rcases dt w with h|h;(· rw[h] at hk;simp at hk);(· exact h)
 have hel:=W8 hw hj
 have e1:=KM (w:=w) (cD (j:=j) (e:=AM (Cl es j) o vs) hw (by rw[Hq];exact hel)) (k / w) (k % w) (KS _ hw0)
 have e2:=KM (w:=w) hw (k / w) (k % w) (KS _ hw0)
 have hd1:k / w*w+k % w=k:=by rw[Xh];exact XL k w
 rw[hd1] at e1 e2
 have hm:=KS k hw0
 rw[e1,ZaM]
 by_cases hkj:k / w=j
 . rw[Ac ⟨hkj,hj⟩,Iv _ _ _ _ (by omega),<- hkj]
   have:(o<=k % w/\k % w<o+vs.length)↔(k / w*w+o<=k/\k<k / w*w+o+vs.length):=by omega
   by_cases hc:o<=k % w/\k % w<o+vs.length
   . rw[Ac hc,Ac (this.1 hc)];congr 1;omega
   . rw[Ae hc,Ae (λ h=>hc (this.2 h)),e2]
 . rw[Ae (λ h=>hkj h.1),<- e2,Ae]
   rintro⟨h1,h2⟩;apply hkj
   have h3:k<(j+1)*w:=by rw[EJ];omega
   have h4:j<=k / w:=(Nat.le_div_iff_mul_le hw0).2 (by omega);have h5:k / w<j+1:=(Xn hw0).2 h3;omega
theorem zK (R:RS h0 ω0 ω ρ st us X0) {n:Nat} {a x:Opnd} {v w:PV} {s:PS} {hd:Hd} {p:Nat} {esa es:List (List PV)} {j o:Nat} (emo:Ag.mvOut x st=(w,s)) (hx:a.pev s.sl= .ep (.bor hd [p] true) esa j o) (hg:Ds s hd [p]= .sl .own es)
 (e:(if j<es.length/\w.cells.length=n/\o+n<=(Cl es j).length/\BJ w.cells=true then some (PV.fl V.undef,setK s (.sl .own (Df es j (AM (Cl es j) o w.cells))) hd [p]) else none)=some (v,st1)):Out2 (.storeH n a x) us h0 ω0 v st1:=by
 obtain⟨ω1,R1⟩:=R.mv0 x
 rw[emo] at R1
 simp only at R1
 split at e
 . rename_i hcnd
   obtain⟨c1,c2,c3,c4⟩:=hcnd;cases e;subst c2;obtain⟨k1,k2,k3,k4⟩:=R1.hand_cells (i:=0) (v:=w) (u:=x.ev us.sl) rfl c4;obtain⟨a1,a2,a3,a4,a5,a6,a7,a8,a9,a10,a11,a12⟩:=RJ (X':=X0) (v:=.sl .own (Df es j (AM (Cl es j) o w.cells))) R1 hg (.inr ⟨_,_,rfl⟩) rfl;have rh:=R1.core.rc hd [p];rw[a11] at rh;simp only at rh;generalize hfu:(Ai ρ s us (X1 w (x.ev us.sl)) hd [p]).2=uh at rh a1 a11;obtain⟨hdx,_,rx⟩:=R1.ev_one hx (λ _ h=>(by cases h)) (λ _ h=>(by cases h)) (λ _ h=>(by cases h));generalize hau:a.ev us.sl=ua at rx
   cases rx with
   | ep _ _ _ _ _ l o1 pp b h1 hk hq hc hw hle hr hp=>
     obtain⟨hl,rfl⟩:=hc.2 rfl
     cases rh with
     |nil=>simp at c1
     | sl _ _ _ l' o' n' b' h1' hk' hc' hne' hn' hw' hle' hr'=>
       have hll:l'=l:=R1.core.inj l' l hd [p] hc'.1 hl;subst hll;rw[h1] at h1';cases h1';obtain⟨_,rfl,hbk⟩:=hc';subst hn';have hel:=W8 hw' c1;rw[hel] at c3;have hjw:(j+1)*b.w<=es.length*b.w:=KR _ c1;rw[EJ,GD] at hjw
       have hpp:pp=j*b.w+o:=by omega
       subst hpp
       have hwr:wr us.hp l' (j*b.w+o) (x.ev us.sl).cells=some (us.hp.set l' { b with cs:=splice b.cs (j*b.w+o) (x.ev us.sl).cells }):=by
        rw[wr,h1];simp only;rw[Ac ⟨hbk,by rw[k1];omega⟩]
       have hlt:l'<us.hp.length:=Ce h1
       have hset:∀ k,(us.hp.set l' { b with cs:=splice b.cs (j*b.w+o) (x.ev us.sl).cells })[k]?=if k=l' then some { b with cs:=splice b.cs (j*b.w+o) (x.ev us.sl).cells } else us.hp[k]?:=by
        intro k;rw[G7];by_cases h:l'=k
        . subst h;simp[hlt]
        . rw[Ae h,Ae (λ h'=>h h'.symm)]
       have hV:∀ k,k<s.hp.length->A5 (us.hp.set l' { b with cs:=splice b.cs (j*b.w+o) (x.ev us.sl).cells }) (ρ k)=A5 us.hp (ρ k):=by
        intro k hk'
        have:ρ k≠l':=by intro e;have:=(R1.hp k hk').1;rw[e,hl] at this;cases this
        simp only[A5,hset,Ae this]
       have hx0:hd≠.x 0:=a10 0;have hok:=Ren.segD_ok (hd:=hd) (p:=p) (s:=j*b.w+o) (n:=w.cells.length) hx0
       have t:Tr us.hp ω1 (us.hp.set l' { b with cs:=splice b.cs (j*b.w+o) (x.ev us.sl).cells }) (λ l=>Ag.ren (Ren.segD hd p (j*b.w+o) w.cells.length) (ω1 l)) (Ren.segD hd p (j*b.w+o) w.cells.length) (λ l=>(l == l')=true):=
        ⟨λ l e=>⟨by simp[e,Ag.ren],by rw[hset,Ae];rintro rfl;rw[hl] at e;cases e⟩,λ l hd p e hn=>⟨by simp[e,Ag.ren],by rw[hset,Ae (by simpa using hn)]⟩,λ l i e=>by simp[e,Ag.ren]⟩
       have notl:∀ l a q,ω1 l= .own a q->¬ (a=hd/\q=[p])->(l == l')=false:=by
        intro l a q e hn
        cases he:l == l' with
        |false=>rfl
        | true=>
          have:l=l':=by simpa using he
          rw[this,hl] at e;cases e;exact absurd ⟨rfl,rfl⟩ hn
       have hes':∀ e∈Df es j (AM (Cl es j) o w.cells),e.length=b.w:=cD hw' (by rw[Hq];exact hel)
       have rnew:RC (us.hp.set l' { b with cs:=splice b.cs (j*b.w+o) (x.ev us.sl).cells }) (λ l=>Ag.ren (Ren.segD hd p (j*b.w+o) w.cells.length) (ω1 l)) (.at hd [p]) (.sl .own (Df es j (AM (Cl es j) o w.cells))) (.slice l' 0 es.length):=by
        refine RC.sl _ .own _ l' 0 _ { b with cs:=splice b.cs (j*b.w+o) (x.ev us.sl).cells } (by rw[hset,Ac rfl]) hk ⟨by simp only[hl,Ag.ren];exact Ren.segD_top hx0,rfl,hbk⟩ (λ _ _ h=>by have:=congrArg List.length h;rw[LQ] at this;simp only[AJ] at this;omega) (by rw[LQ]) hes' (by simp only[LQ,GZ];exact hle') λ k hk'=>?_
        simp only[LQ] at hk';simp only[Cf];rw[kh hw' c1 c3 k hk',V1 _ _ _ _ (by rw[k1];omega),k1];split
        . rename_i hcc;have hlay:=(Gn c4 (k-(j*b.w+o))).1;refine((k3 (k-(j*b.w+o))).lay_inn hlay).inn t (λ l r e=>?_) (λ r=>?_)
          . rw[notl l _ _ e (λ h=>hx0 h.1.symm)];simp
          . simp only[Eg,CW,Md.sub];rw[Ren.segD_mv (by omega),show j*b.w+o+(k-(j*b.w+o))=k by omega]
        . rename_i hcc;have r:=hr' k hk';rw[Cf] at r;refine r.inn t (λ l r e=>?_) (λ r=>?_)
          . rw[notl l _ _ e (by simp)];simp
          . simp only[Eg,CW,Md.sub];exact Ren.segD_in hx0 hcc r
       have hfam:∀ hd' q,Ai ρ (setK s (.sl .own (Df es j (AM (Cl es j) o w.cells))) hd [p]) { us with hp:=us.hp.set l' { b with cs:=splice b.cs (j*b.w+o) (x.ev us.sl).cells } } X0 hd' q=Ai ρ (setK s (.sl .own (Df es j (AM (Cl es j) o w.cells))) hd [p]) us X0 hd' q\/(Ai ρ (setK s (.sl .own (Df es j (AM (Cl es j) o w.cells))) hd [p]) { us with hp:=us.hp.set l' { b with cs:=splice b.cs (j*b.w+o) (x.ev us.sl).cells } } X0 hd' q).1= .fl .undef:=by
        intro hd' q
        cases hd' with
        | h i=>
          rcases BN i s.hp.length with hi|hi
          . left;simp only[Ai,hV i hi]
          . right
            have hz:Aj (setK s (.sl .own (Df es j (AM (Cl es j) o w.cells))) hd [p]).hp i=[]:=by rw[Dx,BV (by rw[a8];exact hi)];rfl
            simp only[Ai,hz];unfold A9;split<;>rfl
        |_=>left;rfl
       have hstep:Af (.storeH w.cells.length a x) us=some (.undef,us.bx,us.hp.set l' { b with cs:=splice b.cs (j*b.w+o) (x.ev us.sl).cells }):=by
        simp only[Af,hau];rw[Ac ⟨k1,k2⟩,hwr];rfl
       refine Z1 (o:=.storeH w.cells.length a x) hstep (RS.rent (l0:=l') (X':=X0) R1 hok (λ l a q i r e0 e=>?_) hl (λ l hn=>by simp only[hset,Ae hn]) ⟨{ b with cs:=splice b.cs (j*b.w+o) (x.ev us.sl).cells },by simp only[hset,Ac],hbk⟩ (by simp) (λ hd' q=>?_) a2 (λ i=>Bd _) (by rw[a3];exact R1.lsl) (by rw[a4];exact R1.lbx) (λ i=>by rw[a5];exact R1.lb i) a6 a7 a8 (λ i hi=>by simp only[hV i hi,a9];exact(R1.hp i hi).2))
       . rw[a8];rcases Zcc a q i r e with rfl|rfl
         . exact R1.bdh l i q e0
         . exact R1.bdh l' i [p] hl
       . simp only [AOp.clears];rcases hfam hd' q with hf|hf
         . rw[hf];by_cases hxx:∃ i,hd'= .x i
           . obtain⟨i,rfl⟩:=hxx;exact .inr (AS (G8 i q))
           . rcases a1 hd' q (λ i h=>hxx ⟨i,h⟩) with h|⟨rfl,rfl,h3⟩|⟨e1,e2,e3⟩
             . exact .inr (AS h)
             . refine .inr ?_;rw[h3];exact⟨λ i pb tp=>by simp[PV.q],rnew⟩
             . rw[e1];refine .inl ⟨hd',q,rfl,λ hown=>?_,λ hb pb tp e' hxb=>?_⟩
               . by_cases hh:hd'=hd
                 . subst hh;rcases a12 q with h|⟨c',rfl⟩
                   . rw[h] at hown;cases hown
                   . have hcc:c'≠p:=λ h=>e2 ⟨rfl,by rw[h]⟩
                     exact⟨λ l r e=>notl l _ _ e (λ h=>hcc (by simpa using congrArg (λ z=>z.head?) h.2)),λ r=>Ren.segD_oth hx0 hcc r⟩
                 . exact⟨λ l r e=>notl l _ _ e (λ h=>hh h.1),λ r=>Ren.segD_still hh (λ h=>hxx ⟨0,h⟩) _⟩
               . have hne:=e3 hb pb tp e';have:(Ren.segD hd p (j*b.w+o) w.cells.length).still hb:=Ren.segD_still hne (hxb 0);exact⟨λ l q e=>notl l _ _ e (λ h=>hne h.1),λ _=>this,this.soft⟩
         . exact .inr (AS hf)
 . cases e
end
section
variable {h0:Ad} {ω0 ω:Nat->W} {ρ ρ':Nat->Nat} {st st' st1:PS} {us us':St} {X X':CK}
theorem ZbI(R:RS h0 ω0 ω ρ st us X0){m:Bool}{n:Option Nat}{a:Opnd}{v:PV}(hn:Mk m n (a.pev st.sl) st=some (some v)):Out2 (.loadH n a) us h0 ω0 v st:=by cases hn
theorem ZbH(R:RS h0 ω0 ω ρ st us X0){m:Bool}{n:Option Nat}{a:Opnd}{v:PV}{i c:Nat}(hx:(a.pev st.sl).nestX i c=true)(hn:Mk m n (a.pev st.sl) st=some (some v)):Out2 (.loadX i c n a) us h0 ω0 v st:=by cases hn
theorem Za0(R:RS h0 ω0 ω ρ st us X0){n:Nat}{a x:Opnd}{v:PV}{hd:Hd}{p k j o:Nat}(hn:(a.pev st.sl).nest=some (hd,p,k,j,o))(e:aP n hd p k j o (x.pev st.sl) st=some (v,st1)):Out2 (.storeH n a x) us h0 ω0 v st1:=by cases hn
end
def Ren.kp(live:List Nat):Ren:=λ hd p=>match hd with
 |.s t=>if live.contains t then .own (.s t) p else .frz
 |hd=>.own hd p
theorem Ren.kp_ok(live:List Nat):(Ren.kp live).Ok:=by
 have cl:∀ a p,Ren.kp live a p= .own a p\/Ren.kp live a p= .frz:=by
  intro a p
  cases a with
  |s t=>simp only[Ren.kp];split;exact .inl rfl;exact .inr rfl
  |_=>exact .inl rfl
 refine⟨λ hd p hd' p' x c e e'=>?_,λ hd p=>?_⟩
 . rcases cl hd p with h|h<;>rw[h] at e<;>cases e
   rcases cl hd' p' with h'|h'<;>rw[h'] at e'<;>cases e';exact⟨rfl,rfl⟩
 . rcases cl hd p with h|h
   . exact .inr ⟨_,_,h⟩
   . exact .inl h
theorem Ren.kp_soft(live:List Nat)(hd:Hd):(Ren.kp live).soft hd:=λ p=>by
 cases hd with
 |s t=>simp only[Ren.kp];split;exact .inr ⟨p,rfl⟩;exact .inl rfl
 |_=>exact .inr ⟨p,rfl⟩
theorem RC.detop{h:Ad}{ω:Nat->W}{hd:Hd}{p:List Nat}{v:PV}{u:V}(r:RC h ω (.at hd p) v u)(hs:v.sc):RC h ω (.at hd p) v.detop u:=by
 cases r with
 |undef=>exact .undef _ _
 |v _ _ hx=>exact .v _ _ hx
 |nil _ q=>cases q<;>exact .nil _ _
 | sl _ q es l o n b h1 hk hc hne hn hw hle hr=>
   cases q with
   |bor a c d=>exact .sl _ _ _ _ _ _ b h1 hk ⟨hc.1,λ e=>by cases e⟩ (by simp) hn hw hle hr
   |pre a c=>exact .sl _ _ _ _ _ _ b h1 hk ⟨.inl ⟨_,hc.1⟩,λ e=>by cases e⟩ (by simp) hn hw hle hr
   |frz=>exact .sl _ _ _ _ _ _ b h1 hk hc hne hn hw hle hr
   |own=>exact .sl _ _ _ _ _ _ b h1 hk hc hne hn hw hle hr
   |ownw=>exact .sl _ _ _ _ _ _ b h1 hk hc hne hn hw hle hr
 | ep _ q es j o' l o p2 b h1 hk hqo hc hw hle hr hp'=>
   cases q with
   |bor a c d=>exact .ep _ _ _ _ _ _ _ _ b h1 hk rfl ⟨hc.1,λ e=>by cases e⟩ hw hle hr hp'
   |pre a c=>exact .ep _ _ _ _ _ _ _ _ b h1 hk rfl ⟨.inl ⟨_,hc.1⟩,λ e=>by cases e⟩ hw hle hr hp'
   |frz=>exact .ep _ _ _ _ _ _ _ _ b h1 hk hqo hc hw hle hr hp'
   |own=>cases hqo
   |ownw=>cases hqo
 |box _ i o=>exact .box _ _ _
 |ptr _ _ i o l hl=>exact .ptr _ _ _ _ _ hl
theorem V8(cs:List PV)(c:Nat):Aa (PV.detopL cs) c=(Aa cs c).detop:=by
 induction cs generalizing c with
 |nil=>rfl
 | cons x r ih=>cases c with
   |zero=>rfl
   |succ c=>exact ih c
theorem jj(cs:List PV):(PV.detopL cs).length=cs.length:=by
 induction cs with
 |nil=>rfl
 |cons x r ih=>simp[PV.detopL,ih]
theorem ZaD{v:PV}(h:v.sc):v.detop.sc:=by
 cases v with
 |agg cs=>exact absurd rfl (h.1 _)
 |tup cs=>exact absurd rfl (h.2 _)
 |sl q es=>cases q<;>exact⟨λ _ h=>(by cases h),λ _ h=>(by cases h)⟩
 |ep q es j o=>cases q<;>exact⟨λ _ h=>(by cases h),λ _ h=>(by cases h)⟩
 |_=>exact h
theorem xo(v:PV)(p:List Nat):v.detop.fcell p=(v.fcell p).detop:=by
 have sc:∀ w:PV,w.sc->∀ p,w.detop.fcell p=(w.fcell p).detop:=by
  intro w hw p;have hd:=ZaD hw
  match p with
  |[0]=>rw[Iu hw.1 hw.2,Iu hd.1 hd.2]
  |[]=>cases w<;>first|exact absurd rfl (hw.1 _)|exact absurd rfl (hw.2 _)|rfl|(rename_i q _;cases q<;>rfl)|(rename_i q _ _ _;cases q<;>rfl)
  |(_+1)::_=>cases w<;>first|exact absurd rfl (hw.1 _)|exact absurd rfl (hw.2 _)|rfl|(rename_i q _;cases q<;>rfl)|(rename_i q _ _ _;cases q<;>rfl)
  |0::_::_=>cases w<;>first|exact absurd rfl (hw.1 _)|exact absurd rfl (hw.2 _)|rfl|(rename_i q _;cases q<;>rfl)|(rename_i q _ _ _;cases q<;>rfl)
 cases v with
 | agg cs=>
   match p with
   |[c]=>exact V8 cs c
   |[]=>rfl
   |_::_::_=>rfl
 | tup vs=>
   match p with
   | [i,c]=>
     show Aa (Aa (PV.detopL vs) i).cells c=(Aa (Aa vs i).cells c).detop;rw[V8];generalize Aa vs i=w
     cases w with
     |agg cs=>exact V8 cs c
     |sl q es=>cases q<;>cases c<;>rfl
     |ep q es j o=>cases q<;>cases c<;>rfl
     |_=>cases c<;>rfl
   |[]=>rfl
   |[_]=>rfl
   |_::_::_::_=>rfl
 |_=>exact sc _ ⟨λ _ h=>(by cases h),λ _ h=>(by cases h)⟩ p
theorem jr{v:PV}{u:V}(h:Shp1 v u):Shp1 v.detop u:=by
 cases v with
 |agg cs=>obtain⟨ws,h1,h2⟩:=h;exact⟨ws,h1,by rw[jj];exact h2⟩
 |tup cs=>exact h.elim
 |sl q es=>cases q<;>exact h
 |ep q es j o=>cases q<;>exact h
 |_=>exact h
theorem zE{v:PV}{u:V}(h:AZ v u):AZ v.detop u:=by
 cases v with
 |tup cs=>obtain⟨ws,h1,h2,h3⟩:=h;exact⟨ws,h1,by rw[jj];exact h2,λ i=>by rw[V8];exact jr (h3 i)⟩
 |agg cs=>exact jr (v:=.agg cs) h
 |sl q es=>cases q<;>exact h
 |ep q es j o=>cases q<;>exact h
 |_=>exact h
theorem RC.sc{h:Ad}{ω:Nat->W}{m:Md}{v:PV}{u:V}(r:RC h ω m v u):v.sc:=by
 cases r<;>exact⟨λ _ h=>(by cases h),λ _ h=>(by cases h)⟩
theorem mw{v:PV}:v.detop.qo=v.qo/\∀ hb pb tp,v.detop.q=some (.bor hb pb tp)->tp=false/\∃ pb' tp',v.q=some (.bor hb pb' tp'):=by
 cases v with
 |sl q es=>cases q<;>refine⟨rfl,λ hb pb tp e=>?_⟩<;>simp[PV.detop,PV.q] at e<;>first|(obtain⟨rfl,_,rfl⟩:=e;exact⟨rfl,_,_,rfl⟩)|skip
 |ep q es j o=>cases q<;>refine⟨rfl,λ hb pb tp e=>?_⟩<;>simp[PV.detop,PV.q] at e<;>first|(obtain⟨rfl,_,rfl⟩:=e;exact⟨rfl,_,_,rfl⟩)|skip
 |_=>exact⟨rfl,λ hb pb tp e=>by simp[PV.detop,PV.q] at e⟩
section
variable {h0:Ad} {ω0 ω:Nat->W} {ρ ρ':Nat->Nat} {st st' st1:PS} {us us':St} {X X':CK}
theorem RS.kp(R:RS h0 ω0 ω ρ st us X0)(live:List Nat):∃ ω',RS h0 ω0 ω' ρ { st with sl:=E9 live 0 st.sl } { us with sl:=keep live 0 us.sl } X0:=by
 have sl:∀ t,(Aa (E9 live 0 st.sl) t= .fl .undef)\/(live.contains t=true/\Aa (E9 live 0 st.sl) t=(Aa st.sl t).detop/\get (keep live 0 us.sl) t=get us.sl t):=by
  intro t;rw[z7,Za3,Cf]
  cases h:live.contains t with
  |true=>exact .inr ⟨rfl,rfl,rfl⟩
  |false=>exact .inl rfl
 have tr:=Tr.of_ren us.hp ω (Ren.kp live);refine⟨_,RS.ren (X':=X0) R (Ren.kp_ok live) (λ hd p i q e=>?_) (λ hd' p=>?_) rfl (λ t=>?_) (λ i=>Bd _) (by simp[y5,Zbn,R.lsl]) R.lbx R.lb R.cb R.ch rfl (λ _=>rfl)⟩
 . cases hd with
   |s t=>simp only[Ren.kp] at e;split at e<;>cases e
   |_=>first|(cases e;done)|(cases e;rfl)
 . cases hd' with
   |x i=>exact .inr (AS (G8 i p))
   | s t=>
     simp only[Ai];rcases sl t with h|⟨hl,h1,h2⟩
     . refine .inr ?_;rw[h];exact DI (A4 p)
     . rw[h1,h2,xo];have r:=R.core.rc (.s t) p;simp only[Ai] at r;have hnx:=R.nx (.s t) p;simp only[Ai] at hnx;refine .inr ⟨λ i pb tp e=>?_,?_⟩
       . obtain⟨_,pb',tp',e'⟩:=(mw).2 _ _ _ e;exact hnx i pb' tp' e'
       . refine(r.detop r.sc).tr tr (λ e=>⟨λ _ _ _=>id,λ r=>by simp[Ren.kp];simpa using hl⟩) (λ hb pb tp e=>?_);obtain⟨h,_⟩:=(mw).2 _ _ _ e;exact⟨λ _ _ _=>id,λ h'=>(by rw[h] at h';cases h'),Ren.kp_soft live hb⟩
   |b i=>exact .inl (Bl rfl (λ _ _=>rfl) λ hb pb tp e'=>absurd e' (R.nobor_b i p hb pb tp))
   |h i=>exact .inl (Bl rfl (λ _ _=>rfl) λ hb pb tp e'=>absurd e' (R.nobor_h i p hb pb tp))
 . rcases sl t with h|⟨_,h1,h2⟩
   . simp only[h];exact Bd _
   . simp only[h1,h2];exact zE (R.sh t)
theorem RS.trim(R:RS h0 ω0 ω ρ st us X0)(live:List Nat):RS h0 ω0 ω ρ { st with sl:=GF live 0 st.sl } us X0:=by
 have sl:∀ t,Aa (GF live 0 st.sl) t= .fl .undef\/Aa (GF live 0 st.sl) t=Aa st.sl t:=by
  intro t;rw[zr,Cf];split
  . exact .inr rfl
  . exact .inl rfl
 have:=RS.ren (st':={ st with sl:=GF live 0 st.sl }) (us':=us) (X':=X0) R Ren.id_ok (λ hd p i q e=>by simp[Ren.id] at e;exact e.1) (λ hd' p=>?_) rfl (λ t=>?_) R.shx (by simp[Zah,R.lsl]) R.lbx R.lb R.cb R.ch rfl (λ _=>rfl)
 . rwa [DQ] at this
 . cases hd' with
   |x i=>exact .inl (Bm rfl)
   |b i=>exact .inl (Bm rfl)
   |h i=>exact .inl (Bm rfl)
   | s t=>
     simp only[Ai];rcases sl t with h|h
     . refine .inr ?_;rw[h];exact DI (A4 p)
     . rw[h];exact .inl (Bm rfl)
 . simp only;rcases sl t with h|h
   . rw[h];exact Bd _
   . rw[h];exact R.sh t
theorem VX(R:RS h0 ω0 ω ρ st us X0){m:Bool}{o:AOp}{v:PV}(e:Bq m o st=some (v,st1)):Out2 o us h0 ω0 v st1:=by
 have ws:∀ {o:Option PV} {v:PV} {st1:PS},Dy st o=some (v,st1)->o=some v/\st1=st:=by
  intro o v st1 e
  cases o with
  |none=>cases e
  |some x=>simp only[Dy,Cv,Ak,Al] at e;exact⟨by rw[e.1],e.2.symm⟩
 cases o with
 | mv x=>
   simp only[Bq,Ak] at e;have:=Zd9 R m x;rw[e] at this;exact this
 |nilck x=>obtain⟨e,rfl⟩:=ws e;exact Zcp R e
 | pick c a b=>
   simp only[Bq] at e;split at e
   . rename_i t hc;simp only[Ak] at e;have:=ZcG R (a:=a) (b:=b) hc;rw[e] at this;exact this
   . cases e
 | allocB i zs=>
   simp only[Bq] at e;split at e
   . rename_i h;cases e;exact Za9 R h.1 h.2
   . cases e
 |boxB i n x=>exact Zc2 R e
 | allocH zs=>
   simp only[Bq] at e;split at e
   . rename_i h;cases e;exact ZaJ R h
   . cases e
 |boxH n x=>exact ZcI R e
 |build zs ps=>exact Zcl R e
 | mkSlice w z len=>
   simp only[Bq] at e;split at e
   . rename_i n hl;split at e
     . rename_i h;cases e;exact zk R hl h.1 h.2.1 h.2.2.1 h.2.2.2.1 h.2.2.2.2
     . cases e
   . cases e
 |litSlice w n zs ps=>exact yN R e
 |loadB i n a=>exact l8 R e
 | loadH n a=>
   simp only[Bq] at e
   cases hn:Mk m n (a.pev st.sl) st with
   |none=>rw[hn] at e;exact mO R e
   | some r=>
     rw[hn] at e;obtain⟨e2,rfl⟩:=ws e;rw[e2] at hn;exact ZbI R hn
 | loadX i c n a=>
   simp only[Bq] at e;split at e
   . rename_i hx
     cases hn:Mk m n (a.pev st.sl) st with
     |none=>rw[hn] at e;cases e
     | some r=>
       rw[hn] at e;obtain⟨e2,rfl⟩:=ws e;rw[e2] at hn;exact ZbH R hx hn
   . cases e
 |storeB i n a x=>exact ZaU R e
 | storeH n a x=>
   simp only[Bq] at e;split at e
   . rename_i hd p k j o hn;exact Za0 R hn e
   unfold RQ at e;split at e;rename_i w s emo;split at e
   . rename_i i o hx;exact zH R emo hx e
   . rename_i hd p esa j o hx;split at e
     . rename_i es hg;exact zK R emo hx hg e
     . cases e
   . cases e
 |bin op x y=>obtain⟨e,rfl⟩:=ws e;exact Zdx R e
 |eqB neg x y=>obtain⟨e,rfl⟩:=ws e;exact ZdI R e
 | eqN neg x y=>
   simp only[Bq] at e;split at e
   . obtain⟨e,rfl⟩:=ws e;exact Zdz R e
   . cases e
 |eqA n neg x y=>obtain⟨e,rfl⟩:=ws e;exact Zdu R e
 |un op x=>obtain⟨e,rfl⟩:=ws e;exact Zea R e
 |conv k x=>obtain⟨e,rfl⟩:=ws e;exact ZcM R e
 |bstr x=>obtain⟨e,rfl⟩:=ws e;exact ZcF R e
 |slice w x lo hi=>obtain⟨e,rfl⟩:=ws e;exact ZcE R e
 |substr x lo hi=>obtain⟨e,rfl⟩:=ws e;exact ZaA R e
 |fieldA off a=>obtain⟨e,rfl⟩:=ws e;exact Za2 R e
 |field off n x=>obtain⟨e,rfl⟩:=ws e;exact Zcm R e
 |indexA w x i=>obtain⟨e,rfl⟩:=ws e;exact Zbf R e
 |index x i=>obtain⟨e,rfl⟩:=ws e;exact ZbS R e
 |len x=>obtain⟨e,rfl⟩:=ws e;exact ZdB R e
 |lenT x=>obtain⟨e,rfl⟩:=ws e;exact ZcO R e
 |app w x y=>exact oe R e
 | appN w x y=>
   simp only[Bq] at e;split at e
   . rename_i hx;obtain⟨u,bx,hp,ω',ρ',h1,h2⟩:=oe R e;refine⟨u,bx,hp,ω',ρ',?_,h2⟩;obtain⟨hd,_,r⟩:=R.ev_one hx (λ _ h=>(by cases h)) (λ _ h=>(by cases h)) (λ _ h=>(by cases h));rw[aW ?_]
     . exact h1
     . generalize x.ev us.sl=u at r
       cases r with
       |nil=>rfl
       |sl _ _ _ l o n b h1 hk hc hne=>exact absurd rfl (hne rfl (.inl rfl))
   . cases e
 |minI x y=>obtain⟨e,rfl⟩:=ws e;exact Zdr R e
 |maxI x y=>obtain⟨e,rfl⟩:=ws e;exact ZdJ R e
 | extract x i=>
   simp only[Bq] at e;split at e
   . rename_i t;split at e
     . rename_i vs ht;split at e
       . rename_i hi;exact y9 R ht hi e
       . cases e
     . cases e
   . cases e
 |callB kp f args=>cases e
end
def ZdH(ω:Nat->W):Prop:=∀ l hd p,ω l= .own hd p->∃ i,hd= .h i
def PV.nob(v:PV):Prop:=∀ p hb pb tp,(v.fcell p).q≠some (.bor hb pb tp)
def D4(f:Be)(p:Cb):Prop:=∀ (h:Ad) (ω0:Nat->W) (ρ:Nat->Nat) (args:List PV) (us:List V) (H:List (List PV)) (Q:PV->List (List PV)->Prop) (K:V->Ad->Prop),
 RS h ω0 ω0 ρ ⟨args,[],H⟩ ⟨us,[],h⟩ X0->ZdH ω0->p args H Q ->
 (∀ u h' r H' ω' ρ',Q r H'->RS h ω0 ω' ρ' ⟨[],[],H'⟩ ⟨[],[],h'⟩ (X1 r u)->r.nob->K u h')->f us h K
theorem RC.fzA{h:Ad}{ω ωc:Nat->W}{hd hd':Hd}{p p':List Nat}{v:PV}{u:V}(r:RC h ω (.at hd p) v u)(hp:∀ i o,v≠.ptr i o)(hf:∀ l,ω l= .frz->ωc l= .frz)(ho:v.q=none\/v.q=some .frz\/∀ l a q,ω l= .own a q->ωc l= .frz):RC h ωc (.at hd' p') v.fz u:=by
 have ind:∀ (dm:Prop) {m:Md} {v:PV} {u:V},(∀ hd p,m≠.at hd p)->(dm->∀ l a q,ω l= .own a q->ωc l= .frz)->(m= .fz\/dm)->RC h ω m v u->RC h ωc .fz v u:=by
  intro dm m v u hm hd hdm r;refine r.map (S:=λ m m'=>(m= .fz\/(dm/\∀ hd p,m≠.at hd p))/\m'= .fz) ?_ ?_ ?_ (by rintro m m' ⟨_,rfl⟩ e;cases e) ⟨hdm.imp id (λ h=>⟨h,hm⟩),rfl⟩
  . rintro m m' q k ⟨rfl|⟨hdm,hm⟩,rfl⟩
    . exact⟨.inl rfl,rfl⟩
    . refine⟨.inr ⟨hdm,λ hd p h=>?_⟩,rfl⟩;cases m<;>cases q<;>simp[Md.sub] at h<;>exact absurd rfl (hm _ _)
  . rintro m m' q l o b ⟨rfl|⟨hdm,hm⟩,rfl⟩ hb hc
    . exact⟨hb,hf l hc⟩
    . refine⟨hb,?_⟩;have hd':=hd hdm
      cases m with
      |fz=>exact hf l hc
      |inn a b=>cases q<;>first|exact hf l hc|exact hd' l _ _ hc.1|exact hc.elim
      |un a=>cases q<;>first|exact hf l hc|(rcases hc with⟨p,hc⟩|hc;exact hd' l _ _ hc;exact hf l hc)|exact hc.elim
      |_=>exact absurd rfl (hm _ _)
  . rintro hd p m' ⟨h|⟨_,h⟩,_⟩
    . cases h
    . exact h hd p rfl
 have chkf:∀ (q:Ql) (l o:Nat) (b:Blk),(q= .frz\/∀ l a q,ω l= .own a q->ωc l= .frz)->chk ω (.at hd p) q l o b->ωc l= .frz:=by
  intro q l o b ho hc
  cases q with
  |frz=>exact hf l hc
  |own=>rcases ho with h|h;cases h;exact h l _ _ hc.1
  |ownw=>rcases ho with h|h;cases h;exact h l _ _ hc.1
  |bor=>rcases ho with h|h;cases h;rcases hc.1 with⟨p,hc⟩|hc;exact h l _ _ hc;exact hf l hc
  |pre=>rcases ho with h|h;cases h;exact h l _ _ hc.1
 have sub:∀ (q:Ql) (k:Nat) (v:PV) (u:V),(q= .frz\/∀ l a q,ω l= .own a q->ωc l= .frz)->RC h ω (Md.sub (.at hd p) q k) v u->RC h ωc .fz v u:=by
  intro q k v u ho r;refine ind (∀ l a q,ω l= .own a q->ωc l= .frz) ?_ id ?_ r
  . intro a b;cases q<;>simp[Md.sub]
  . rcases ho with rfl|h
    . exact .inl rfl
    . exact .inr h
 cases r with
 |undef=>exact .undef _ _
 |v _ _ hx=>exact .v _ _ hx
 |nil _ q=>exact .nil _ _
 | sl _ q es l o n b h1 hk hc hne hn hw hle hr=>
   have ho':q= .frz\/∀ l a q,ω l= .own a q->ωc l= .frz:=by
    rcases ho with h|h|h
    . cases q<;>simp[PV.q] at h
    . left;cases q<;>simp[PV.q] at h;rfl
    . exact .inr h
   exact .sl _ _ _ _ _ _ b h1 hk (chkf q l o b ho' hc) (by simp) hn hw hle λ k hk=>sub q k _ _ ho' (hr k hk)
 | ep _ q es j o' l o p2 b h1 hk hqo hc hw hle hr hp'=>
   have ho':q= .frz\/∀ l a q,ω l= .own a q->ωc l= .frz:=by
    rcases ho with h|h|h
    . exfalso;cases q<;>simp[PV.q] at h<;>cases hqo
    . left;cases q<;>simp[PV.q] at h;rfl
    . exact .inr h
   exact .ep _ _ _ _ _ _ _ _ b h1 hk rfl (chkf q l o b ho' hc) hw hle (λ k hk=>sub q k _ _ ho' (hr k hk)) hp'
 |box _ i o=>exact .box _ _ _
 |ptr _ _ i o l hl=>exact absurd rfl (hp i o)
theorem Zae{cs:List PV}(h:PV.holdL cs=false)(c:Nat):(Aa cs c).hold=false:=by
 induction cs generalizing c with
 |nil=>rfl
 | cons x r ih=>
   simp only[PV.holdL,Ca] at h
   cases c with
   |zero=>exact h.1
   |succ c=>exact ih h.2 c
theorem nE{v:PV}(h:v.hold=false)(hs:v.sc):v.q=none\/v.q=some .frz:=by
 cases v with
 |sl q es=>cases q<;>simp[PV.hold] at h;exact .inr rfl
 |ep q es j o=>cases q<;>simp[PV.hold] at h;exact .inr rfl
 |agg cs=>exact absurd rfl (hs.1 _)
 |tup cs=>exact absurd rfl (hs.2 _)
 |_=>exact .inl rfl
theorem kn{cs:List PV}(h:JR cs=true)(c:Nat):(Aa cs c).argc=true\/Aa cs c= .fl .undef:=by
 induction cs generalizing c with
 |nil=>exact .inr rfl
 | cons x r ih=>
   simp only[JR,Ah] at h
   cases c with
   |zero=>exact .inl h.1
   |succ c=>exact ih h.2 c
theorem kG{v:PV}(h:v.argok=true)(p:List Nat):(v.fcell p).sc/\(v.hold=false->(v.fcell p).q=none\/(v.fcell p).q=some .frz)/\(v.hasPtr=false->∀ i o,v.fcell p≠.ptr i o):=by
 have un:(PV.fl .undef).sc/\((PV.fl .undef).q=none\/(PV.fl .undef).q=some .frz)/\∀ i o,PV.fl .undef≠.ptr i o:=⟨Nc,.inl rfl,λ _ _ h=>by cases h⟩
 have hpL:∀ (cs:List PV) c,PV.hasPtrL cs=false->(Aa cs c).hasPtr=false:=by
  intro cs
  induction cs with
  |nil=>intro c _;rfl
  | cons x r ih=>
    intro c hc;simp only[PV.hasPtrL,Ca] at hc
    cases c with
    |zero=>exact hc.1
    |succ c=>exact ih c hc.2
 have np:∀ w:PV,w.hasPtr=false->∀ i o,w≠.ptr i o:=by rintro w hw i o rfl;cases hw
 cases v with
 | agg cs=>
   match p with
   | [c] =>
     have hs:(Aa cs c).sc:=by
      rcases kn h c with h1|h1
      . generalize Aa cs c=w at h1
        cases w<;>first|(cases h1;done)|exact⟨λ _ h=>(by cases h),λ _ h=>(by cases h)⟩
      . rw[h1];exact Nc
     exact⟨hs,λ hh=>nE (Zae hh c) hs,λ hh=>np _ (hpL cs c hh)⟩
   |[]=>exact⟨un.1,λ _=>un.2.1,λ _=>un.2.2⟩
   |_::_::_=>exact⟨un.1,λ _=>un.2.1,λ _=>un.2.2⟩
 |tup vs=>cases h
 | _=>
   match p with
   |[0]=>exact⟨⟨λ _ h=>(by cases h),λ _ h=>(by cases h)⟩,λ hh=>nE hh ⟨λ _ h=>(by cases h),λ _ h=>(by cases h)⟩,λ hh=>np _ hh⟩
   |[]=>exact⟨un.1,λ _=>un.2.1,λ _=>un.2.2⟩
   |(_+1)::_=>exact⟨un.1,λ _=>un.2.1,λ _=>un.2.2⟩
   |0::_::_=>exact⟨un.1,λ _=>un.2.1,λ _=>un.2.2⟩
theorem ZbP(cs:List PV):(PV.fzL cs).length=cs.length:=by
 induction cs with
 |nil=>rfl
 |cons x r ih=>simp[PV.fzL,ih]
theorem jn{v:PV}{u:V}(h:AZ v u)(hr:v.argok=true):AZ v.fz u:=by
 cases v with
 |agg cs=>obtain⟨ws,h1,h2⟩:=h;exact⟨ws,h1,by rw[ZbP];exact h2⟩
 |tup vs=>cases hr
 |_=>exact h
theorem nF{H:Ad}{ω:Nat->W}{m:Md}{v:PV}{u:V}(r:RC H ω m v u)(h:v.argc=true):u.cell=true:=by
 cases r with
 |undef=>simp[PV.argc,V.flat] at h
 |v _ _ hx=>cases u<;>first|rfl|simp[V.flat] at hx
 |nil=>rfl
 |sl=>rfl
 |ep=>cases h
 |box=>cases h
 |ptr=>rfl
theorem n6{h:Ad}{ω:Nat->W}{hd:Hd}{v:PV}{u:V}(ho:v.argok=true)(hs:AZ v u)(hr:∀ p,RC h ω (.at hd p) (v.fcell p) (u.fcell p)):u.ok1=true:=by
 have one:∀ {v:PV} {u:V},v.argc=true->v.sc->AZ v u->(∀ p,RC h ω (.at hd p) (v.fcell p) (u.fcell p))->u.ok1=true:=by
  intro v u ha hsc hs hr
  have hu:(∀ us,u≠.agg us)/\∀ us,u≠.tup us:=by
   cases v with
   |agg cs=>exact absurd rfl (hsc.1 _)
   |tup cs=>exact absurd rfl (hsc.2 _)
   |fl x=>cases x<;>first|exact hs|(simp[PV.argc,V.flat] at ha)
   |_=>exact hs
  have r:=hr [0];rw[Iu hsc.1 hsc.2,GS hu.1 hu.2] at r;have:=nF r ha
  cases u<;>first|exact this|exact absurd rfl (hu.1 _)|exact absurd rfl (hu.2 _)
 cases v with
 | agg cs=>
   obtain⟨ws,rfl,hl⟩:=hs;simp only[V.ok1,Dz];intro w hw;obtain⟨c,hc,rfl⟩:=IF hw;have r:=hr [c];have r':RC h ω (.at hd [c]) (Aa cs c) (get ws c):=r;rw[Dl,Bf hc] at r';rcases kn ho c with h1|h1
   . exact nF r' h1
   . exfalso
     have:c<cs.length:=by omega
     have hin:∀ (cs:List PV) c,c<cs.length->JR cs=true->(Aa cs c).argc=true:=by
      intro cs
      induction cs with
      |nil=>intro c h;simp at h
      | cons x r ih=>
        intro c h h';simp only[JR,Ah] at h'
        cases c with
        |zero=>exact h'.1
        |succ c=>exact ih c (by simpa using h) h'.2
     have:=hin cs c this ho;rw[h1] at this;simp[PV.argc,V.flat] at this
 |tup vs=>cases ho
 |fl x=>exact one (v:=.fl x) ho ⟨λ _ h=>(by cases h),λ _ h=>(by cases h)⟩ hs hr
 |sl q es=>exact one (v:=.sl q es) ho ⟨λ _ h=>(by cases h),λ _ h=>(by cases h)⟩ hs hr
 |ep q es j o=>exact one (v:=.ep q es j o) ho ⟨λ _ h=>(by cases h),λ _ h=>(by cases h)⟩ hs hr
 |box i o=>exact one (v:=.box i o) ho ⟨λ _ h=>(by cases h),λ _ h=>(by cases h)⟩ hs hr
 |ptr i o=>exact one (v:=.ptr i o) ho ⟨λ _ h=>(by cases h),λ _ h=>(by cases h)⟩ hs hr
theorem Rx{as:List PV}(h:JE as=true)(t:Nat)(ht:t<as.length):(Aa as t).argok=true:=by
 induction as generalizing t with
 |nil=>simp at ht
 | cons x r ih=>
   simp only[JE,Ah] at h
   cases t with
   |zero=>exact h.1
   |succ t=>exact ih h.2 t (by simpa using ht)
theorem RR(args:List Opnd)(s:List PV)(t:Nat):(t<args.length/\∃ x,args[t]?=some x/\Aa (args.map (·.pev s)) t=x.pev s)\/(args.length<=t/\Aa (args.map (·.pev s)) t= .fl .undef):=by
 rcases BN t args.length with h|h
 . exact .inl ⟨h,args[t],Bf h,by rw[E6,HD,Bf h];rfl⟩
 . exact .inr ⟨h,Gv _ _ (by simpa using h)⟩
theorem Xb(args:List Opnd)(s:List V)(t:Nat):(∀ x,args[t]?=some x->get (args.map (·.ev s)) t=x.ev s)/\(args.length<=t->get (args.map (·.ev s)) t= .undef):=by
 refine⟨λ x h=>?_,λ h=>?_⟩
 . rw[Dl,HD,h];rfl
 . rw[Dl,BV (by simpa using h)];rfl
theorem V2(as:List PV)(t:Nat):Aa (as.map PV.fz) t=(Aa as t).fz:=by
 rw[E6,E6,HD];cases as[t]?<;>rfl
section
variable {h0:Ad} {ω0 ω:Nat->W} {ρ ρ':Nat->Nat} {st st' st1:PS} {us us':St} {X X':CK}
def ωc(dm:Bool)(ω:Nat->W):Nat->W:=λ l=>match ω l with
 |.frz=>.frz
 |.own _ _=>if dm then .frz else .none
 |_=>.none
theorem RS.enter(R:RS h0 ω0 ω ρ st us X0){args:List Opnd}(hok:JE (args.map (·.pev st.sl))=true)(hnp:(args.map (·.pev st.sl)).any PV.hasPtr=false)(dm:Bool)(hdm:dm=false->(args.map (·.pev st.sl)).all (λ v=>!v.hold)=true) :
 RS us.hp (ωc dm ω) (ωc dm ω) ρ ⟨(args.map (·.pev st.sl)).map PV.fz,[],[]⟩ ⟨args.map (·.ev us.sl),[],us.hp⟩ X0:=by
 have no:∀ l,ωc dm ω l= .frz\/ωc dm ω l= .none:=by
  intro l;unfold ωc;split
  . exact .inl rfl
  . cases dm<;>simp
  . exact .inr rfl
 have noo:∀ l hd p,ωc dm ω l≠.own hd p:=λ l hd p e=>by rcases no l with h|h<;>rw[h] at e<;>cases e
 have nop:∀ l i,ωc dm ω l≠.ptr i:=λ l i e=>by rcases no l with h|h<;>rw[h] at e<;>cases e
 have cellOk:∀ t p,CD ((Aa ((args.map (·.pev st.sl)).map PV.fz) t).fcell p)/\RC us.hp (ωc dm ω) (.at (.s t) p) ((Aa ((args.map (·.pev st.sl)).map PV.fz) t).fcell p) ((get (args.map (·.ev us.sl)) t).fcell p):=by
  intro t p;rw[V2];rcases RR args st.sl t with⟨ht,x,hx,e⟩|⟨_,e⟩
  . have hao:=Rx hok t (by simpa using ht);rw[e] at hao ⊢;rw[(Xb args us.sl t).1 x hx];obtain⟨hd,_,_,hr⟩:=R.ev x;obtain⟨g1,g2,g3⟩:=kG hao p
    have hp:(x.pev st.sl).hasPtr=false:=by
     have:=List.any_eq_false.1 hnp (x.pev st.sl) (List.mem_map.2 ⟨x,HG hx,rfl⟩);simpa using this
    rcases WA (x.pev st.sl) p with h|h
    . rw[h];refine⟨λ i pb tp e'=>?_,(hr p).fzA (g3 hp) (λ l e=>by simp[ωc,e]) ?_⟩
      . generalize (x.pev st.sl).fcell p=w at e';cases w<;>simp[PV.fz,PV.q] at e'
      . cases dm with
        |true=>exact .inr (.inr λ l a q e=>by simp[ωc,e])
        | false=>
          have hh:=Dz.1 (hdm rfl) (x.pev st.sl) (List.mem_map.2 ⟨x,HG hx,rfl⟩);rcases g2 (by simpa using hh) with h|h
          . exact .inl h
          . exact .inr (.inl h)
    . rw[h];exact⟨λ i pb tp=>by simp[PV.q],.undef _ _⟩
  . rw[e];show CD ((PV.fl .undef).fcell p)/\RC _ _ _ ((PV.fl .undef).fcell p) _;rw[A4];exact⟨λ i pb tp=>by simp[PV.q],.undef _ _⟩
 refine⟨⟨λ hd p=>?_,λ l l' hd p e=>absurd e (noo l hd p),λ l l' i e=>absurd e (nop l i),λ l e=>?_,λ l e=>?_⟩,λ t=>?_,λ i=>Bd _,by simp,rfl,λ _=>rfl,λ _ _=>rfl,λ _ _=>rfl,λ i hi=>by simp at hi,λ l i e=>absurd e (nop l i),λ l i p e=>absurd e (noo l _ _),
  ⟨BI _,λ l _ _=>⟨rfl,rfl⟩,λ l _ e=>by rw[e];simp,λ l i e=>e⟩,λ hd p i pb tp=>?_⟩
 . cases hd with
   |s t=>exact(cellOk t p).2
   |x i=>rw[G8];exact .undef _ _
   |b i=>simp only[Ai,Aj];unfold A9;split<;>exact .undef _ _
   |h i=>simp only[Ai,Aj];unfold A9;split<;>exact .undef _ _
 . rcases e with⟨hd,p,e⟩|⟨i,e⟩
   . exact absurd e (noo l hd p)
   . exact absurd e (nop l i)
 . refine R.core.notNone l λ h=>?_
   unfold ωc at e;rw[h] at e;cases e
 . simp only
   rw[V2];rcases RR args st.sl t with⟨ht,x,hx,e⟩|⟨_,e⟩
   . have hao:=Rx hok t (by simpa using ht);rw[e] at hao ⊢;rw[(Xb args us.sl t).1 x hx];obtain⟨hd,_,hs,_⟩:=R.ev x;exact jn hs hao
   . rw[e];exact Bd _
 . cases hd with
   |s t=>exact(cellOk t p).1 i pb tp
   |x j=>rw[G8];simp[PV.q]
   |b j=>simp only[Ai,Aj];unfold A9;split<;>simp[PV.q,Aa]
   |h j=>simp only[Ai,Aj];unfold A9;split<;>simp[PV.q,Aa]
theorem Ww(R:RS h0 ω0 ω ρ st us X0){args:List Opnd}(hok:JE (args.map (·.pev st.sl))=true):(args.map (·.ev us.sl)).all V.ok1=true:=by
 rw[Dz];intro u hu;obtain⟨x,hx,rfl⟩:=List.mem_map.1 hu;obtain⟨t,ht,rfl⟩:=IF hx;obtain⟨hd,_,hs,hr⟩:=R.ev args[t];have hao:=Rx hok t (by simpa using ht);rcases RR args st.sl t with⟨_,x',hx',e⟩|⟨h,_⟩
 . rw[e] at hao;rw[Bf ht] at hx';cases hx';exact n6 hao hs hr
 . omega
theorem yS{es:List (List PV)}(h:PV.deepE es=true)(k:Nat):(Aa es.flatten k).deep=true:=by
 have app:∀ (a b:List PV),PV.deepL a=true->PV.deepL b=true->PV.deepL (a++b)=true:=by
  intro a b
  induction a with
  |nil=>intro _ h;exact h
  |cons x s ih=>intro h1 h2;simp only[PV.deepL,Ah,Eg] at h1 ⊢;exact⟨h1.1,ih h1.2 h2⟩
 have fl:PV.deepL es.flatten=true:=by
  induction es with
  |nil=>rfl
  | cons e r ih=>
    simp only[PV.deepE,Ah] at h;rw[JD];exact app _ _ h.1 (ih h.2)
 have g:∀ (cs:List PV) c,PV.deepL cs=true->(Aa cs c).deep=true:=by
  intro cs
  induction cs with
  |nil=>intro c _;rfl
  | cons x r ih=>
    intro c hc;simp only[PV.deepL,Ah] at hc
    cases c with
    |zero=>exact hc.1
    |succ c=>exact ih c hc.2
 exact g _ _ fl
theorem aB{cs:List PV}(h:PV.deepL cs=true)(c:Nat):(Aa cs c).deep=true:=by
 induction cs generalizing c with
 |nil=>rfl
 | cons x r ih=>
   simp only[PV.deepL,Ah] at h
   cases c with
   |zero=>exact h.1
   |succ c=>exact ih h.2 c
theorem yg{v:PV}(h:v.deep=true)(p:List Nat):(v.fcell p).deep=true:=by
 unfold PV.fcell;split
 . exact aB h _
 . rfl
 . rename_i vs i c;have:=aB (cs:=vs) h i;generalize Aa vs i=w at this
   cases w with
   |agg cs=>exact aB (cs:=cs) this c
   |_=>cases c<;>first|exact this|rfl
 . rfl
 . exact h
 . rfl
theorem RC.deep{h:Ad}{ω ω1:Nat->W}(ho:∀ l a q,ω l= .own a q->ω1 l= .own a q){m:Md}{v:PV}{u:V}(r:RC h ω m v u):(∃ hd p,m= .at hd p\/m= .inn hd p)->v.deep=true->(∀ i o,v≠.ptr i o)->RC h ω1 m v u:=by
 induction r with
 |undef=>intros;exact .undef _ _
 |v _ x hx=>intros;exact .v _ _ hx
 |nil=>intros;exact .nil _ _
 | sl m q es l o n b h1 hk hc hne hn hw hle hr ih=>
   rintro⟨hd,p,hm⟩ hd' hp
   have hq:q= .own\/∃ w,q= .ownw w:=by cases q<;>first|exact .inl rfl|exact .inr ⟨_,rfl⟩|cases hd'
   have hde:PV.deepE es=true:=by rcases hq with rfl|⟨w,rfl⟩<;>exact hd'
   have hsub:∀ k,∃ hd p,m.sub q k= .at hd p\/m.sub q k= .inn hd p:=by
    intro k;rcases hm with rfl|rfl<;>rcases hq with rfl|⟨w,rfl⟩<;>exact⟨hd,p++[k],.inr rfl⟩
   refine .sl _ _ _ _ _ _ b h1 hk ?_ hne hn hw hle λ k hk=>ih k hk (hsub k) (yS hde k) ?_
   . rcases hm with rfl|rfl<;>rcases hq with rfl|⟨w,rfl⟩<;>exact⟨ho l _ _ hc.1,hc.2⟩
   . intro i o e;have r:=hr k hk;rw[e] at r;rcases hm with rfl|rfl<;>rcases hq with rfl|⟨w,rfl⟩<;>(simp only[Md.sub] at r;cases r)
 |ep=>rintro _ hd' _;cases hd'
 |box=>intros;exact .box _ _ _
 |ptr hd p i o l hl=>rintro _ _ hp;exact absurd rfl (hp i o)
theorem ZJ(n:Nat)(v:PV)(p:List Nat):(v.shift n).fcell p=(v.fcell p).shift n:=by
 have gL:∀ (cs:List PV) c,Aa (PV.shiftL n cs) c=(Aa cs c).shift n:=by
  intro cs
  induction cs with
  |nil=>intro c;rfl
  | cons x r ih=>intro c;cases c with
    |zero=>rfl
    |succ c=>exact ih c
 cases v with
 | agg cs=>
   match p with
   |[c]=>exact gL cs c
   |[]=>rfl
   |_::_::_=>rfl
 | tup vs=>
   match p with
   | [i,c]=>
     show Aa (Aa (PV.shiftL n vs) i).cells c=(Aa (Aa vs i).cells c).shift n;rw[gL];generalize Aa vs i=w
     cases w with
     |agg cs=>exact gL cs c
     |_=>cases c<;>rfl
   |[]=>rfl
   |[_]=>rfl
   |_::_::_::_=>rfl
 | _=>
   match p with
   |[0]=>rfl
   |[]=>rfl
   |(_+1)::_=>rfl
   |0::_::_=>rfl
theorem jy(n:Nat)(cs:List PV):(PV.shiftL n cs).length=cs.length:=by
 induction cs with
 |nil=>rfl
 |cons x r ih=>simp[PV.shiftL,ih]
theorem jg{n:Nat}{v:PV}{u:V}(h:Shp1 v u):Shp1 (v.shift n) u:=by
 cases v with
 |agg cs=>obtain⟨ws,h1,h2⟩:=h;exact⟨ws,h1,by rw[jy];exact h2⟩
 |tup cs=>exact h.elim
 |_=>exact h
theorem zg{n:Nat}{v:PV}{u:V}(h:AZ v u):AZ (v.shift n) u:=by
 cases v with
 | tup cs=>
   obtain⟨ws,h1,h2,h3⟩:=h;refine⟨ws,h1,by rw[jy];exact h2,λ i=>?_⟩
   have:Aa (PV.shiftL n cs) i=(Aa cs i).shift n:=by
    clear h2 h3
    induction cs generalizing i with
    |nil=>rfl
    | cons x r ih=>cases i with
      |zero=>rfl
      |succ c=>exact ih c
   rw[this];exact jg (h3 i)
 |agg cs=>exact jg (v:=.agg cs) h
 |_=>exact h
theorem ZbD(n:Nat)(v:PV):(v.shift n).q=v.q/\(v.shift n).qo=v.qo:=by cases v<;>exact⟨rfl,rfl⟩
section
variable {h0:Ad} {ω0 ω ω':Nat->W} {ρ ρ':Nat->Nat} {st:PS} {us:St}
def I9(N n:Nat)(B:Bool)(ω ω':Nat->W):Nat->W:=λ l=>if l<N then (match ω l with
    |.own (.x _) _=>.frz
    |w=>w) else match ω' l with
 |.own (.x 0) p=>.own (.x 0) p
 |.own (.h i) p=>if B then .own (.h (n+i)) p else .frz
 |.own _ _=>.frz
 |.ptr i=>if B then .ptr (n+i) else .none
 |w=>w
def Ren.cm(n:Nat)(B:Bool):Ren:=λ hd p=>match hd with
 |.x 0=>.own (.x 0) p
 |.h i=>if B then .own (.h (n+i)) p else .frz
 |_=>.frz
def Ren.nox:Ren:=λ hd p=>match hd with
 |.x _=>.frz
 |hd=>.own hd p
theorem Ren.nox_still{hd:Hd}(h:∀ i,hd≠.x i):Ren.nox.still hd:=λ p=>by
 cases hd with
 |x i=>exact absurd rfl (h i)
 |_=>rfl
theorem jP{v:PV}{p:List Nat}{i o:Nat}(h:v.fcell p= .ptr i o):v.hasPtr=true:=by
 have gL:∀ (cs:List PV) c,(Aa cs c).hasPtr=true->PV.hasPtrL cs=true:=by
  intro cs
  induction cs with
  |nil=>intro c h;cases h
  | cons x r ih=>
    intro c h;simp only[PV.hasPtrL,Cp]
    cases c with
    |zero=>exact .inl h
    |succ c=>exact .inr (ih c h)
 unfold PV.fcell at h;split at h
 . exact gL _ _ (by rw[h];rfl)
 . cases h
 . rename_i vs i c;refine gL vs i ?_;generalize Aa vs i=w at h
   cases w with
   |agg cs=>exact gL cs c (by rw[show (PV.agg cs).cells=cs from rfl] at h;rw[h];rfl)
   |_=>cases c<;>first|rfl|cases h
 . cases h
 . rw[h];rfl
 . cases h
theorem Zbt{n:Nat}{c:PV}(h:c.sc)(hp:∀ i o,c≠.ptr i o):c.shift n=c:=by
 cases c with
 |agg cs=>exact absurd rfl (h.1 _)
 |tup cs=>exact absurd rfl (h.2 _)
 |ptr i o=>exact absurd rfl (hp i o)
 |_=>rfl
theorem RS.leave(R:RS h0 ω0 ω ρ st us X0){dm:Bool}{H':List (List PV)}{h':Ad}{r:PV}{u:V}(R':RS us.hp (ωc dm ω) ω' ρ' ⟨[],[],H'⟩ ⟨[],[],h'⟩ (X1 r u))(hnob:r.nob)(hdm:dm=true->r.hasPtr=false/\r.deep=true) :
 ∃ ω'' ρ'',RS h0 ω0 ω'' ρ'' { st with hp:=if r.hasPtr then st.hp++H' else st.hp } { us with hp:=h' } (X1 (if r.hasPtr then r.shift st.hp.length else r) u):=by
 have hN:us.hp.length<=h'.length:=R'.fr.len
 generalize hB:r.hasPtr=B at hdm ⊢
 have cfn:∀ l,ωc dm ω l= .frz\/ωc dm ω l= .none:=λ l=>by
  unfold ωc;split
  . exact .inl rfl
  . cases dm<;>simp
  . exact .inr rfl
 have old:∀ l,l<us.hp.length->h'[l]?=us.hp[l]?/\ω' l=ωc dm ω l:=λ l hl=>R'.fr.old l hl (cfn l)
 have oldn:∀ l,l<us.hp.length->ω' l= .frz\/ω' l= .none:=λ l hl=>by rw[(old l hl).2];exact cfn l
 have newo:∀ l hd p,ω' l= .own hd p->¬ l<us.hp.length:=λ l hd p e hl=>by rcases oldn l hl with h|h<;>rw[h] at e<;>cases e
 have newp:∀ l i,ω' l= .ptr i->¬ l<us.hp.length:=λ l i e hl=>by rcases oldn l hl with h|h<;>rw[h] at e<;>cases e
 have cold:∀ l,l<us.hp.length->I9 us.hp.length st.hp.length B ω ω' l=Ag.ren Ren.nox (ω l):=λ l hl=>by
  simp only[I9,Ac hl]
  cases e:ω l with
  |own a q=>cases a<;>rfl
  |_=>rfl
 have cnew:∀ l,¬ l<us.hp.length->I9 us.hp.length st.hp.length B ω ω' l=(match ω' l with|.own hd p=>Ren.cm st.hp.length B hd p|.ptr i=>if B then .ptr (st.hp.length+i) else .none|w=>w):=λ l hl=>by
  simp only[I9,Ae hl]
  cases e:ω' l with
  |own a q=>cases a<;>first|rfl|(rename_i i;cases i<;>rfl)
  |_=>rfl
 have dec:∀ l hd p,I9 us.hp.length st.hp.length B ω ω' l= .own hd p->(l<us.hp.length/\ω l= .own hd p/\∀ i,hd≠.x i)\/(¬ l<us.hp.length/\((hd= .x 0/\ω' l= .own (.x 0) p)\/∃ i,B=true/\hd= .h (st.hp.length+i)/\ω' l= .own (.h i) p)):=by
  intro l hd p e;by_cases hl:l<us.hp.length
  . rw[cold l hl] at e;obtain⟨a,q,e1,e2⟩:=D3 e
    cases a with
    |x i=>cases e2
    |_=>cases e2;exact .inl ⟨hl,e1,by simp⟩
  . rw[cnew l hl] at e
    cases e1:ω' l with
    | own a q=>
      rw[e1] at e
      cases a with
      | x i=>cases i with
        |zero=>cases e;exact .inr ⟨hl,.inl ⟨rfl,rfl⟩⟩
        |succ i=>cases e
      | h i=>
        cases hBb:B with
        |true=>rw[hBb] at e;cases e;exact .inr ⟨hl,.inr ⟨i,rfl,rfl,rfl⟩⟩
        |false=>rw[hBb] at e;cases e
      |_=>cases e
    |ptr i=>rw[e1] at e;(try simp only at e);split at e<;>cases e
    |_=>rw[e1] at e;cases e
 have decp:∀ l i,I9 us.hp.length st.hp.length B ω ω' l= .ptr i->(l<us.hp.length/\ω l= .ptr i)\/(¬ l<us.hp.length/\B=true/\∃ j,i=st.hp.length+j/\ω' l= .ptr j):=by
  intro l i e;by_cases hl:l<us.hp.length
  . rw[cold l hl] at e
    cases e1:ω l with
    |own a q=>rw[e1] at e;cases a<;>cases e
    |ptr j=>rw[e1] at e;cases e;exact .inl ⟨hl,rfl⟩
    |_=>rw[e1] at e;cases e
  . rw[cnew l hl] at e
    cases e1:ω' l with
    | own a q=>
      rw[e1] at e
      cases a with
      |x i=>cases i<;>cases e
      |h i=>simp only[Ren.cm] at e;split at e<;>cases e
      |_=>cases e
    | ptr j=>
      rw[e1] at e;(try simp only at e);split at e
      . rename_i hb;cases e;exact .inr ⟨hl,hb,j,rfl,rfl⟩
      . cases e
    |_=>rw[e1] at e;cases e
 have tA:Tr us.hp ω h' (I9 us.hp.length st.hp.length B ω ω') Ren.nox (λ _=>False):=
  ⟨λ l e=>by
   have hl:=R.core.lt l e
   exact⟨by rw[cold l hl,e];rfl,(old l hl).1⟩,λ l hd p e _=>by
   have hl:=R.core.notNone l (by rw[e];simp)
   exact⟨by rw[cold l hl,e];rfl,(old l hl).1⟩,λ l i e=>by
   have hl:=R.core.notNone l (by rw[e];simp)
   rw[cold l hl,e];rfl⟩
 have mine:∀ hd p,(∀ i,hd≠.x i)->RC h' (I9 us.hp.length st.hp.length B ω ω') (.at hd p) (Ai ρ st us X0 hd p).1 (Ai ρ st us X0 hd p).2:=λ hd p hx=>
  (R.core.rc hd p).tr tA (λ _=>⟨λ _ _ _=>id,λ _=>Ren.nox_still hx _⟩) (λ hb pb tp e=>by
   have:Ren.nox.still hb:=Ren.nox_still λ i h=>by subst h;exact R.nx hd p i pb tp e
   exact⟨λ _ _ _=>id,λ _=>this,this.soft⟩)
 have tB : Tr0 h' (λ l=>if l<us.hp.length/\dm=true then .none else ω' l) h' (I9 us.hp.length st.hp.length B ω ω') (Ren.cm st.hp.length B) (λ _=>False):=
  ⟨λ l e=>by
   refine⟨?_,rfl⟩
   try simp only at e
   split at e
   . cases e
   . rename_i hn;by_cases hl:l<us.hp.length
     . have hd:dm=false:=by cases dm;rfl;exact absurd ⟨hl,rfl⟩ hn
       have h2:=(old l hl).2;rw[e,hd] at h2;rw[cold l hl];unfold ωc at h2;split at h2
       . rename_i h3;rw[h3];rfl
       . simp at h2
       . cases h2
     . rw[cnew l hl,e],λ l hd p e _=>by
   refine⟨?_,rfl⟩
   try simp only at e
   split at e
   . cases e
   . rw[cnew l (newo l hd p e),e]⟩
 have theirs:∀ {hd hd2:Hd} {p:List Nat} {c:PV} {x:V},RC h' ω' (.at hd p) c x->(∀ i o,c≠.ptr i o)->(∀ hb pb tp,c.q≠some (.bor hb pb tp))->(dm=true->c.deep=true)->(∀ r,Ren.cm st.hp.length B hd (p++r)= .own hd2 (p++r))->RC h' (I9 us.hp.length st.hp.length B ω ω') (.at hd2 p) c x:=by
  intro hd hd2 p c x rc hp hb hde hf
  have r1:RC h' (λ l=>if l<us.hp.length/\dm=true then .none else ω' l) (.at hd p) c x:=by
   cases hd':dm with
   | true=>
     refine rc.deep (λ l a q e=>?_) ⟨hd,p,.inl rfl⟩ (hde hd') hp;simp only;rw[Ae (λ h=>newo l a q e h.1)];exact e
   |false=>simpa using rc
  exact r1.tr0 tB (λ _=>⟨λ _ _ _=>id,hf⟩) (λ hb' pb tp e=>absurd e (hb hb' pb tp)) (λ l i o e=>absurd e (hp i o))
 have hρ:∀ k,k<st.hp.length->ρ k<us.hp.length:=λ k hk=>by obtain⟨b,h,_⟩:=R.blk hk;exact Ce h
 have hVo:∀ k,k<st.hp.length->A5 h' (ρ k)=A5 us.hp (ρ k):=λ k hk=>by simp only[A5,(old _ (hρ k hk)).1]
 have hpg:∀ k,Aj (if B=true then st.hp++H' else st.hp) k=if k<st.hp.length then Aj st.hp k else if B=true then Aj H' (k-st.hp.length) else []:=by
  intro k
  cases hBb:B with
  | true=>
    simp only[AN];split
    . rename_i h;rw[Dx,Dx,Bx h]
    . rename_i h;rw[Dx,Dx,Db (by omega)]
  | false=>
    simp only[AL,AQ];split
    . rfl
    . rename_i h;rw[Dx,BV (by omega)];rfl
 have hlenB:(if B=true then st.hp++H' else st.hp).length=if B=true then st.hp.length+H'.length else st.hp.length:=by split<;>simp
 refine⟨I9 us.hp.length st.hp.length B ω ω',λ i=>if i<st.hp.length then ρ i else ρ' (i-st.hp.length),⟨λ hd p=>?_,λ l l' hd p e e'=>?_,λ l l' i e e'=>?_,λ l e=>?_,λ l e=>?_⟩,R.sh,λ i=>?_,R.lsl,R.lbx,R.lb,R.cb,λ i c=>?_,λ i hi=>?_,λ l i e=>?_,λ l i p e=>?_,⟨?_,λ l hl e=>?_,λ l hl e=>?_,λ l i e=>?_⟩,λ hd p i pb tp=>?_⟩
 . cases hd with
   |s t=>exact mine (.s t) p (by simp)
   |b i=>exact mine (.b i) p (by simp)
   | x i =>
     by_cases hi:i=0
     . subst hi;have rc:=R'.core.rc (.x 0) p;have rc':RC h' ω' (.at (.x 0) p) (r.fcell p) (u.fcell p):=rc;show RC h' _ _ ((if B=true then r.shift st.hp.length else r).fcell p) (u.fcell p);by_cases hptr:∃ i o,r.fcell p= .ptr i o
       . obtain⟨i,o,hp⟩:=hptr
         have hBt:B=true:=by rw[<- hB];exact jP hp
         rw[Ac hBt,ZJ,hp];rw[hp] at rc';generalize u.fcell p=z at rc'
         cases rc' with
         |ptr _ _ _ _ l hl=>exact .ptr _ _ _ _ _ (by rw[cnew l (newp l i hl),hl];simp[hBt])
       . have hnp:∀ i o,r.fcell p≠.ptr i o:=λ i o h=>hptr ⟨i,o,h⟩
         have hsh:(if B=true then r.shift st.hp.length else r).fcell p=r.fcell p:=by
          split
          . rw[ZJ];exact Zbt rc'.sc hnp
          . rfl
         rw[hsh];exact theirs rc' hnp (hnob p) (λ hd=>yg (hdm hd).2 p) (λ _=>rfl)
     . simp only[Ai,D8 _ _ i hi,A4];exact .undef _ _
   | h i =>
     simp only[Ai,hpg];by_cases hi:i<st.hp.length
     . simp only[Ac hi,hVo i hi];exact mine (.h i) p (by simp)
     . simp only[Ae hi]
       cases hBb:B with
       |false=>simp only[AL,AQ];unfold A9;split<;>exact .undef _ _
       | true=>
         simp only[AN];have rc:=R'.core.rc (.h (i-st.hp.length)) p;have rc':RC h' ω' (.at (.h (i-st.hp.length)) p) (A9 (Aj H' (i-st.hp.length)) (A5 h' (ρ' (i-st.hp.length))) p).1 (A9 (Aj H' (i-st.hp.length)) (A5 h' (ρ' (i-st.hp.length))) p).2:=rc;have hlay:=GY (ws:=A5 h' (ρ' (i-st.hp.length))) (R'.ch (i-st.hp.length)) p;have:=theirs (hd2:=.h i) rc' (λ a b h=>by rw[h] at hlay;cases hlay) (λ hb pb tp=>CR hlay hb pb tp) (λ hd=>by have:=(hdm hd).1;rw[hBb] at this;cases this) (λ r=>by simp only[Ren.cm,hBb,AN];rw[show st.hp.length+(i-st.hp.length)=i by omega]);rw[hBb] at this;exact this
 . rcases dec l hd p e with⟨a1,a2,a3⟩|⟨a1,a2⟩
   . rcases dec l' hd p e' with⟨b1,b2,b3⟩|⟨b1,b2⟩
     . exact R.core.inj l l' hd p a2 b2
     . rcases b2 with⟨rfl,_⟩|⟨i,_,rfl,_⟩
       . exact absurd rfl (a3 0)
       . have:=R.bdh l _ p a2;omega
   . rcases dec l' hd p e' with⟨b1,b2,b3⟩|⟨b1,b2⟩
     . rcases a2 with⟨rfl,_⟩|⟨i,_,rfl,_⟩
       . exact absurd rfl (b3 0)
       . have:=R.bdh l' _ p b2;omega
     . rcases a2 with⟨rfl,c⟩|⟨i,_,rfl,c⟩
       . rcases b2 with⟨_,d⟩|⟨j,_,hh,_⟩
         . exact R'.core.inj l l' _ p c d
         . cases hh
       . rcases b2 with⟨hh,_⟩|⟨j,_,hh,d⟩
         . cases hh
         . have:i=j:=by simp at hh;exact hh
           subst this;exact R'.core.inj l l' _ p c d
 . rcases decp l i e with⟨_,a⟩|⟨_,_,j,hj,a⟩
   . rcases decp l' i e' with⟨_,b⟩|⟨_,_,k,hk,b⟩
     . exact R.core.injp l l' i a b
     . have:=R.bdp l i a;omega
   . rcases decp l' i e' with⟨_,b⟩|⟨_,_,k,hk,b⟩
     . have:=R.bdp l' i b;omega
     . have:j=k:=by omega
       subst this;exact R'.core.injp l l' j a b
 . have hh:(l<us.hp.length/\((∃ hd p,ω l= .own hd p)\/∃ i,ω l= .ptr i))\/((∃ hd p,ω' l= .own hd p)\/∃ i,ω' l= .ptr i):=by
    rcases e with⟨hd,p,e⟩|⟨i,e⟩
    . rcases dec l hd p e with⟨a1,a2,a3⟩|⟨a1,⟨_,c⟩|⟨i,_,_,c⟩⟩
      . exact .inl ⟨a1,.inl ⟨_,_,a2⟩⟩
      . exact .inr (.inl ⟨_,_,c⟩)
      . exact .inr (.inl ⟨_,_,c⟩)
    . rcases decp l i e with⟨a1,a⟩|⟨_,_,j,hj,a⟩
      . exact .inl ⟨a1,.inr ⟨_,a⟩⟩
      . exact .inr (.inr ⟨_,a⟩)
   rcases hh with⟨hl,hh⟩|hh
   . obtain⟨b,h1,h2⟩:=R.core.kind l hh;exact⟨b,by rw[<- h1];exact(old l hl).1,h2⟩
   . exact R'.core.kind l hh
 . by_cases hl:l<us.hp.length
   . exact KW hl hN
   . rw[cnew l hl] at e
     have:ω' l≠.none:=by intro h;rw[h] at e;cases e
     exact R'.core.notNone l this
 . by_cases hi:i=0
   . subst hi;have:AZ r u:=R'.shx 0;show AZ (if B=true then r.shift st.hp.length else r) u;split
     . exact zg this
     . exact this
   . rw[D8 _ _ i hi];exact Bd _
 . simp only[hpg]
   split
   . exact R.ch i c
   . split
     . exact R'.ch _ c
     . rfl
 . simp only[hlenB] at hi
   simp only[hpg];by_cases hlt:i<st.hp.length
   . simp only[Ac hlt];rw[cold _ (hρ i hlt),(R.hp i hlt).1,hVo i hlt];exact⟨rfl,(R.hp i hlt).2⟩
   . simp only[Ae hlt];split at hi
     . rename_i hBt;obtain⟨a,b⟩:=R'.hp (i-st.hp.length) (by simp only;omega);rw[Ac hBt,cnew _ (newp _ _ a),a];refine⟨by simp[hBt];omega,b⟩
     . omega
 . simp only[hlenB]
   rcases decp l i e with⟨_,a⟩|⟨_,hBt,j,hj,a⟩
   . have:=R.bdp l i a;split<;>omega
   . have:=R'.bdp l j a;simp only at this;rw[Ac hBt];omega
 . simp only[hlenB]
   rcases dec l (.h i) p e with⟨_,a,_⟩|⟨_,⟨hh,_⟩|⟨j,hBt,hh,a⟩⟩
   . have:=R.bdh l i p a;split<;>omega
   . cases hh
   . have:=R'.bdh l j p a;simp only at this;simp at hh;rw[Ac hBt];omega
 . exact JC R.fr.len hN
 . obtain⟨a,b⟩:=R.fr.old l hl e
   have hlt:l<us.hp.length:=KW hl R.fr.len;refine⟨by rw[<- a];exact(old l hlt).1,?_⟩;rw[cold l hlt,b];rcases e with e|e<;>rw[e]<;>rfl
 . have hlt:l<us.hp.length:=KW hl R.fr.len
   rw[cold l hlt] at e;exact(R.fr.ren Ren.nox).new l hl e
 . have e1:=R.fr.ptr l i e
   have hlt:=R.core.notNone l (by rw[e1];simp);rw[cold l hlt,e1];rfl
 . cases hd with
   |s t=>exact R.nx (.s t) p i pb tp
   |b k=>exact R.nx (.b k) p i pb tp
   | x k=>
     by_cases hk:k=0
     . subst hk;show ((if B=true then r.shift st.hp.length else r).fcell p).q≠_;split
       . rw[ZJ,(ZbD _ _).1];exact hnob p _ _ _
       . exact hnob p _ _ _
     . rw[GA k hk];simp[PV.q]
   | h k=>
     simp only[Ai,hpg];refine CR (GY (λ c=>?_) p) _ _ _;split
     . exact R.ch k c
     . split
       . exact R'.ch _ c
       . rfl
end
end
section
variable {h0:Ad} {ω0 ω ω':Nat->W} {ρ ρ':Nat->Nat} {st:PS} {us:St}
def ωp(ω:Nat->W):Nat->W:=λ l=>match ω l with
 |.frz=>.frz
 |.own (.h i) p=>.own (.h i) p
 |.ptr i=>.ptr i
 |_=>.none
theorem ωp_frz{l:Nat}(e:ωp ω l= .frz):ω l= .frz:=by
 unfold ωp at e;split at e<;>first|assumption|cases e
theorem ωp_own{l:Nat}{hd:Hd}{p:List Nat}(e:ωp ω l= .own hd p):ω l= .own hd p/\∃ i,hd= .h i:=by
 unfold ωp at e;split at e
 . cases e
 . rename_i i q h;cases e;exact⟨h,i,rfl⟩
 . cases e
 . cases e
theorem ωp_ptr{l i:Nat}(e:ωp ω l= .ptr i):ω l= .ptr i:=by
 unfold ωp at e;split at e
 . cases e
 . cases e
 . rename_i j h;cases e;exact h
 . cases e
theorem kK{v:PV}(h:v.isH=false)(p:List Nat):∀ i pb tp,(v.fcell p).q≠some (.bor (.h i) pb tp):=by
 have one:∀ {w:PV},w.isH=false->∀ i pb tp,w.q≠some (.bor (.h i) pb tp):=by
  intro w hw i pb tp e
  cases w with
  |sl q es=>cases q<;>simp[PV.q] at e<;>(obtain⟨rfl,_⟩:=e;cases hw)
  |ep q es j o=>cases q<;>simp[PV.q] at e<;>(obtain⟨rfl,_⟩:=e;cases hw)
  |_=>simp[PV.q] at e
 have lst:∀ (cs:List PV) c,PV.isHL cs=false->(Aa cs c).isH=false:=by
  intro cs
  induction cs with
  |nil=>intro c _;rfl
  | cons x r ih=>
    intro c hc;simp only[PV.isHL,Ca] at hc
    cases c with
    |zero=>exact hc.1
    |succ c=>exact ih c hc.2
 unfold PV.fcell;split
 . exact one (lst _ _ h)
 . exact one rfl
 . rename_i vs i c;have:=lst vs i h;generalize Aa vs i=w at this
   cases w with
   |agg cs=>exact one (lst cs c this)
   |_=>cases c<;>first|exact one this|exact one rfl
 . exact one rfl
 . exact one h
 . exact one rfl
theorem Z0(s:List PV)(n:Nat):Aa (clrH s) n=if (Aa s n).isH then .fl .undef else Aa s n:=by
 induction s generalizing n with
 |nil=>rfl
 | cons x r ih=>cases n with
   |zero=>rfl
   |succ n=>exact ih n
theorem RS.enterP(R:RS h0 ω0 ω ρ st us X0){args:List Opnd}(hok:JE (args.map (·.pev st.sl))=true)(hh:(args.map (·.pev st.sl)).all (λ v=>!v.hold)=true) :
 RS us.hp (ωp ω) (ωp ω) ρ ⟨(args.map (·.pev st.sl)).map PV.fz,[],st.hp⟩ ⟨args.map (·.ev us.sl),[],us.hp⟩ X0:=by
 have hf:∀ l,ω l= .frz->ωp ω l= .frz:=λ l e=>by simp[ωp,e]
 have cellOk:∀ t p,CD ((Aa ((args.map (·.pev st.sl)).map PV.fz) t).fcell p)/\RC us.hp (ωp ω) (.at (.s t) p) ((Aa ((args.map (·.pev st.sl)).map PV.fz) t).fcell p) ((get (args.map (·.ev us.sl)) t).fcell p):=by
  intro t p;rw[V2];rcases RR args st.sl t with⟨ht,x,hx,e⟩|⟨_,e⟩
  . have hao:=Rx hok t (by simpa using ht);rw[e] at hao ⊢;rw[(Xb args us.sl t).1 x hx];obtain⟨hd,_,_,hr⟩:=R.ev x;obtain⟨g1,g2,g3⟩:=kG hao p;rcases WA (x.pev st.sl) p with h|h
    . rw[h];refine⟨λ i pb tp e'=>?_,?_⟩
      . generalize (x.pev st.sl).fcell p=w at e';cases w<;>simp[PV.fz,PV.q] at e'
      . have hq:((x.pev st.sl).fcell p).q=none\/((x.pev st.sl).fcell p).q=some .frz:=by
         have hh:=Dz.1 hh (x.pev st.sl) (List.mem_map.2 ⟨x,HG hx,rfl⟩);exact g2 (by simpa using hh)
        by_cases hp:∃ i o,(x.pev st.sl).fcell p= .ptr i o
        . obtain⟨i,o,hp⟩:=hp;have hr:=hr p;rw[hp] at hr ⊢;generalize (x.ev us.sl).fcell p=z at hr
          cases hr with
          |ptr _ _ _ _ l hl=>exact .ptr _ _ _ _ l (by simp[ωp,hl])
        . refine(hr p).fzA (λ i o h=>hp ⟨i,o,h⟩) hf ?_;rcases hq with h|h
          . exact .inl h
          . exact .inr (.inl h)
    . rw[h];exact⟨λ i pb tp=>by simp[PV.q],.undef _ _⟩
  . rw[e];show CD ((PV.fl .undef).fcell p)/\RC _ _ _ ((PV.fl .undef).fcell p) _;rw[A4];exact⟨λ i pb tp=>by simp[PV.q],.undef _ _⟩
 have t:Tr0 us.hp ω us.hp (ωp ω) Ren.id (λ l=>∃ hd p,ω l= .own hd p/\∀ i,hd≠.h i):=⟨λ l e=>⟨hf l e,rfl⟩,λ l hd p e hT=>by
  refine⟨?_,rfl⟩
  cases hd with
  |h i=>simp[ωp,e,Ren.id]
  |s i=>exact absurd ⟨_,_,e,by simp⟩ hT
  |b i=>exact absurd ⟨_,_,e,by simp⟩ hT
  |x i=>exact absurd ⟨_,_,e,by simp⟩ hT⟩
 have blk:∀ i p,RC us.hp (ωp ω) (.at (.h i) p) (A9 (Aj st.hp i) (A5 us.hp (ρ i)) p).1 (A9 (Aj st.hp i) (A5 us.hp (ρ i)) p).2:=by
  intro i p;have r:=R.core.rc (.h i) p;have hlay:=GY (ws:=A5 us.hp (ρ i)) (R.ch i) p;refine RC.tr0 t (show RC us.hp ω (.at (.h i) p) _ _ from r) (λ _=>⟨λ l q e=>?_,λ _=>rfl⟩) (λ hb pb tp e=>absurd e (CR hlay hb pb tp)) (λ l j o e _=>by rw[e] at hlay;cases hlay);rintro⟨hd,p',e',hne⟩;rw[e] at e';cases e';exact hne i rfl
 refine⟨⟨λ hd p=>?_,λ l l' hd p e e'=>R.core.inj l l' hd p (ωp_own e).1 (ωp_own e').1,λ l l' i e e'=>R.core.injp l l' i (ωp_ptr e) (ωp_ptr e'),λ l e=>?_,λ l e=>R.core.lt l (ωp_frz e)⟩,λ t=>?_,λ i=>Bd _,by simp,rfl,λ _=>rfl,λ _ _=>rfl,R.ch,λ i hi=>?_,λ l i e=>R.bdp l i (ωp_ptr e),λ l i p e=>R.bdh l i p (ωp_own e).1,
  ⟨BI _,λ l _ _=>⟨rfl,rfl⟩,λ l _ e=>by rw[e];simp,λ l i e=>e⟩,λ hd p i pb tp=>?_⟩
 . cases hd with
   |s t=>exact(cellOk t p).2
   |x i=>rw[G8];exact .undef _ _
   |b i=>simp only[Ai,Aj];unfold A9;split<;>exact .undef _ _
   |h i=>exact blk i p
 . rcases e with⟨hd,p,e⟩|⟨i,e⟩
   . exact R.core.kind l (.inl ⟨hd,p,(ωp_own e).1⟩)
   . exact R.core.kind l (.inr ⟨i,ωp_ptr e⟩)
 . simp only
   rw[V2];rcases RR args st.sl t with⟨ht,x,hx,e⟩|⟨_,e⟩
   . have hao:=Rx hok t (by simpa using ht);rw[e] at hao ⊢;rw[(Xb args us.sl t).1 x hx];obtain⟨hd,_,hs,_⟩:=R.ev x;exact jn hs hao
   . rw[e];exact Bd _
 . obtain⟨h1,h2⟩:=R.hp i hi
   exact⟨by simp[ωp,h1],h2⟩
 . cases hd with
   |s t=>exact(cellOk t p).1 i pb tp
   |x j=>rw[G8];simp[PV.q]
   |b j=>simp only[Ai,Aj];unfold A9;split<;>simp[PV.q,Aa]
   |h j=>exact CR (GY (ws:=A5 us.hp (ρ j)) (R.ch j) p) _ _ _
def lab:W->W
 |.own (.x 0) p=>.own (.x 0) p
 |.own (.h i) p=>.own (.h i) p
 |.own _ _=>.frz
 |w=>w
def Ren.lab:Ren:=λ hd p=>match hd with
 |.x 0=>.own (.x 0) p
 |.h i=>.own (.h i) p
 |_=>.frz
def C3(N:Nat)(ω ω':Nat->W):Nat->W:=λ l=>if l<N then (match ω l with
    |.own (.s t) p=>.own (.s t) p
    |.own (.b t) p=>.own (.b t) p
    |.own (.x _) _=>.frz
    |.own (.h _) _=>lab (ω' l)
    |.ptr _=>lab (ω' l)
    |w=>w) else lab (ω' l)
theorem bH{w:W}{hd:Hd}{p:List Nat}(e:lab w= .own hd p):w= .own hd p/\(hd= .x 0\/∃ i,hd= .h i):=by
 unfold lab at e;split at e
 . cases e;exact⟨rfl,.inl rfl⟩
 . rename_i i q;cases e;exact⟨rfl,.inr ⟨i,rfl⟩⟩
 . cases e
 . rename_i h1 h2 h3;subst e;exact absurd rfl (h3 _ _)
theorem bU{w:W}{i:Nat}(e:lab w= .ptr i):w= .ptr i:=by
 unfold lab at e
 split at e<;>first|(cases e;done)|exact e
theorem Zb6{hd:Hd}{p:List Nat}:lab (.own hd p)=Ren.lab hd p:=by
 cases hd with
 |x i=>cases i<;>rfl
 |_=>rfl
theorem RS.leaveP(R:RS h0 ω0 ω ρ st us X0){H':List (List PV)}{h':Ad}{r:PV}{u:V}(R':RS us.hp (ωp ω) ω' ρ' ⟨[],[],H'⟩ ⟨[],[],h'⟩ (X1 r u))(hnob:r.nob)(hnp:r.hasPtr=false)(_hl:st.hp.length<=H'.length) :
 ∃ ω'' ρ'',RS h0 ω0 ω'' ρ'' { st with sl:=clrH st.sl,hp:=H' } { us with hp:=h' } (X1 r u):=by
 have hN:us.hp.length<=h'.length:=R'.fr.len
 have old:∀ l,l<us.hp.length->(ωp ω l= .frz\/ωp ω l= .none)->h'[l]?=us.hp[l]?/\ω' l=ωp ω l:=λ l hl e=>R'.fr.old l hl e
 have lt:∀ l,ω l≠.none->l<us.hp.length:=λ l h=>R.core.notNone l h
 have cF:∀ l,ω l= .frz->C3 us.hp.length ω ω' l= .frz/\h'[l]?=us.hp[l]?:=λ l e=>by
  have hl:=lt l (by rw[e];simp);exact⟨by simp[C3,hl,e],(old l hl (.inl (by simp[ωp,e]))).1⟩
 have cS:∀ l t p,ω l= .own (.s t) p->C3 us.hp.length ω ω' l= .own (.s t) p/\h'[l]?=us.hp[l]?:=λ l t p e=>by
  have hl:=lt l (by rw[e];simp);exact⟨by simp[C3,hl,e],(old l hl (.inr (by simp[ωp,e]))).1⟩
 have cB:∀ l t p,ω l= .own (.b t) p->C3 us.hp.length ω ω' l= .own (.b t) p/\h'[l]?=us.hp[l]?:=λ l t p e=>by
  have hl:=lt l (by rw[e];simp);exact⟨by simp[C3,hl,e],(old l hl (.inr (by simp[ωp,e]))).1⟩
 have cX:∀ l t p,ω l= .own (.x t) p->C3 us.hp.length ω ω' l= .frz/\h'[l]?=us.hp[l]?:=λ l t p e=>by
  have hl:=lt l (by rw[e];simp);exact⟨by simp[C3,hl,e],(old l hl (.inr (by simp[ωp,e]))).1⟩
 have cP:∀ l i,ω l= .ptr i->C3 us.hp.length ω ω' l= .ptr i:=λ l i e=>by
  have hl:=lt l (by rw[e];simp);have:=R'.fr.ptr l i (by simp[ωp,e]);simp[C3,hl,e,this,lab]
 have theirs:∀ l,ω' l≠.none->ω' l= .frz/\C3 us.hp.length ω ω' l= .frz\/C3 us.hp.length ω ω' l=lab (ω' l):=λ l hne=>by
  by_cases hl:l<us.hp.length
  . cases e:ω l with
    |none=>exact absurd (by rw[(old l hl (.inr (by simp[ωp,e]))).2];simp[ωp,e]) hne
    |frz=>exact .inl ⟨by rw[(old l hl (.inl (by simp[ωp,e]))).2];simp[ωp,e],(cF l e).1⟩
    |ptr i=>exact .inr (by simp[C3,hl,e])
    | own hd p=>
      cases hd with
      |h i=>exact .inr (by simp[C3,hl,e])
      |s i=>exact absurd (by rw[(old l hl (.inr (by simp[ωp,e]))).2];simp[ωp,e]) hne
      |b i=>exact absurd (by rw[(old l hl (.inr (by simp[ωp,e]))).2];simp[ωp,e]) hne
      |x i=>exact absurd (by rw[(old l hl (.inr (by simp[ωp,e]))).2];simp[ωp,e]) hne
  . exact .inr (by simp[C3,hl])
 have dec:∀ l hd p,C3 us.hp.length ω ω' l= .own hd p->(ω l= .own hd p/\(∃ t,hd= .s t\/hd= .b t))\/(ω' l= .own hd p/\(hd= .x 0\/∃ i,hd= .h i)):=by
  intro l hd p e;unfold C3 at e;split at e
  . split at e
    . rename_i t q h;cases e;exact .inl ⟨h,t,.inl rfl⟩
    . rename_i t q h;cases e;exact .inl ⟨h,t,.inr rfl⟩
    . cases e
    . exact .inr (bH e)
    . exact .inr (bH e)
    . rename_i h1 h2 h3 h4 h5;exfalso;rw[e] at h1 h2 h3 h4
      cases hd with
      |s t=>exact h1 _ _ rfl
      |b t=>exact h2 _ _ rfl
      |x t=>exact h3 _ _ rfl
      |h t=>exact h4 _ _ rfl
  . exact .inr (bH e)
 have decp:∀ l i,C3 us.hp.length ω ω' l= .ptr i->ω' l= .ptr i:=by
  intro l i e;unfold C3 at e;split at e
  . split at e
    . cases e
    . cases e
    . cases e
    . exact bU e
    . exact bU e
    . rename_i h1 h2 h3 h4 h5;exact absurd e (h5 i)
  . exact bU e
 have decf:∀ l,C3 us.hp.length ω ω' l= .frz->l<h'.length:=by
  intro l e;by_cases hl:l<us.hp.length
  . omega
  . have:ω' l≠.none:=by intro h;simp[C3,hl,h,lab] at e
    exact R'.core.notNone l this
 have tA:Tr0 us.hp ω h' (C3 us.hp.length ω ω') Ren.nox (λ l=>∃ i p,ω l= .own (.h i) p):=
  ⟨cF,λ l hd p e hT=>by
   cases hd with
   |s t=>exact cS l t p e
   |b t=>exact cB l t p e
   |x t=>exact cX l t p e
   |h t=>exact absurd ⟨t,p,e⟩ hT⟩
 have mine:∀ {hd:Hd} {p:List Nat} {v:PV} {z:V},(∃ t,hd= .s t\/hd= .b t)->RC us.hp ω (.at hd p) v z->(∀ i pb tp,v.q≠some (.bor (.x i) pb tp))->(∀ i pb tp,v.q≠some (.bor (.h i) pb tp))->RC h' (C3 us.hp.length ω ω') (.at hd p) v z:=by
  intro hd p v z hhd rc h1 h2;refine rc.tr0 tA (λ _=>⟨λ l q e=>?_,λ q=>?_⟩) (λ hb pb tp e=>⟨λ l q e'=>?_,λ _=>?_,?_⟩) (λ l i o _ e=>cP l i e)
  . rintro⟨i,q',e'⟩;rw[e] at e';cases e';obtain⟨t,h|h⟩:=hhd<;>cases h
  . obtain⟨t,rfl|rfl⟩:=hhd<;>rfl
  . rintro⟨i,q',e2⟩;rw[e'] at e2;cases e2;exact h2 _ _ _ e
  . exact Ren.nox_still λ i h=>by subst h;exact h1 _ _ _ e
  . exact(Ren.nox_still λ i h=>by subst h;exact h1 _ _ _ e).soft
 have tB:Tr0 h' ω' h' (C3 us.hp.length ω ω') Ren.lab (λ _=>False):=
  ⟨λ l e=>by
   refine⟨?_,rfl⟩;rcases theirs l (by rw[e];simp) with⟨_,h⟩|h
   . exact h
   . rw[h,e];rfl,λ l hd p e _=>by
   refine⟨?_,rfl⟩;rcases theirs l (by rw[e];simp) with⟨h,_⟩|h
   . rw[h] at e;cases e
   . rw[h,e,Zb6]⟩
 have his:∀ {hd:Hd} {p:List Nat} {v:PV} {z:V},(hd= .x 0\/∃ i,hd= .h i)->RC h' ω' (.at hd p) v z->(∀ i o,v≠.ptr i o)->(∀ hb pb tp,v.q≠some (.bor hb pb tp))->RC h' (C3 us.hp.length ω ω') (.at hd p) v z:=by
  intro hd p v z hhd rc hp hb;refine rc.tr0 tB (λ _=>⟨λ _ _ _=>id,λ q=>?_⟩) (λ hb' pb tp e=>absurd e (hb hb' pb tp)) (λ l i o e=>absurd e (hp i o))
  obtain rfl|⟨i,rfl⟩:=hhd<;>rfl
 refine⟨C3 us.hp.length ω ω',ρ',⟨λ hd p=>?_,λ l l' hd p e e'=>?_,λ l l' i e e'=>R'.core.injp l l' i (decp l i e) (decp l' i e'),λ l e=>?_,decf⟩,λ t=>?_,λ i=>?_,by simpa [ZaT] using R.lsl,R.lbx,R.lb,R.cb,R'.ch,λ i hi=>?_,λ l i e=>R'.bdp l i (decp l i e),λ l i p e=>?_,⟨?_,λ l hl e=>?_,λ l hl e=>?_,λ l i e=>?_⟩,λ hd p i pb tp=>?_⟩
 . cases hd with
   | s t=>
     show RC h' _ _ ((Aa (clrH st.sl) t).fcell p) _;rw[Z0];split
     . rw[A4];exact .undef _ _
     . rename_i hh;exact mine ⟨t,.inl rfl⟩ (R.core.rc (.s t) p) (λ i pb tp=>R.nx (.s t) p i pb tp) (kK (by simpa using hh) p)
   | b t=>
     have hlay:=GY (ws:=AW us.bx t) (R.cb t) p;exact mine ⟨t,.inr rfl⟩ (R.core.rc (.b t) p) (λ i pb tp=>CR hlay _ _ _) (λ i pb tp=>CR hlay _ _ _)
   | x i=>
     by_cases hi:i=0
     . subst hi;exact his (.inl rfl) (R'.core.rc (.x 0) p) (λ i o h=>by have:=jP (v:=r) (p:=p) h;rw[hnp] at this;cases this) (λ hb pb tp=>hnob p hb pb tp)
     . simp only[Ai,D8 _ _ i hi,A4];exact .undef _ _
   | h i=>
     have hlay:(A9 (Aj H' i) (A5 h' (ρ' i)) p).1.lay=true:=GY (ws:=A5 h' (ρ' i)) (R'.ch i) p
     exact his (.inr ⟨i,rfl⟩) (R'.core.rc (.h i) p) (λ a b h=>by
      have h:(A9 (Aj H' i) (A5 h' (ρ' i)) p).1= .ptr a b:=h
      rw[h] at hlay;cases hlay) (λ hb pb tp=>CR hlay hb pb tp)
 . rcases dec l hd p e with⟨a,t,ht⟩|⟨a,ht⟩
   . rcases dec l' hd p e' with⟨b,_⟩|⟨b,hb⟩
     . exact R.core.inj l l' hd p a b
     . rcases ht with rfl|rfl<;>rcases hb with hb|⟨i,hb⟩<;>cases hb
   . rcases dec l' hd p e' with⟨b,t,hb⟩|⟨b,_⟩
     . rcases hb with rfl|rfl<;>rcases ht with ht|⟨i,ht⟩<;>cases ht
     . exact R'.core.inj l l' hd p a b
 . rcases e with⟨hd,p,e⟩|⟨i,e⟩
   . rcases dec l hd p e with⟨a,t,ht⟩|⟨a,_⟩
     . obtain⟨b,h1,h2⟩:=R.core.kind l (.inl ⟨hd,p,a⟩);refine⟨b,?_,h2⟩;rcases ht with rfl|rfl
       . rw[(cS l t p a).2];exact h1
       . rw[(cB l t p a).2];exact h1
     . exact R'.core.kind l (.inl ⟨hd,p,a⟩)
   . exact R'.core.kind l (.inr ⟨i,decp l i e⟩)
 . show AZ (Aa (clrH st.sl) t) (get us.sl t)
   rw[Z0];split
   . exact Bd _
   . exact R.sh t
 . by_cases hi:i=0
   . subst hi;exact R'.shx 0
   . rw[D8 _ _ i hi];exact Bd _
 . obtain⟨a,b⟩:=R'.hp i hi
   refine⟨?_,b⟩;rcases theirs (ρ' i) (by rw[a];simp) with⟨h,_⟩|h
   . rw[h] at a;cases a
   . rw[h,a];rfl
 . rcases dec l (.h i) p e with⟨_,t,h|h⟩|⟨a,_⟩
   . cases h
   . cases h
   . exact R'.bdh l i p a
 . exact JC R.fr.len hN
 . obtain⟨a,b⟩:=R.fr.old l hl e
   have hlt:l<us.hp.length:=KW hl R.fr.len;rcases e with e|e
   . rw[e] at b;obtain⟨c1,c2⟩:=cF l b;exact⟨by rw[c2];exact a,by rw[c1,e]⟩
   . rw[e] at b;refine⟨by rw[(old l hlt (.inr (by simp[ωp,b]))).1];exact a,?_⟩;rw[e];simp[C3,hlt,b]
 . intro h0e
   obtain⟨a,b⟩:=R.fr.old l hl (.inr h0e);have hlt:l<us.hp.length:=KW hl R.fr.len;rw[h0e] at b;simp[C3,hlt,b] at e
 . exact cP l i (R.fr.ptr l i e)
 . cases hd with
   | s t=>
     show ((Aa (clrH st.sl) t).fcell p).q≠_;rw[Z0];split
     . rw[A4];simp[PV.q]
     . exact R.nx (.s t) p i pb tp
   |b k=>exact R.nx (.b k) p i pb tp
   | x k=>
     by_cases hk:k=0
     . subst hk;exact hnob p _ _ _
     . rw[GA k hk];simp[PV.q]
   |h k=>exact CR (GY (ws:=A5 h' (ρ' k)) (R'.ch k) p) _ _ _
end
structure Only (S:Nat->Prop) (h h':Ad):Prop where
 len:h'.length=h.length
 off:∀ l,¬ S l->h'[l]?=h[l]?
 blk:∀ (l:Nat) (b:Blk),h[l]?=some b->∃ b':Blk,h'[l]?=some b'/\b'.k=b.k/\b'.w=b.w/\b'.cs.length=b.cs.length
theorem Only.refl(S:Nat->Prop)(h:Ad):Only S h h:=⟨rfl,λ _ _=>rfl,λ _ b hb=>⟨b,hb,rfl,rfl,rfl⟩⟩
theorem Only.mono{S T:Nat->Prop}{h h':Ad}(o:Only S h h')(hs:∀ l,S l->T l):Only T h h':=⟨o.len,λ l hl=>o.off l λ h=>hl (hs l h),o.blk⟩
theorem Only.trans{S:Nat->Prop}{h h' h'':Ad}(o:Only S h h')(o':Only S h' h''):Only S h h'':=
 ⟨o'.len.trans o.len,λ l hl=>(o'.off l hl).trans (o.off l hl),λ l b hb=>by
  obtain⟨b1,h1,k1,w1,c1⟩:=o.blk l b hb
  obtain⟨b2,h2,k2,w2,c2⟩:=o'.blk l b1 h1
  exact⟨b2,h2,k2.trans k1,w2.trans w1,c2.trans c1⟩⟩
theorem ZaC:X1 (.fl .undef) .undef=X0:=by funext i;unfold X1 X0;split<;>rfl
def PMk.as(M:PMk)(u:V)(m:Int):List V:=match M.vd with|true=>[u]|false=>[u,.int .i64 m]
def PMk.rv(M:PMk)(m:Int):V:=match M.vd with|true=>.undef|false=>.int .i64 m
def XB(f:Be)(M:PMk):Prop:=∀ (h:Ad) (ω:Nat->W) (hd:Hd) (P:List Nat) (b:Nat) (AB:List PV) (us:List V) (u:V) (m:Int) (K:List PV->Int->Prop) (Q:V->Ad->Prop),
 (∀ l l' a q,ω l= .own a q->ω l'= .own a q->l=l')->(if M.agg then u= .agg us else us=[u])->us.length=AB.length ->
 (∀ c,c<AB.length->RC h ω (.inn hd (P++[b+c])) (Aa AB c) (get us c))->M.f AB m K ->
 (∀ news m' h',K news m'->news.length=AB.length->Only (λ l=>∃ c es r,c<AB.length/\Aa AB c= .sl .own es/\ω l= .own hd (P++(b+c)::r)) h h' ->
  (∀ c,c<AB.length->RC h' ω (.inn hd (P++[b+c])) (Aa news c) (get us c))->Q (M.rv m') h')->f (M.as u m) h Q
open Classical in
def mix(S:Nat->Prop)(h h':Ad):Ad:=h.mapIdx λ l b=>if S l then (h'[l]?).getD b else b
theorem Zcg(S:Nat->Prop)(h h':Ad):(mix S h h').length=h.length:=by simp[mix]
theorem Xe{S:Nat->Prop}{h h':Ad}(hl:h'.length=h.length){l:Nat}(hs:S l):(mix S h h')[l]?=h'[l]?:=by
 unfold mix;rw[cO];rcases BN l h.length with hh|hh
 . rw[Bf hh,Bf (by omega)];simp[hs]
 . rw[BV hh,BV (by omega)];rfl
theorem PL{S:Nat->Prop}{h h':Ad}{l:Nat}(hs:¬ S l):(mix S h h')[l]?=h[l]?:=by
 unfold mix;rw[cO];rcases BN l h.length with hh|hh
 . rw[Bf hh];simp[hs]
 . rw[BV hh];rfl
theorem RC.own_at{H:Ad}{ω:Nat->W}{hd:Hd}{p:List Nat}{es:List (List PV)}{u:V}(r:RC H ω (.inn hd p) (.sl .own es) u):RC H ω (.at hd p) (.sl .own es) u:=by
 cases r with
 |nil=>exact .nil _ _
 |sl _ _ _ l o n b h1 hk hc hne hn hw hle hr=>exact .sl _ _ _ _ _ _ b h1 hk hc hne hn hw hle hr
section
variable {h0:Ad} {ω0 ω:Nat->W} {ρ ρ':Nat->Nat} {st st' st1:PS} {us us':St} {X X':CK}
theorem Tr.only{S:Nat->Prop}{h h':Ad}(o:Only S h h')(hS:∀ l,S l->∃ a q,ω l= .own a q):Tr h ω h' ω Ren.id S:=
 ⟨λ l e=>⟨e,o.off l λ hs=>by obtain⟨a,q,e'⟩:=hS l hs;rw[e] at e';cases e'⟩,λ l hd p e hn=>⟨by rw[e];rfl,o.off l hn⟩,λ l i e=>e⟩
theorem RS.mark1 (R:RS h0 ω0 ω ρ st us X0) {hd:Hd} {c:Nat} {es es':List (List PV)} (hg:Ds st hd [c]= .sl .own es) {H:Ad} (hO:Only (λ l=>∃ r,ω l= .own hd (c::r)) us.hp H)
 (hr:RC H ω (.at hd [c]) (.sl .own es') (Ai ρ st us X0 hd [c]).2):RS h0 ω0 ω ρ (setK st (.sl .own es') hd [c]) { us with hp:=H } X0:=by
 obtain⟨a1,a2,a3,a4,a5,a6,a7,a8,a9,a10,a11,a12⟩:=RJ (X':=X0) (v:=.sl .own es') R hg (.inr ⟨_,_,rfl⟩) rfl
 have t:=Tr.only (ω:=ω) hO (λ l ⟨r,e⟩=>⟨_,_,e⟩)
 have hV:∀ k,k<st.hp.length->A5 H (ρ k)=A5 us.hp (ρ k):=by
  intro k hk
  have:¬ ∃ r,ω (ρ k)= .own hd (c::r):=by rintro⟨r,e⟩;rw[(R.hp k hk).1] at e;cases e
  simp only[A5,hO.off _ this]
 have hfam:∀ hd' q,Ai ρ (setK st (.sl .own es') hd [c]) { us with hp:=H } X0 hd' q=Ai ρ (setK st (.sl .own es') hd [c]) us X0 hd' q\/(Ai ρ (setK st (.sl .own es') hd [c]) { us with hp:=H } X0 hd' q).1= .fl .undef:=by
  intro hd' q
  cases hd' with
  | h i=>
    rcases BN i st.hp.length with hi|hi
    . left;simp only[Ai,hV i hi]
    . right
      have hz:Aj (setK st (.sl .own es') hd [c]).hp i=[]:=by rw[Dx,BV (by rw[a8];exact hi)];rfl
      simp only[Ai,hz];unfold A9;split<;>rfl
  |_=>left;rfl
 have key:∀ hd' q,CD (Ai ρ (setK st (.sl .own es') hd [c]) { us with hp:=H } X0 hd' q).1/\RC H ω (.at hd' q) (Ai ρ (setK st (.sl .own es') hd [c]) { us with hp:=H } X0 hd' q).1 (Ai ρ (setK st (.sl .own es') hd [c]) { us with hp:=H } X0 hd' q).2:=by
  intro hd' q;rcases hfam hd' q with hf|hf
  . rw[hf];by_cases hxx:∃ i,hd'= .x i
    . obtain⟨i,rfl⟩:=hxx;exact AS (G8 i q)
    . rcases a1 hd' q (λ i h=>hxx ⟨i,h⟩) with h|⟨rfl,rfl,h3⟩|⟨e1,e2,e3⟩
      . exact AS h
      . rw[h3];exact⟨λ i pb tp=>by simp[PV.q],hr⟩
      . rw[e1];refine⟨λ i pb tp e=>R.nx hd' q i pb tp e,(R.core.rc hd' q).tr t (λ hown=>⟨λ l r e=>?_,λ r=>rfl⟩) (λ hb pb tp e'=>⟨λ l q' e=>?_,λ _ _=>rfl,Ren.still.soft λ _=>rfl⟩)⟩
        . rintro⟨r',e4⟩;rw[e] at e4;simp only[W.own.injEq] at e4;obtain⟨rfl,e5⟩:=e4;rcases a12 q with h|⟨c',rfl⟩
          . rw[h] at hown;cases hown
          . simp only[Eg,CW,G5] at e5;exact e2 ⟨rfl,by rw[e5.1]⟩
        . rintro⟨r',e4⟩;rw[e] at e4;cases e4;exact e3 _ pb tp e' rfl
  . exact AS hf
 refine⟨⟨λ hd' p=>(key hd' p).2,R.core.inj,R.core.injp,λ l e=>?_,λ l e=>by rw[hO.len];exact R.core.lt l e⟩,a2,λ i=>Bd _,by rw[a3];exact R.lsl,by rw[a4];exact R.lbx,λ i=>by rw[a5];exact R.lb i,a6,a7,λ i hi=>?_,λ l i e=>by rw[a8];exact R.bdp l i e,λ l i p e=>by rw[a8];exact R.bdh l i p e,⟨by rw[hO.len];exact R.fr.len,λ l hl e=>?_,R.fr.new,R.fr.ptr⟩,λ hd' p i pb tp=>(key hd' p).1 i pb tp⟩
 . obtain⟨b,h1,h2⟩:=R.core.kind l e
   obtain⟨b',h3,h4,_⟩:=hO.blk l b h1;exact⟨b',h3,by rw[h4,h2]⟩
 . rw[a8] at hi
   simp only[hV i hi,a9];exact R.hp i hi
 . obtain⟨x,y⟩:=R.fr.old l hl e
   refine⟨?_,y⟩;rw[<- x];refine hO.off l ?_;rintro⟨r,e'⟩;rw[y] at e';rcases e with e|e<;>rw[e] at e'<;>cases e'
theorem RS.markL{hd:Hd}(hsb:hd.sb=true){Z:Prop}{K:PS->Prop}:∀ (news AB:List PV) (c:Nat) (st:PS) (us:St) (H':Ad) (A:Nat->V),RS h0 ω0 ω ρ st us X0->Mo AB news ->
 Only (λ l=>∃ i es r,i<AB.length/\Aa AB i= .sl .own es/\ω l= .own hd ((c+i)::r)) us.hp H' ->
 (∀ i,i<AB.length->RC H' ω (.inn hd [c+i]) (Aa news i) (A (c+i)))->(∀ i es,i<AB.length->Aa AB i= .sl .own es->A (c+i)=(Ai ρ st us X0 hd [c+i]).2) ->
 NP hd c news K st->(∀ st',RS h0 ω0 ω ρ st' { us with hp:=H' } X0->K st'->Z)->Z
 | [],[],c,st,us,H',A,R,_,hO,_,_,hS,hK=>by
   have:H'=us.hp:=IG λ l=>hO.off l (by rintro⟨i,es,r,hi,_⟩;simp at hi)
   subst this;exact hK st R hS
 |[],_::_,c,st,us,H',A,R,hN,hO,hr,hA,hS,hK=>by unfold Mo at hN;split at hN<;>simp_all
 |_::_,[],c,st,us,H',A,R,hN,hO,hr,hA,hS,hK=>hN.elim
 | n :: ns,o::os,c,st,us,H',A,R,hN,hO,hr,hA,hS,hK=>by
   by_cases ho:∃ es,o= .sl .own es
   . obtain⟨es0,rfl⟩:=ho;obtain⟨⟨es,rfl⟩,hN⟩:=hN;obtain⟨⟨e0,hg⟩,hS⟩:=hS;have hlen:=Zcg (λ l=>∃ r,ω l= .own hd (c::r)) us.hp H'
     have hO1:Only (λ l=>∃ r,ω l= .own hd (c::r)) us.hp (mix (λ l=>∃ r,ω l= .own hd (c::r)) us.hp H'):=by
      refine⟨hlen,λ l hl=>PL hl,λ l b hb=>?_⟩;by_cases hs:∃ r,ω l= .own hd (c::r)
      . rw[Xe (h:=us.hp) hO.len hs];exact hO.blk l b hb
      . rw[PL hs];exact⟨b,hb,rfl,rfl,rfl⟩
     have hO2:Only (λ l=>∃ i es r,i<os.length/\Aa os i= .sl .own es/\ω l= .own hd ((c+1+i)::r)) (mix (λ l=>∃ r,ω l= .own hd (c::r)) us.hp H') H':=by
      refine⟨by rw[hlen];exact hO.len,λ l hl=>?_,λ l b hb=>?_⟩
      . by_cases hs:∃ r,ω l= .own hd (c::r)
        . rw[Xe (h:=us.hp) hO.len hs]
        . rw[PL hs];refine hO.off l ?_;rintro⟨i,es1,r,hi,e1,e2⟩
          cases i with
          |zero=>exact hs ⟨r,e2⟩
          |succ i=>exact hl ⟨i,es1,r,by simpa using hi,e1,by rw[e2,show c+(i+1)=c+1+i by omega]⟩
      . by_cases hs:∃ r,ω l= .own hd (c::r)
        . rw[Xe (h:=us.hp) hO.len hs] at hb;exact⟨b,hb,rfl,rfl,rfl⟩
        . rw[PL hs] at hb;exact hO.blk l b hb
     have hz:A (c+0)=(Ai ρ st us X0 hd [c+0]).2:=hA 0 es0 (by simp) rfl
     have hrc:RC H' ω (.inn hd [c]) (.sl .own es) (Ai ρ st us X0 hd [c]).2:=by
      have:=hr 0 (by simp);rw[hz] at this;exact this
     have tr:Tr0 H' ω (mix (λ l=>∃ r,ω l= .own hd (c::r)) us.hp H') ω Ren.id (λ l=>¬ ∃ r,ω l= .own hd (c::r)):=by
      refine⟨λ l e=>⟨e,?_⟩,λ l a p e hn=>⟨by rw[e];rfl,?_⟩⟩
      . rw[PL (fun⟨r,e'⟩=>by rw[e] at e';cases e')];exact(hO.off l (fun⟨i,es1,r,_,_,e'⟩=>by rw[e] at e';cases e')).symm
      . exact Xe (h:=us.hp) hO.len (Classical.not_not.1 hn)
     have hrc1:=(hrc.inn0 (hd':=hd) (p':=[c]) tr (λ l r e hn=>hn ⟨r,e⟩) (λ r=>rfl)).own_at;have R1:=R.mark1 hg hO1 hrc1;refine RS.markL hsb ns os (c+1) _ { us with hp:=mix (λ l=>∃ r,ω l= .own hd (c::r)) us.hp H' } H' A R1 hN hO2 (λ i hi=>?_) (λ i es1 hi e1=>?_) hS hK
     . have:=hr (i+1) (by simpa using hi);rw[show c+(i+1)=c+1+i by omega] at this;exact this
     . have:=hA (i+1) es1 (by simpa using hi) e1;rw[show c+(i+1)=c+1+i by omega] at this;rw[this]
       cases hd with
       |s t=>rfl
       |b i=>rfl
       |x i=>cases hsb
       | h j=>
         have hj:j<st.hp.length:=by
          refine Classical.byContradiction λ hn=>?_
          have:Aj st.hp j=[]:=by rw[Dx,BV (by omega)];rfl
          have hg':Aa (Aj st.hp j) c= .sl .own e0:=hg;rw[this] at hg';cases hg'
         have hp:=(R.hp j hj).1;show get (A5 us.hp (ρ j)) _=get (A5 (mix _ us.hp H') (ρ j)) _;unfold A5;rw[PL (by rintro⟨r,e⟩;rw[hp] at e;cases e)]
   . have hN':(∀ q es,n≠.sl q es)/\Mo os ns:=by
      unfold Mo at hN;split at hN
      . simp_all
      . rename_i h1 _;cases h1;exact absurd ⟨_,rfl⟩ ho
      . rename_i h1 h2;cases h1;cases h2;exact hN
      . simp_all
     have hS':NP hd (c+1) ns K st:=by
      unfold NP at hS;split at hS
      . simp_all
      . rename_i h1;cases h1;exact absurd rfl (hN'.1 _ _)
      . rename_i h1;cases h1;exact hS
     refine RS.markL hsb ns os (c+1) st us H' A R hN'.2 (hO.mono ?_) (λ i hi=>?_) (λ i es1 hi e1=>?_) hS' hK
     . rintro l ⟨i,es1,r,hi,e1,e2⟩
       cases i with
       |zero=>exact absurd ⟨es1,e1⟩ ho
       |succ i=>exact⟨i,es1,r,by simpa using hi,e1,by rw[e2,show c+(i+1)=c+1+i by omega]⟩
     . have:=hr (i+1) (by simpa using hi);rw[show c+(i+1)=c+1+i by omega] at this;exact this
     . have:=hA (i+1) es1 (by simpa using hi) e1;rw[show c+(i+1)=c+1+i by omega] at this;exact this
theorem WT{st:PS}{hd:Hd}:∀ {AB as:List PV} {b:Nat},IY st hd b AB as->AB.length=as.length/\∀ i,i<AB.length ->
 (∃ es es',Aa AB i= .sl .own es/\Ds st hd [b+i]= .sl .own es/\Aa as i= .sl (.bor hd [b+i] true) es'/\es'.length=es.length)\/(Aa as i=Aa AB i/\(Aa AB i).flatc=true)
 |[],[],b,_=>⟨rfl,λ i hi=>by simp at hi⟩
 |[],_::_,b,h=>h.elim
 |_::_,[],b,h=>by unfold IY at h;split at h<;>simp_all
 | o :: os,a::as,b,h=>by
   have step:∀ {i:Nat} {P:Nat->Prop},P (b+1+i)->P (b+(i+1)):=λ {i P} h=>by rw[show b+(i+1)=b+1+i by omega];exact h
   cases o with
   | sl q es=>
     obtain⟨rfl,h3,⟨es',rfl,h4⟩,h5⟩:=h
     obtain⟨h6,h7⟩:=WT h5
     refine⟨by simp[h6],λ i hi=>?_⟩
     cases i with
     |zero=>exact .inl ⟨es,es',rfl,h3,rfl,h4⟩
     |succ i=>exact step (P:=λ n=>(∃ es1 es',Aa os i= .sl .own es1/\Ds st hd [n]= .sl .own es1/\Aa as i= .sl (.bor hd [n] true) es'/\es'.length=es1.length)\/(Aa as i=Aa os i/\(Aa os i).flatc=true)) (h7 i (by simpa using hi))
   | _ =>
     all_goals
      obtain⟨h3,h4,h5⟩:=h
      obtain⟨h6,h7⟩:=WT h5
      refine⟨by simp[h6],λ i hi=>?_⟩
      cases i with
      |zero=>exact .inr ⟨h3,h4⟩
      |succ i=>exact step (P:=λ n=>(∃ es1 es',Aa os i= .sl .own es1/\Ds st hd [n]= .sl .own es1/\Aa as i= .sl (.bor hd [n] true) es'/\es'.length=es1.length)\/(Aa as i=Aa os i/\(Aa os i).flatc=true)) (h7 i (by simpa using hi))
theorem kY(R:RS h0 ω0 ω ρ st us X0){hd:Hd}{c:Nat}{es:List (List PV)}(hg:Ds st hd [c]= .sl .own es):RC us.hp ω (.at hd [c]) (.sl .own es) (Ai ρ st us X0 hd [c]).2:=by
 obtain⟨_,_,_,_,_,_,_,_,_,_,a11,_⟩:=RJ (X':=X0) (v:=.fl .undef) R hg (.inl rfl) rfl;have:=R.core.rc hd [c];rw[a11] at this;exact this
theorem xY{f:Be}{M:PMk}(hs:XB f M)(R:RS h0 ω0 ω ρ st us X0){x y:Opnd}{d:Option Nat}{k:PS->Prop}{K:St->Prop}(hk:∀ st us ω ρ,RS h0 ω0 ω ρ st us X0->k st->K us)(e:dM M x y d k st) :
 (((match M.vd with|true=>[x]|false=>[x,y]):List Opnd).map (·.ev us.sl)).all V.ok1=true/\f (((match M.vd with|true=>[x]|false=>[x,y]):List Opnd).map (·.ev us.sl)) us.hp λ r h=>K (St.put { us with hp:=h } d r):=by
 obtain⟨m,hd,b,AB,ey,eag,hsb,hok,hC,hM⟩:=e
 obtain⟨ey1,_⟩:=R.ev_fl ey (by simp)
 have hvd:M.vd=true\/M.vd=false:=by cases M.vd<;>simp
 refine⟨Ww R (by rcases hvd with h|h<;>rw[h]<;>simp only[Cr,P4,JE,Ah]<;>first|exact⟨hok,trivial⟩|exact⟨hok,by rw[ey];rfl,trivial⟩),?_⟩
 obtain⟨hl,hC⟩:=WT hC
 obtain⟨hdx,_,hshx,hrx⟩:=R.ev x
 have hcs:(if M.agg then x.ev us.sl= .agg (x.ev us.sl).cells else (x.ev us.sl).cells=[x.ev us.sl])/\(x.ev us.sl).cells.length=(x.pev st.sl).cells.length /\
  ∀ i,i<AB.length->∃ q,RC us.hp ω (.at hdx q) (Aa (x.pev st.sl).cells i) (get (x.ev us.sl).cells i):=by
  generalize x.pev st.sl=v at eag hok hl hshx hrx
  generalize x.ev us.sl=u at hshx hrx
  cases v with
  | agg cs=>
    obtain⟨ws,rfl,h2⟩:=hshx;refine⟨by rw[<- eag];simp[PV.isAgg,V.cells],h2,λ i hi=>⟨[i],?_⟩⟩;exact hrx [i]
  |tup vs=>cases hok
  | _ =>
    all_goals
     have hu:(∀ us,u≠.agg us)/\∀ us,u≠.tup us:=by
      first
      |exact hshx
      |(rename_i z;cases z<;>first|exact hshx|(simp[PV.argok,PV.argc,V.flat] at hok))
     have hc:u.cells=[u]:=by cases u<;>first|rfl|exact absurd rfl (hu.1 _)
     refine⟨by rw[<- eag,hc];simp[PV.isAgg],by rw[hc];rfl,λ i hi=>⟨[0],?_⟩⟩
     have hi0:i=0:=by rw[hl] at hi;simp[PV.cells] at hi;exact hi
     subst hi0
     have:=hrx [0]
     rw[GS hu.1 hu.2] at this
     rw[hc]
     exact this
 obtain⟨hag,hcl,hcr⟩:=hcs
 have cells:∀ i,i<AB.length->RC us.hp ω (.inn hd ([]++[b+i])) (Aa AB i) (get (x.ev us.sl).cells i)/\∀ es,Aa AB i= .sl .own es->get (x.ev us.sl).cells i=(Ai ρ st us X0 hd [b+i]).2:=by
  intro i hi;obtain⟨q,rc⟩:=hcr i hi;rcases hC i hi with⟨es,es',h1,h2,h3,h4⟩|⟨h1,h2⟩
  . have rk:=kY R h2;rw[h3] at rc;rw[h1]
    have same:get (x.ev us.sl).cells i=(Ai ρ st us X0 hd [b+i]).2:=by
     generalize get (x.ev us.sl).cells i=u1 at rc;generalize (Ai ρ st us X0 hd [b+i]).2=u2 at rk
     cases rc with
     | nil=>
       have:es=[]:=FA (by rw[<- h4];rfl);subst this
       cases rk with
       |nil=>rfl
       |sl _ _ _ l o n b' hb hk hc hne=>exact absurd rfl (hne rfl (.inl rfl))
     | sl _ _ _ l o n b1 hb hk hc hne hn hw hle hr=>
       have hne':es'≠[]:=hne rfl (.inr ⟨_,_,rfl⟩);obtain⟨hl1,rfl⟩:=hc.2 rfl
       cases rk with
       |nil=>exact absurd (FA h4) hne'
       | sl _ _ _ l' o' n' b2 hb2 hk2 hc2 hne2 hn2 hw2 hle2 hr2=>
         obtain⟨hl2,rfl,_⟩:=hc2;have:=R.core.inj l l' _ _ hl1 hl2;subst this;rw[hn,hn2,h4]
    refine⟨?_,λ _ _=>same⟩;rw[same];exact rk.lay_inn rfl
  . rw[h1] at rc;generalize hz:Aa AB i=o at rc h2;refine⟨?_,λ es e=>by rw[e] at h2;cases h2⟩
    cases o with
    | fl z=>
      cases rc with
      |undef=>simp[PV.flatc,V.flat] at h2
      |v _ _ hx=>exact .v _ _ hx
    |_=>cases h2
 have ho:=hs us.hp ω hd [] b AB (x.ev us.sl).cells (x.ev us.sl) m _ (λ r h=>K (St.put { us with hp:=h } d r)) R.core.inj hag (by rw[hcl,hl]) (λ i hi=>(cells i hi).1) hM λ news m' h' hK hnl hO hr=>?_
 . unfold PMk.as at ho
   rcases hvd with h|h<;>rw[h] at ho ⊢
   . exact ho
   . simp only[Cr,P4,ey1];exact ho
 . obtain⟨hN,hS⟩:=hK
   refine RS.markL hsb news AB b st us h' (λ j=>get (x.ev us.sl).cells (j-b)) R hN hO (λ i hi=>?_) (λ i es hi e=>?_) hS λ st' R' hk'=>?_
   . rw[show b+i-b=i by omega];exact hr i hi
   . rw[show b+i-b=i by omega];exact(cells i hi).2 es e
   . unfold PMk.rv;rcases hvd with h|h<;>rw[h] at hk' ⊢
     . obtain⟨ω2,R2⟩:=(show RS _ _ _ _ _ _ (X1 (.fl .undef) .undef) by rw[ZaC];exact R').put d;exact hk _ _ _ _ R2 hk'
     . obtain⟨ω2,R2⟩:=(R'.flat (x:=.int .i64 m') rfl).put d;exact hk _ _ _ _ R2 hk'
end
section
variable {h0:Ad} {ω0 ω:Nat->W} {ρ ρ':Nat->Nat} {st st' st1:PS} {us us':St} {X X':CK}
theorem Zde(R:RS h0 ω0 ω ρ st us X0){hd hdx:Hd}{c:Nat}{q:List Nat}{es es':List (List PV)}{u:V}(hg:Ds st hd [c]= .sl .own es)(rc:RC us.hp ω (.at hdx q) (.sl (.bor hd [c] true) es') u)(h4:es'.length=es.length):u=(Ai ρ st us X0 hd [c]).2:=by
 have rk:=kY R hg;generalize (Ai ρ st us X0 hd [c]).2=u2 at rk
 cases rc with
 | nil=>
   have:es=[]:=FA (by rw[<- h4];rfl);subst this
   cases rk with
   |nil=>rfl
   |sl _ _ _ l o n b' hb hk hc hne=>exact absurd rfl (hne rfl (.inl rfl))
 | sl _ _ _ l o n b1 hb hk hc hne hn hw hle hr=>
   have hne':es'≠[]:=hne rfl (.inr ⟨_,_,rfl⟩);obtain⟨hl1,rfl⟩:=hc.2 rfl
   cases rk with
   |nil=>exact absurd (FA h4) hne'
   | sl _ _ _ l' o' n' b2 hb2 hk2 hc2 hne2 hn2 hw2 hle2 hr2=>
     obtain⟨hl2,rfl,_⟩:=hc2;have:=R.core.inj l l' _ _ hl1 hl2;subst this;rw[hn,hn2,h4]
theorem Za1(s:List V)(t:Nat):put s t (get s t)=s:=by
 induction s generalizing t with
 |nil=>rfl
 | cons x r ih=>cases t with
   |zero=>rfl
   |succ t=>simp only[put,get];rw[ih]
theorem RS.reword {seg:List PV} {ws:List V} (R:RS h0 ω0 ω ρ st us (X1 (.agg seg) (.agg ws))) {AB:List PV} {u:V} {vs:List V} (hu:u= .agg vs) (hl:vs.length=AB.length)
 (hc:∀ c,(Aa AB c=Aa seg c/\get vs c=get ws c)\/(∃ x,Aa AB c= .fl x/\(x= .undef\/x.flat=true/\get vs c=x))):RS h0 ω0 ω ρ st us (X1 (.agg AB) u):=by
 subst hu
 have:=RS.ren (st':=st) (us':=us) (X':=X1 (.agg AB) (.agg vs)) R Ren.id_ok (λ hd p i q e=>by simp[Ren.id] at e;exact e.1) (λ hd' p=>?_) rfl R.sh (λ i=>?_) R.lsl R.lbx R.lb R.cb R.ch rfl (λ _=>rfl)
 . rwa [DQ] at this
 . cases hd' with
   | x i =>
     by_cases hi:i=0
     . subst hi;have e1:Ai ρ st us (X1 (.agg AB) (.agg vs)) (.x 0) p=((PV.agg AB).fcell p,(V.agg vs).fcell p):=rfl;have e2:Ai ρ st us (X1 (.agg seg) (.agg ws)) (.x 0) p=((PV.agg seg).fcell p,(V.agg ws).fcell p):=rfl;by_cases hp:∃ c,p=[c]
       . obtain⟨c,rfl⟩:=hp;rcases hc c with⟨h1,h2⟩|⟨x,h1,h2⟩
         . refine .inl (Bm ?_);rw[e1,e2];show (Aa AB c,get vs c)=(Aa seg c,get ws c);rw[h1,h2]
         . refine .inr ?_;rw[e1];show CD (Aa AB c)/\RC us.hp _ _ (Aa AB c) (get vs c);rw[h1];refine⟨λ i pb tp=>by simp[PV.q],?_⟩;rcases h2 with rfl|⟨h2,h3⟩
           . exact .undef _ _
           . rw[h3];exact .v _ _ h2
       . refine .inr ?_;rw[e1]
         have:(PV.agg AB).fcell p= .fl .undef:=by
          rcases ZM (v:=.agg AB) (by simp) p with h|h
          . exact absurd h hp
          . exact h
         exact DI this
     . exact .inr (AS (GA i hi p))
   |s t=>exact .inl (Bm rfl)
   |b t=>exact .inl (Bm rfl)
   |h t=>exact .inl (Bm rfl)
 . by_cases hi:i=0
   . subst hi;show AZ (.agg AB) (.agg vs);exact⟨vs,rfl,hl⟩
   . rw[D8 _ _ i hi];exact Bd _
theorem yU(R:RS h0 ω0 ω ρ st us X0){a:Opnd}{t:Nat}{K:PS->Prop}(e:ez a t K st):∃ ω' ρ' st1,RS h0 ω0 ω' ρ' st1 us X0/\K st1:=by
 obtain⟨hd,b,AB,st1,hh,hag,hC,hL,hK⟩:=e;obtain⟨hl,hC⟩:=WT hC
 have hsh:=R.sh t
 have hrt:∀ c,RC us.hp ω (.at (.s t) [c]) ((Aa st.sl t).fcell [c]) ((get us.sl t).fcell [c]):=λ c=>R.core.rc (.s t) [c]
 cases hv:Aa st.sl t with
 | agg cs=>
   rw[hv] at hl hC hsh hrt;obtain⟨vs,hu,hvl⟩:=hsh;rw[hu] at hrt
   have key:∃ seg ws ω' ρ',RS h0 ω0 ω' ρ' st1 us (X1 (.agg seg) (.agg ws))/\(∀ c es,c<AB.length->Ds st hd [b+c]= .sl .own es->Aa seg c= .sl .own es/\get ws c=(Ai ρ st us X0 hd [b+c]).2)/\seg.length=AB.length:=by
    cases ha:a.pev st.sl with
    | box i o=>
      rw[ha] at hh hL;simp only[PV.hld,Ak,Al] at hh;obtain⟨rfl,rfl⟩:=hh;simp only[Xy,B8] at hL;obtain⟨⟨w,s1⟩,h1,h2⟩:=hL;simp only at h2;subst h2;have h1':=h1;unfold Jx at h1';simp only at h1';split at h1'
      . rename_i hc;simp only[AN,D5,Cv,Ak,Al] at h1';obtain⟨rfl,_⟩:=h1';have hev:=R.ev_box ha;obtain⟨u,bx,hp,ω',ρ',k1,k2⟩:=l8 (a:=a) R (by rw[ha];exact h1);simp only[Af,hev,HA] at k1;split at k1
        . simp only[Hs,Dp,Cv,Ak,Al] at k1;obtain⟨rfl,rfl,rfl⟩:=k1;refine⟨_,_,ω',ρ',k2,λ c es hcl hg=>⟨?_,?_⟩,F1 (by simpa using hc.2)⟩
          . rw[DM,Ac (by simpa using hcl)];exact hg
          . rw[Hw,Ac (by simpa using hcl)];rfl
        . cases k1
      . cases h1'
    | ptr i o=>
      rw[ha] at hh hL;simp only[PV.hld,Ak,Al] at hh;obtain⟨rfl,rfl⟩:=hh;simp only[Xy,B8] at hL;obtain⟨⟨w,s1⟩,h1,h2⟩:=hL;simp only at h2;subst h2;have h1':=h1;unfold IE at h1';simp only at h1';split at h1'
      . rename_i hc;simp only[AN,D5,Cv,Ak,Al] at h1';obtain⟨rfl,_⟩:=h1';obtain⟨hev,_⟩:=R.ev_ptr ha;obtain⟨bk,hb1,hb2,hb3⟩:=R.blk hc.1;have hlen:(A5 us.hp (ρ i)).length=(Aj st.hp i).length:=(R.hp i hc.1).2
        have hrd:rd us.hp (ρ i) o AB.length=some (((A5 us.hp (ρ i)).drop o).take AB.length):=by
         simp[rd,hb1,hb2,hb3];rw[<- hb3,hlen];exact hc.2
        obtain⟨u,bx,hp,ω',ρ',k1,k2⟩:=mO (a:=a) R (by rw[ha];exact h1);simp only[Af,hev,Hs,hrd,Dp,Cv,JA,Ak,Al] at k1;obtain⟨rfl,rfl,rfl⟩:=k1;refine⟨_,_,ω',ρ',k2,λ c es hcl hg=>⟨?_,?_⟩,F1 (by simpa using hc.2)⟩
        . rw[DM,Ac (by simpa using hcl)];exact hg
        . rw[Hw,Ac (by simpa using hcl)];rfl
      . cases h1'
    |_=>rw[ha] at hh;cases hh
   obtain⟨seg,ws,ω',ρ',R1,hown,hsl⟩:=key
   have R2 := R1.reword (AB:=AB) hu (by rw[hvl,hl];rfl) λ c=>by
    rcases BN c AB.length with hcl|hcl
    . rcases hC c hcl with⟨es,es',h1,h2,h3,h4⟩|⟨h1,h2⟩
      . obtain⟨k1,k2⟩:=hown c es hcl h2;refine .inl ⟨by rw[h1,k1],?_⟩;rw[k2];have:=hrt c;exact Zde R h2 (by have e3:(PV.agg cs).fcell [c]= .sl (.bor hd [b+c] true) es':=h3;rw[e3] at this;exact this) h4
      . have h3:=hrt c;have e3:(PV.agg cs).fcell [c]=Aa AB c:=h1;rw[e3] at h3;generalize Aa AB c=o at h3 h2
        cases o with
        | fl x=>
          refine .inr ⟨x,rfl,?_⟩
          cases h3 with
          |undef=>exact .inl rfl
          |v _ _ hx=>exact .inr ⟨hx,rfl⟩
        |_=>cases h2
    . refine .inr ⟨.undef,?_,.inl rfl⟩;exact Gv _ _ hcl
   obtain⟨ω2,R3⟩:=R2.put (some t);refine⟨ω2,ρ',_,?_,hK⟩
   have e4:us.put (some t) (get us.sl t)=us:=by
    show { us with sl:=put us.sl t (get us.sl t) }=us;rw[Za1]
   rw[e4] at R3;exact R3
 |_=>rw[hv] at hag;cases hag
theorem b8(l:List PV)(c:Nat):Aa (PV.fzL l) c=(Aa l c).fz:=by
 induction l generalizing c with
 |nil=>rfl
 | cons v r ih=>cases c with
   |zero=>rfl
   |succ c=>exact ih c
theorem kr(l:List PV):(PV.fzL l).length=l.length:=by
 induction l with
 |nil=>rfl
 |cons v r ih=>simp only[PV.fzL,AH,ih]
theorem m8{v:PV}(h:v.lay=true):v.fz.lay=true:=by
 cases v with
 |fl _=>rfl
 |sl q es=>rfl
 |_=>cases h
theorem yh(R:RS h0 ω0 ω ρ st us X0){a:PV}(e:Tn a st=some st1):∃ ω',RS h0 ω0 ω' ρ st1 us X0:=by
 have gen:∀ (hd:Hd) (st':PS),(∀ t,hd≠.s t)->(∀ t,hd≠.x t)->st'.sl=clr hd st.sl->(∀ hd' p,hd'≠hd->(∀ t,hd'≠.s t)->Ai ρ st' us X0 hd' p=Ai ρ st us X0 hd' p) ->
  (∀ p,(Ai ρ st' us X0 hd p).2=(Ai ρ st us X0 hd p).2/\((Ai ρ st' us X0 hd p).1=(Ai ρ st us X0 hd p).1.fz\/(Ai ρ st' us X0 hd p).1= .fl .undef))->(∀ p,(Ai ρ st us X0 hd p).1.lay=true) ->
  st'.bx.length=st.bx.length->(∀ i,(Aj st'.bx i).length=(Aj st.bx i).length)->(∀ i c,(Aa (Aj st'.bx i) c).lay=true)->(∀ i c,(Aa (Aj st'.hp i) c).lay=true) ->
  st'.hp.length=st.hp.length->(∀ i,(Aj st'.hp i).length=(Aj st.hp i).length)->∃ ω',RS h0 ω0 ω' ρ st' us X0:=by
  intro hd st' n1 n2 hsl hoth hme hlay l2 l3 c1 c2 l4 l5
  refine⟨_,RS.ren (st':=st') (us':=us) (X':=X0) R (Ren.drop_ok hd) R7 (λ hd' p=>?_) rfl (λ t=>?_) (λ i=>Bd _) (by rw[hsl,Gs];exact R.lsl) (by rw[l2];exact R.lbx) (λ i=>by rw[l3];exact R.lb i) c1 c2 l4 l5⟩
  . by_cases h:hd'=hd
    . subst h;obtain⟨e2,e1⟩:=hme p;refine .inr ?_;rcases e1 with e1|e1
      . have hl:=hlay p;have hr:=R.core.rc hd' p;rw[e1,e2];generalize (Ai ρ st us X0 hd' p).1=v at hl hr;refine⟨λ i pb tp e=>?_,RC.fzo (λ l e=>by simp[e,Ag.ren]) (λ l q e=>by simp[e,Ag.ren,Ren.drop]) (λ l i e=>by simp[e,Ag.ren]) hr (CR hl) (Sv hl).1 (Sv hl).2⟩;cases v<;>simp[PV.fz,PV.q] at e
      . exact AS e1
    . cases hd' with
      |x i=>exact .inr (AS (G8 i p))
      | s t=>
        simp only[Ai,hsl,F3];split
        . exact .inr (DI (A4 p))
        . rename_i hb;exact .inl (Bl rfl (λ _=>Ren.drop_still (λ h=>n1 t h.symm)) λ hb' pb tp e _=>Ren.drop_still (Ef (by simpa using hb) e))
      | b t=>
        rw[hoth _ p h (by simp)];exact .inl (Bl rfl (λ _=>Ren.drop_still h) λ hb pb tp e=>absurd e (R.nobor_b t p hb pb tp))
      | h t=>
        rw[hoth _ p h (by simp)];exact .inl (Bl rfl (λ _=>Ren.drop_still h) λ hb pb tp e=>absurd e (R.nobor_h t p hb pb tp))
  . rw[hsl,F3]
    split
    . exact Bd _
    . exact R.sh t
 have hput:∀ (x:List (List PV)) (i k:Nat),Aj (B0 x i (PV.fzL (Aj x i))) k=if k=i then PV.fzL (Aj x i) else Aj x k:=by
  intro x i k;rw[Js];by_cases hk:k=i
  . subst hk;rcases BN k x.length with h|h
    . simp[h]
    . rw[Ae (by omega),Ac rfl]
      have:Aj x k=[]:=by rw[Dx,BV h];rfl
      rw[this];rfl
  . simp[hk]
 have cell:∀ (l:List PV) (ws:List V) (p:List Nat),(A9 (PV.fzL l) ws p).2=(A9 l ws p).2/\((A9 (PV.fzL l) ws p).1=(A9 l ws p).1.fz\/(A9 (PV.fzL l) ws p).1= .fl .undef):=by
  intro l ws p;unfold A9;split
  . exact⟨rfl,.inl (b8 _ _)⟩
  . exact⟨rfl,.inr rfl⟩
 unfold Tn at e;split at e
 . rename_i i o;simp only[Ak] at e;subst e;refine gen (.b i) _ (by simp) (by simp) rfl (λ hd' p h h'=>?_) (λ p=>?_) (λ p=>GY (R.cb i) p) (Hr _ _ _) (λ k=>?_) (λ k c=>?_) R.ch rfl (λ _=>rfl)
   . cases hd' with
     |b k=>simp only[Ai,hput];rw[Ae (λ h2=>h (by rw[h2]))]
     |s t=>exact absurd rfl (h' t)
     |_=>rfl
   . simp only[Ai,hput,Ac];exact cell _ _ p
   . simp only[hput];split
     . rename_i h;rw[h,kr]
     . rfl
   . simp only[hput];split
     . rw[b8];exact m8 (R.cb i c)
     . exact R.cb k c
 . rename_i i o;simp only[Ak] at e;subst e;refine gen (.h i) _ (by simp) (by simp) rfl (λ hd' p h h'=>?_) (λ p=>?_) (λ p=>GY (R.ch i) p) rfl (λ _=>rfl) R.cb (λ k c=>?_) (Hr _ _ _) (λ k=>?_)
   . cases hd' with
     |h k=>simp only[Ai,hput];rw[Ae (λ h2=>h (by rw[h2]))]
     |s t=>exact absurd rfl (h' t)
     |_=>rfl
   . simp only[Ai,hput,Ac];exact cell _ _ p
   . simp only[hput];split
     . rw[b8];exact m8 (R.ch i c)
     . exact R.ch k c
   . simp only[hput];split
     . rename_i h;rw[h,kr]
     . rfl
 . cases e
end
section
variable {h0:Ad} {ω0 ω:Nat->W} {ρ ρ':Nat->Nat} {st st' st1:PS} {us us':St} {X X':CK}
theorem Zaw(n:Nat)(s:List PV):(clrP n s).length=s.length:=by
 induction s with
 |nil=>rfl
 |cons x r ih=>simp[clrP,ih]
theorem bn(m:Nat)(s:List PV)(n:Nat):Aa (clrP m s) n=if ((Aa s n).isH||(Aa s n).pge m)=true then .fl .undef else Aa s n:=by
 induction s generalizing n with
 |nil=>rw[show Aa (clrP m []) n= .fl .undef from rfl,show Aa [] n= .fl .undef from rfl];split<;>rfl
 | cons x r ih=>cases n with
   |zero=>rfl
   |succ n=>exact ih n
theorem WO{m:Nat}:∀ {cs:List PV} {c:Nat},PV.pgeL m cs=false->(Aa cs c).pge m=false
 |[],_,_=>rfl
 |x::r,0,h=>by simp only[PV.pgeL,Ca] at h;exact h.1
 |x::r,c+1,h=>by simp only[PV.pgeL,Ca] at h;exact WO (cs:=r) h.2
theorem Zak{m:Nat}{v:PV}(h:v.pge m=false)(c:Nat):(Aa v.cells c).pge m=false:=by
 cases v with
 |agg cs=>exact WO (cs:=cs) h
 |_=>cases c<;>first|exact h|rfl
theorem Zbs{m:Nat}{v:PV}(h:v.pge m=false)(p:List Nat){i o:Nat}(e:v.fcell p= .ptr i o):i<m:=by
 have one:∀ {w:PV},w.pge m=false->w= .ptr i o->i<m:=by
  rintro w h rfl;simp only[PV.pge] at h
  exact Nat.lt_of_not_le λ h2=>by rw[Nat.ble_eq_true_of_le h2] at h;cases h
 unfold PV.fcell at e;split at e
 . exact one (WO h) e
 . cases e
 . exact one (Zak (WO h) _) e
 . cases e
 . exact one h e
 . cases e
def Ren.cut(n:Nat):Ren:=λ hd p=>match hd with
 |.h i=>if n<=i then .frz else .own hd p
 |_=>.own hd p
theorem Ren.cut_to(n:Nat)(hd:Hd)(p:List Nat):Ren.cut n hd p= .own hd p\/(Ren.cut n hd p= .frz/\∃ i,hd= .h i/\n<=i):=by
 unfold Ren.cut;split
 . rename_i i;split
   . rename_i h;exact .inr ⟨rfl,i,rfl,h⟩
   . exact .inl rfl
 . exact .inl rfl
theorem Ren.cut_still{n:Nat}{hd:Hd}(h:∀ i,hd= .h i->i<n):(Ren.cut n).still hd:=λ p=>by
 rcases Ren.cut_to n hd p with e|⟨_,i,rfl,hi⟩
 . exact e
 . have:=h i rfl;omega
def JV(n:Nat):W->W
 |.ptr i=>if n<=i then .none else .ptr i
 |w=>ren (Ren.cut n) w
theorem Wx{n:Nat}{w:W}{hd:Hd}{p:List Nat}(e:JV n w= .own hd p):w= .own hd p/\∀ i,hd= .h i->i<n:=by
 cases w with
 | own a q=>
   have e:Ren.cut n a q= .own hd p:=e;rcases Ren.cut_to n a q with e1|⟨e1,_⟩
   . rw[e1] at e;cases e;refine⟨rfl,λ i hi=>?_⟩;subst hi;unfold Ren.cut at e1;simp only at e1;split at e1
     . cases e1
     . omega
   . rw[e1] at e;cases e
 |ptr i=>simp only[JV] at e;split at e<;>cases e
 |_=>cases e
theorem WL{n:Nat}{w:W}{i:Nat}(e:JV n w= .ptr i):w= .ptr i/\i<n:=by
 cases w with
 | own a q=>
   have e:Ren.cut n a q= .ptr i:=e;rcases Ren.cut_to n a q with e1|⟨e1,_⟩<;>rw[e1] at e<;>cases e
 | ptr j=>
   simp only[JV] at e;split at e
   . cases e
   . cases e;exact⟨rfl,by omega⟩
 |_=>cases e
theorem RS.trunc(R:RS h0 ω0 ω ρ st us X0){n:Nat}(hn:∀ l i,ω0 l= .ptr i->i<n):∃ ω',RS h0 ω0 ω' ρ (st.trunc n) us X0:=by
 have t:Tr0 us.hp ω us.hp (λ l=>JV n (ω l)) (Ren.cut n) (λ _=>False):=
  ⟨λ l e=>⟨by rw[e];rfl,rfl⟩,λ l hd p e _=>⟨by rw[e];rfl,rfl⟩⟩
 have kp:∀ l i,i<n->ω l= .ptr i->JV n (ω l)= .ptr i:=λ l i hi e=>by rw[e];simp only[JV];rw[Ae (by omega)]
 have tk:∀ i,i<n->Aj (st.hp.take n) i=Aj st.hp i:=λ i hi=>by rw[Dx,Dx,PZ hi]
 have tk0:∀ i,n<=i->Aj (st.hp.take n) i=[]:=λ i hi=>by rw[Dx,BV (by rw[Eu];omega)];rfl
 have fh:∀ i p,n<=i->(Ai ρ (st.trunc n) us X0 (.h i) p).1= .fl .undef:=λ i p hi=>by
  simp only[Ai,PS.trunc,tk0 i hi];unfold A9;split<;>rfl
 refine⟨λ l=>JV n (ω l),⟨λ hd p=>?_,λ l l' hd p e e'=>R.core.inj l l' hd p (Wx e).1 (Wx e').1,λ l l' i e e'=>R.core.injp l l' i (WL e).1 (WL e').1,λ l e=>?_,λ l e=>?_⟩,λ t'=>?_,λ i=>Bd _,by simp only[PS.trunc,Zaw];exact R.lsl,R.lbx,R.lb,R.cb,λ i c=>?_,λ i hi=>?_,λ l i e=>?_,λ l i p e=>?_,⟨R.fr.len,λ l hl e=>?_,λ l hl e=>?_,λ l i e=>kp l i (hn l i e) (R.fr.ptr l i e)⟩,λ hd p i pb tp=>?_⟩
 . cases hd with
   |x i=>rw[G8];exact .undef _ _
   | b i=>
     exact(R.core.rc (.b i) p).tr0 t (λ _=>⟨λ _ _ _=>id,λ r=>rfl⟩) (λ hb pb tp e=>absurd e (R.nobor_b i p hb pb tp)) (λ l j o e=>by
      have:=GY (R.cb i) (ws:=AW us.bx i) p
      rw[show (A9 (Aj st.bx i) (AW us.bx i) p).1= .ptr j o from e] at this;cases this)
   | h i =>
     rcases BN i n with hi|hi
     . have e0:Ai ρ (st.trunc n) us X0 (.h i) p=Ai ρ st us X0 (.h i) p:=by simp only[Ai,PS.trunc,tk i hi]
       rw[e0]
       exact(R.core.rc (.h i) p).tr0 t (λ _=>⟨λ _ _ _=>id,λ r=>Ren.cut_still (λ j e=>by cases e;exact hi) _⟩) (λ hb pb tp e=>absurd e (R.nobor_h i p hb pb tp)) (λ l j o e=>by
        have:=GY (R.ch i) (ws:=A5 us.hp (ρ i)) p
        rw[show (A9 (Aj st.hp i) (A5 us.hp (ρ i)) p).1= .ptr j o from e] at this;cases this)
     . rw[fh i p hi];exact .undef _ _
   | s i =>
     simp only[Ai,PS.trunc,bn];split
     . rw[A4];exact .undef _ _
     . rename_i hb
       have hb:((Aa st.sl i).isH||(Aa st.sl i).pge n)=false:=by simpa using hb
       rw[Ca] at hb;have nh:=kK hb.1 p
       exact(R.core.rc (.s i) p).tr0 t (λ _=>⟨λ _ _ _=>id,λ r=>rfl⟩) (λ hb' pb tp e=>by
        have st':(Ren.cut n).still hb':=Ren.cut_still λ j e'=>by subst e';exact absurd e (nh j pb tp)
        exact⟨λ _ _ _=>id,λ _=>st',st'.soft⟩) (λ l j o e h=>kp l j (Zbs hb.2 p e) h)
 . refine R.core.kind l ?_;rcases e with⟨hd,p,e⟩|⟨i,e⟩
   . exact .inl ⟨hd,p,(Wx e).1⟩
   . exact .inr ⟨i,(WL e).1⟩
 . cases hw:ω l with
   |frz=>exact R.core.lt l hw
   |own a q=>obtain⟨b,hb,_⟩:=R.core.kind l (.inl ⟨a,q,hw⟩);exact Ce hb
   |ptr i=>obtain⟨b,hb,_⟩:=R.core.kind l (.inr ⟨i,hw⟩);exact Ce hb
   |none=>simp only[hw,JV,ren] at e;cases e
 . simp only[PS.trunc,bn];split
   . exact Bd _
   . exact R.sh t'
 . simp only[PS.trunc];rcases BN i n with hi|hi
   . rw[tk i hi];exact R.ch i c
   . rw[tk0 i hi];rfl
 . simp only[PS.trunc,Eu] at hi ⊢
   have hi1:i<n:=by omega
   obtain⟨q1,q2⟩:=R.hp i (by omega);exact⟨kp _ i hi1 q1,by rw[tk i hi1];exact q2⟩
 . obtain⟨q1,q2⟩:=WL e;have:=R.bdp l i q1;simp only[PS.trunc,Eu];omega
 . obtain⟨q1,q2⟩:=Wx e;have:=R.bdh l i p q1;have:=q2 i rfl;simp only[PS.trunc,Eu];omega
 . obtain⟨q1,q2⟩:=R.fr.old l hl e;refine⟨q1,?_⟩;rw[q2];rcases e with e|e<;>rw[e]<;>rfl
 . cases hw:ω l with
   |frz=>exact R.fr.new l hl hw
   |none=>simp only[hw,JV,ren] at e;cases e
   | own a q=>
     intro h0n;have:=(R.fr.old l hl (.inr h0n)).2;rw[hw,h0n] at this;cases this
   | ptr i=>
     intro h0n;have:=(R.fr.old l hl (.inr h0n)).2;rw[hw,h0n] at this;cases this
 . cases hd with
   |x j=>rw[G8];simp[PV.q]
   |b j=>exact R.nx (.b j) p i pb tp
   | h j=>
     rcases BN j n with hj|hj
     . have e0:Ai ρ (st.trunc n) us X0 (.h j) p=Ai ρ st us X0 (.h j) p:=by simp only[Ai,PS.trunc,tk j hj]
       rw[e0];exact R.nx (.h j) p i pb tp
     . rw[fh j p hj];simp[PV.q]
   | s t'=>
     simp only[Ai,PS.trunc,bn];split
     . rw[A4];simp[PV.q]
     . exact R.nx (.s t') p i pb tp
end
theorem ZcJ{l l':List PV}(hl:l.length=l'.length)(h:∀ t,Aa l t=Aa l' t):l=l':=by
 apply ck hl;intro t h1 h2;have:=h t;rwa [E6,E6,Bf h1,Bf h2] at this
def cS(d:Nat)(v:PV):PV:=if v.bor (.s d) then .fl .undef else v
def Hf(d:Nat)(v:PV)(l:List PV):List PV:=clr (.s d) (B1 l d v)
theorem aO(d:Nat)(v:PV)(l:List PV):(Hf d v l).length=l.length:=by simp[Hf,Gs,G3]
theorem Nb{d:Nat}{v:PV}(hv:v.bor (.s d)=false)(l:List PV)(t:Nat):Aa (Hf d v l) t=if t=d/\d<l.length then v else cS d (Aa l t):=by
 unfold Hf cS;rw[F3,EG];split
 . rw[hv];rfl
 . rfl
theorem kF(d:Nat):cS d (.fl .undef)= .fl .undef:=by unfold cS;split<;>rfl
theorem F4(a b:Nat)(v:PV):cS a (cS b v)=cS b (cS a v):=by
 unfold cS;by_cases h1:v.bor (.s a)=true<;>by_cases h2:v.bor (.s b)=true<;>simp[h1,h2,PV.bor]
theorem SO{d:Nat}{v:PV}(h:v.bor (.s d)=false):cS d v=v:=by unfold cS;rw[h];rfl
def HW(s:Nat)(l:List PV):List PV:=if (Aa l s).own then Hf s (.fl .undef) l else l
theorem bE(s:Nat)(l:List PV):(HW s l).length=l.length:=by unfold HW;split;exact aO _ _ _;rfl
theorem Xa(s:Nat)(l:List PV)(t:Nat):Aa (HW s l) t=if (Aa l s).own then (if t=s/\s<l.length then .fl .undef else cS s (Aa l t)) else Aa l t:=by
 unfold HW;split
 . rw[Nb rfl]
 . rfl
theorem ZW{v:PV}(h:BJ v.cells=true)(hd:Hd):v.bor hd=false:=by
 have one:∀ {x:PV},x.cell=true->x.bor hd=false:=by
  intro x hx
  cases x with
  |sl q es=>cases q<;>first|rfl|cases hx
  |fl a=>rfl
  |_=>cases hx
 have lst:∀ {cs:List PV},BJ cs=true->PV.borL hd cs=false:=by
  intro cs
  induction cs with
  |nil=>intro _;rfl
  | cons x r ih=>
    intro h;simp only[BJ,Ah] at h;simp only[PV.borL,one h.1,ih h.2,Bool.or_false]
 cases v with
 |agg cs=>exact lst h
 |tup vs=>simp[PV.cells,BJ,PV.cell] at h
 |_=>simp only[PV.cells,BJ,Ah] at h;exact one h.1
theorem dT{s:Nat}{st:PS}(h:(Aa st.sl s).bor (.s s)=false):Ag.mvOut (.t s) st=(Aa st.sl s,{ st with sl:=HW s st.sl }):=by
 simp only[Ag.mvOut,Ge,HW,Hf];split
 . rw[h];rfl
 . rfl
theorem ZaS{cs cs':List PV}{off sz s:Nat}{st st':PS}(h:EO cs [(off,sz,.t s)] st=some (cs',st')) :
 (Aa st.sl s).cells.length=sz/\off+sz<=cs.length/\BJ (Aa st.sl s).cells=true/\cs'=AM cs off (Aa st.sl s).cells/\st'={ st with sl:=HW s st.sl }:=by
 unfold EO at h
 split at h
 . rename_i hc
   obtain⟨h1,h2,h3⟩:=hc
   have hb:(Aa st.sl s).bor (.s s)=false:=by
    cases hb:(Aa st.sl s).bor (.s s) with
    |false=>rfl
    | true=>
      simp only[Ag.mvOut,Ge] at h3;split at h3
      . simp[PV.cells,BJ,PV.cell,V.flat] at h3
      . have:=ZW h3 (.s s);rw[hb] at this;cases this
   rw[dT hb] at h1 h3 h;simp only[EO,Ak,Al] at h;exact⟨h1,h2,h3,h.1.symm,h.2.symm⟩
 . cases h
theorem ZbT{cs:List PV}{off sz s:Nat}{st:PS}(h1:(Aa st.sl s).cells.length=sz)(h2:off+sz<=cs.length)(h3:BJ (Aa st.sl s).cells=true) :
 EO cs [(off,sz,.t s)] st=some (AM cs off (Aa st.sl s).cells,{ st with sl:=HW s st.sl }):=by
 have hb:=ZW h3 (.s s)
 unfold EO
 rw[dT hb]
 simp only
 rw[Ac ⟨h1,h2,h3⟩]
 rfl
def Hh(y:Nat)(l:List PV):List PV:=match Aa l y with
 |.sl .own _=>HW y l
 |_=>l
theorem ZdY{w y:Nat}{st st':PS}{new:List (List PV)}(h:FF w (.t y) st=some (new,st')) :
 st'={ st with sl:=Hh y st.sl }/\Aa st.sl y≠.fl .undef/\∀ st2:PS,Aa st2.sl y=Aa st.sl y->FF w (.t y) st2=some (new,{ st2 with sl:=Hh y st2.sl }):=by
 unfold FF at h
 simp only[Opnd.pev] at h
 have hsrc:∀ (st2:PS) (v:PV),Aa st2.sl y=v->(∀ es,v≠.sl .own es)->Hh y st2.sl=st2.sl:=by
  intro st2 v hv hn;unfold Hh;rw[hv]
  cases v with
  |sl q es=>cases q<;>first|rfl|exact absurd rfl (hn es)
  |_=>rfl
 split at h
 . rename_i s hv
   split at h
   . rename_i hw;simp only[Ak,Al] at h;obtain⟨rfl,rfl⟩:=h;refine⟨by rw[hsrc _ _ hv (by simp)],by rw[hv];simp,λ st2 h2=>?_⟩;rw[hv] at h2;unfold FF;simp only[Opnd.pev,h2,Ac hw,hsrc _ _ h2 (by simp)]
   . cases h
 . rename_i es hv
   split at h
   . rename_i hw;simp only[Ak,Al] at h;obtain⟨rfl,rfl⟩:=h;refine⟨by rw[hsrc _ _ hv (by simp)],by rw[hv];simp,λ st2 h2=>?_⟩;rw[hv] at h2;unfold FF;simp only[Opnd.pev,h2,Ac hw,hsrc _ _ h2 (by simp)]
   . cases h
 . rename_i hv
   split at h
   . rename_i hw;simp only[Ak,Al] at h;obtain⟨rfl,rfl⟩:=h;refine⟨by rw[hsrc _ _ hv (by simp)],by rw[hv];simp,λ st2 h2=>?_⟩;rw[hv] at h2;unfold FF;simp only[Opnd.pev,h2,Ac hw,hsrc _ _ h2 (by simp)]
   . cases h
 . rename_i hv
   split at h
   . rename_i hw;simp only[Ak,Al] at h;obtain⟨rfl,rfl⟩:=h;refine⟨by rw[hsrc _ _ hv (by simp)],by rw[hv];simp,λ st2 h2=>?_⟩;rw[hv] at h2;unfold FF;simp only[Opnd.pev,h2,Ac hw,hsrc _ _ h2 (by simp)]
   . cases h
 . rename_i es hv
   split at h
   . rename_i hw
     have hm:∀ st2:PS,Aa st2.sl y= .sl .own es->(Ag.mvOut (.t y) st2).2={ st2 with sl:=Hh y st2.sl }:=by
      intro st2 h2;rw[dT (by rw[h2];rfl)];unfold Hh;rw[h2]
     simp only[Ak,Al] at h;obtain⟨rfl,rfl⟩:=h;refine⟨hm _ hv,by rw[hv];simp,λ st2 h2=>?_⟩;rw[hv] at h2;unfold FF;simp only[Opnd.pev,h2,Ac hw];rw[hm st2 h2]
   . cases h
 . rename_i hv
   simp only[Ak,Al] at h;obtain⟨rfl,rfl⟩:=h;refine⟨by rw[hsrc _ _ hv (by simp)],by rw[hv];simp,λ st2 h2=>?_⟩;rw[hv] at h2;unfold FF;simp only[Opnd.pev,h2,hsrc _ _ h2 (by simp)]
 . cases h
theorem lP(y:Nat)(l:List PV):(Hh y l).length=l.length:=by unfold Hh;split;exact bE _ _;rfl
def oq(v:PV):Bool:=match v with
 |.sl .own _=>true
 |_=>false
theorem aV(y:Nat)(l:List PV)(t:Nat):Aa (Hh y l) t=if oq (Aa l y) then (if t=y/\y<l.length then .fl .undef else cS y (Aa l t)) else Aa l t:=by
 unfold Hh
 cases hv:Aa l y with
 | sl q es=>
   cases q with
   |own=>simp only;rw[Xa,hv];rfl
   |_=>rfl
 |_=>rfl
theorem yp {p q : POper} (hp:p.canU q=true) {k:PS->Prop} {st:PS} (e:HI p (HI q k) st):HI q (HI p k) st:=by
 unfold POper.canU at hp;split at hp
 . rename_i m w n zs off sz s m' w' y da db hpo hqo hpd hqd hpg hqg;simp only[Ah,Sb,HB] at hp;obtain⟨⟨⟨⟨hn,hab⟩,hsb⟩,hya⟩,hsy⟩:=hp;unfold HI at e ⊢;rw[hpg,hpo,hpd,hqg,hqo,hqd] at e ⊢;simp only[CU] at e ⊢;split at e
   . rename_i va sa hA;split at e
     . rename_i vb sb hB
       simp only[Bq,Ae hn] at hA;split at hA
       . rename_i hz;simp only[B8,Prod.exists,Al] at hA;obtain⟨cs,sa',hf,rfl,rfl⟩:=hA;obtain⟨f1,f2,f3,rfl,rfl⟩:=ZaS hf
         simp only[Bq,Opnd.pev,BG] at hB;split at hB
         . rename_i new s1 hs;obtain⟨rfl,hy0,hsrc⟩:=ZdY hs;simp only[IX,Opnd.pev,BG,Ag.mvOut,AJ,Cf,CW,C0] at hB;split at hB
           . rename_i hc;simp only[Ak,Al] at hB;obtain⟨rfl,rfl⟩:=hB
             have hput:∀ (st:PS) (d:Nat) (es:List (List PV)),st.put (some d) (.sl .own es)={ st with sl:=Hf d (.sl .own es) st.sl }:=λ _ _ _=>rfl
             rw[hput] at hy0 hsrc e;rw[hput] at e;simp only at hy0 hsrc e
             have vs_nb:=λ hd=>ZW f3 hd
             have gy:Aa (Hf da (.sl .own (EI w n (AM (zs.map BG) off (Aa st.sl s).cells))) (HW s st.sl)) y=Aa st.sl y:=by
              rw[Nb rfl] at hy0 ⊢;rw[Ae (λ h=>hya h.1)] at hy0 ⊢;rw[Xa] at hy0 ⊢;split at hy0
              . rename_i ho;rw[Ac ho];rw[Ae (λ h=>hsy h.1.symm)] at hy0 ⊢;unfold cS at hy0 ⊢;split at hy0
                . exact absurd rfl hy0
                . rename_i h2;rw[Ae h2];split at hy0
                  . exact absurd rfl hy0
                  . rename_i h3;rw[Ae h3]
              . rename_i ho;rw[Ae ho];unfold cS at hy0 ⊢;split at hy0
                . exact absurd rfl hy0
                . rename_i h2;rw[Ae h2]
             have hs2:=hsrc st gy.symm;simp only[Bq,Opnd.pev,BG,hs2,IX,Ag.mvOut,AJ,Cf,CW,C0];rw[Ac hc];simp only[hput]
             have gs:Aa (Hf db (.sl .own new) (Hh y st.sl)) s=Aa st.sl s:=by
              rw[Nb rfl,Ae (λ h=>hsb h.1),aV];split
              . rw[Ae (λ h=>hsy h.1),SO (vs_nb _),SO (vs_nb _)]
              . rw[SO (vs_nb _)]
             simp only[Bq,Ae hn,Ac hz];rw[ZbT (by simp only[gs];exact f1) f2 (by simp only[gs];exact f3)];simp only[Cv,gs,hput]
             have fin:Hf da (.sl .own (EI w n (AM (zs.map BG) off (Aa st.sl s).cells))) (HW s (Hf db (.sl .own new) (Hh y st.sl)))=Hf db (.sl .own new) (Hh y (Hf da (.sl .own (EI w n (AM (zs.map BG) off (Aa st.sl s).cells))) (HW s st.sl))):=by
              generalize hva:PV.sl .own (EI w n (AM (zs.map BG) off (Aa st.sl s).cells))=va;rw[hva] at gy;generalize hvb:PV.sl .own new=vb;rw[hvb] at gs
              have ba:∀ hd,va.bor hd=false:=λ hd=>by rw[<- hva];rfl
              have bb:∀ hd,vb.bor hd=false:=λ hd=>by rw[<- hvb];rfl
              refine ZcJ (by simp only[aO,bE,lP]) λ t=>?_
              rw[Nb (ba _),Xa,gs,Nb (bb _),aV,Nb (bb _),aV,gy,Nb (ba _),Xa];simp only[aO,bE,lP];generalize (Aa st.sl s).own=os;generalize oq (Aa st.sl y)=oy;generalize Aa st.sl t=V
              have cva:∀ d,cS d va=va:=λ d=>SO (ba _)
              have cvb:∀ d,cS d vb=vb:=λ d=>SO (bb _)
              by_cases hA:t=da/\da<st.sl.length
              . have hB:¬ (t=db/\db<st.sl.length):=λ h=>hab (hA.1.symm.trans h.1)
                have hY:¬ (t=y/\y<st.sl.length):=λ h=>hya (h.1.symm.trans hA.1)
                cases os<;>cases oy<;>simp only[Ac hA,Ae hB,Ae hY,cva,AN,AQ,AL]
              . by_cases hB:t=db/\db<st.sl.length
                . have hS:¬ (t=s/\s<st.sl.length):=λ h=>hsb (h.1.symm.trans hB.1)
                  cases os<;>cases oy<;>simp only[Ae hA,Ac hB,Ae hS,cvb,AN,AQ,AL]
                . by_cases hS:t=s/\s<st.sl.length
                  . have hY:¬ (t=y/\y<st.sl.length):=λ h=>hsy (hS.1.symm.trans h.1)
                    cases os<;>cases oy<;>simp only[Ae hA,Ae hB,Ac hS,Ae hY,kF,AN,AQ,AL]
                    . exact F4 _ _ _
                    . rw[F4 da db,F4 da y]
                  . by_cases hY:t=y/\y<st.sl.length
                    . cases os<;>cases oy<;>simp only[Ae hA,Ae hB,Ae hS,Ac hY,kF,AN,AQ,AL]
                      . exact F4 _ _ _
                      . rw[F4 s db,F4 da db]
                    . cases os<;>cases oy<;>simp only[Ae hA,Ae hB,Ae hS,Ae hY,AN,AQ,AL]
                      . exact F4 _ _ _
                      . rw[F4 da db,F4 da y]
                      . rw[F4 s db,F4 da db]
                      . rw[F4 s db,F4 da db,F4 s y,F4 da y]
             rw[fin];exact e
           . cases hB
         . cases hB
       . cases hA
     . exact e.elim
   . exact e.elim
 . cases hp
section
variable {h0:Ad} {ω0 ω:Nat->W} {ρ ρ':Nat->Nat} {st st' st1:PS} {us us':St} {X X':CK}
theorem RS.fzArgs:∀ (args:List Opnd) {ω:Nat->W} {st:PS},RS h0 ω0 ω ρ st us X0->∃ ω',RS h0 ω0 ω' ρ (Ag.fzArgs args st) us X0
 |[],ω,st,R=>⟨ω,R⟩
 | x::r,ω,st,R=>by
   obtain⟨ω1,R1⟩:=R.fz0 x
   obtain⟨ω2,R2⟩:=R1.put none
   exact RS.fzArgs r R2
theorem RS.tup0(R:RS h0 ω0 ω ρ st us X0):RS h0 ω0 ω ρ st us (X1 (.tup []) (.tup [])):=by
 have e:∀ p,(PV.tup []).fcell p= .fl .undef:=by
  intro p
  match p with
  |[]=>rfl
  |[_]=>rfl
  |[i,c]=>cases c<;>rfl
  |_::_::_::_=>rfl
 exact R.handx ⟨[],rfl,rfl,λ i=>by simp[Aa,Shp1]⟩ (λ p=>by rw[e];exact .undef _ _) (λ p i pb tp=>by rw[e];simp[PV.q])
theorem jK:∀ l:List PV,(PV.ownrL l).length=l.length
 |[]=>rfl
 |_::r=>by simp only[PV.ownrL,AH,jK r]
theorem M4:∀ l:List (List PV),(PV.ownrE l).length=l.length
 |[]=>rfl
 |_::r=>by simp only[PV.ownrE,AH,M4 r]
theorem jT:∀ a b:List PV,PV.ownrL (a++b)=PV.ownrL a++PV.ownrL b
 |[],_=>rfl
 |_::r,b=>by simp only[Eg,PV.ownrL,jT r b]
theorem ZL:∀ l:List (List PV),(PV.ownrE l).flatten=PV.ownrL l.flatten
 |[]=>rfl
 |e::r=>by simp only[PV.ownrE,JD,ZL r,jT]
theorem aA:∀ (l:List PV) (k:Nat),Aa (PV.ownrL l) k=(Aa l k).ownr
 |[],_=>rfl
 |_::_,0=>rfl
 |_::r,k+1=>aA r k
theorem bZ{w:Nat}:∀ {l:List (List PV)},(∀ e∈l,e.length=w)->∀ e∈PV.ownrE l,e.length=w
 |[],_,_,h=>by cases h
 | a::r,hw,e,h=>by
   simp only[PV.ownrE,Cz] at h
   rcases h with rfl|h
   . rw[jK];exact hw a (by simp)
   . exact bZ (λ e h=>hw e (by simp[h])) e h
theorem Zce{H:Ad}{v:PV}{u:V}{m:Md}(r:RC H ω m v u):m= .fz->RC H ω .fz v.ownr u:=by
 induction r with
 |undef m u=>intro _;exact .undef _ _
 |v m x hx=>intro _;exact .v _ _ hx
 |nil m q=>intro _;exact .nil _ _
 | sl m q es l o n b hb hk hc hne hn hw hle hr ih=>
   rintro rfl
   refine .sl _ _ _ l o n b hb hk hc (λ h=>by cases h) (by rw[M4];exact hn) (bZ hw) (by rw[M4];exact hle) λ k hk'=>?_
   rw[M4] at hk';rw[ZL,aA];exact ih k hk' rfl
 | ep m q es j o' l o p b hb hk hq hc hw hle hr hp ih=>
   rintro rfl;exact .ep _ _ _ _ _ l o p b hb hk hq hc hw hle hr hp
 |box m i o=>intro _;exact .box _ _ _
 |ptr hd p i o l hl=>intro h;cases h
theorem mi{H:Ad}{hd:Hd}{p:List Nat}{v:PV}{u:V}(r:RC H ω (.at hd p) v u):RC H ω (.at hd p) v.nrm1 u:=by
 unfold PV.nrm1;split
 . rename_i es
   cases r with
   |nil=>exact .nil _ _
   | sl _ _ _ l o n b hb hk hc hne hn hw hle hr=>
     refine .sl _ _ _ l o n b hb hk hc (λ _ h=>by simp at h) (by rw[M4];exact hn) (bZ hw) (by rw[M4];exact hle) λ k hk'=>?_
     rw[M4] at hk';rw[ZL,aA];exact Zce (hr k hk') rfl
 . exact r
theorem ln:∀ (l:List PV) (k:Nat),Aa (PV.nrmA l) k=(Aa l k).nrm1
 |[],_=>rfl
 |_::_,0=>rfl
 |_::r,k+1=>ln r k
theorem kX:∀ l:List PV,(PV.nrmA l).length=l.length
 |[]=>rfl
 |_::r=>by simp only[PV.nrmA,AH,kX r]
theorem nX(v:PV):v.nrm1.q=v.q:=by
 unfold PV.nrm1;split<;>rfl
theorem Wo(v:PV)(p:List Nat):v.nrm.fcell p=(v.fcell p).nrm1\/v.nrm.fcell p=v.fcell p:=by
 cases v with
 | agg cs=>
   match p with
   |[c]=>exact .inl (ln cs c)
   |[]=>exact .inr rfl
   |_::_::_=>exact .inr rfl
 | sl q es=>
   match p with
   |[0]=>cases q<;>exact .inl rfl
   |[]=>cases q<;>exact .inr rfl
   |(_+1)::_=>cases q<;>exact .inr rfl
   |0::_::_=>cases q<;>exact .inr rfl
 |_=>exact .inr rfl
theorem lU{v:PV}{u:V}(hs:AZ v u):AZ v.nrm u:=by
 cases v with
 |agg cs=>obtain⟨ws,h1,h2⟩:=hs;exact⟨ws,h1,by rw[kX];exact h2⟩
 |tup vs=>exact hs
 |sl q es=>cases q<;>exact hs
 |_=>exact hs
theorem Xd:∀ (l:List PV) (t:Nat),Aa (l.map PV.nrm) t=(Aa l t).nrm
 |[],_=>rfl
 |_::_,0=>rfl
 |_::r,t+1=>Xd r t
theorem RS.nmS{X:CK}(R:RS h0 ω0 ω ρ st us X):RS h0 ω0 ω ρ { st with sl:=st.sl.map PV.nrm } us X:=by
 have:=RS.ren (st':={ st with sl:=st.sl.map PV.nrm }) (us':=us) (X':=X) R Ren.id_ok (λ hd p i q e=>by simp[Ren.id] at e;exact e.1) (λ hd' p=>?_) rfl (λ t=>by rw[Xd];exact lU (R.sh t)) R.shx (by rw[Bc];exact R.lsl) R.lbx R.lb R.cb R.ch rfl (λ _=>rfl)
 . rwa [DQ] at this
 . cases hd' with
   |x i=>exact .inl (Bm rfl)
   | s t=>
     refine .inr ?_;rw[DQ];refine⟨λ i pb tp=>?_,?_⟩
     . show ((Aa (st.sl.map PV.nrm) t).fcell p).q≠_;rw[Xd];rcases Wo (Aa st.sl t) p with e|e
       . rw[e,nX];exact R.nx (.s t) p i pb tp
       . rw[e];exact R.nx (.s t) p i pb tp
     . show RC us.hp ω (.at (.s t) p) ((Aa (st.sl.map PV.nrm) t).fcell p) ((get us.sl t).fcell p);rw[Xd];rcases Wo (Aa st.sl t) p with e|e
       . rw[e];exact mi (R.core.rc (.s t) p)
       . rw[e];exact R.core.rc (.s t) p
   |b t=>exact .inl (Bm rfl)
   |h t=>exact .inl (Bm rfl)
theorem RS.nm{v:PV}{u:V}(R:RS h0 ω0 ω ρ st us (X1 v u)):RS h0 ω0 ω ρ st us (X1 v.nrm u):=by
 have hs:AZ v u:=R.shx 0
 have hr:∀ p,RC us.hp ω (.at (.x 0) p) (v.fcell p) (u.fcell p):=λ p=>R.core.rc (.x 0) p
 have hx:∀ p i pb tp,(v.fcell p).q≠some (.bor (.x i) pb tp):=λ p i pb tp=>R.nx (.x 0) p i pb tp
 have hsh:AZ v.nrm u:=lU hs;have:=RS.ren (st':=st) (us':=us) (X':=X1 v.nrm u) R Ren.id_ok (λ hd p i q e=>by simp[Ren.id] at e;exact e.1) (λ hd' p=>?_) rfl R.sh (λ i=>?_) R.lsl R.lbx R.lb R.cb R.ch rfl (λ _=>rfl)
 . rwa [DQ] at this
 . cases hd' with
   | x i =>
     by_cases hi:i=0
     . subst hi;refine .inr ?_;rw[DQ];refine⟨λ i pb tp=>?_,?_⟩
       . show (v.nrm.fcell p).q≠_;rcases Wo v p with e|e
         . rw[e,nX];exact hx p i pb tp
         . rw[e];exact hx p i pb tp
       . show RC us.hp ω (.at (.x 0) p) (v.nrm.fcell p) (u.fcell p);rcases Wo v p with e|e
         . rw[e];exact mi (hr p)
         . rw[e];exact hr p
     . exact .inl (Bm (by simp[Ai,X1,hi]))
   |s t=>exact .inl (Bm rfl)
   |b t=>exact .inl (Bm rfl)
   |h t=>exact .inl (Bm rfl)
 . by_cases hi:i=0
   . subst hi;exact hsh
   . rw[D8 _ _ i hi];exact Bd _
theorem xn{f:Be}{p:Cb}(hs:D4 f p)(R:RS h0 ω0 ω ρ st us X0){args:List Opnd}{d:Option Nat}{k:PS->Prop}{K:St->Prop}(hk:∀ st us ω ρ,RS h0 ω0 ω ρ st us X0->k st->K us)(e:SD p args d k st) :
 (args.map (·.ev us.sl)).all V.ok1=true/\f (args.map (·.ev us.sl)) us.hp λ r h=>K (St.put { us with hp:=h } d r):=by
 obtain⟨hok,e⟩:=e
 refine⟨Ww R hok,?_⟩
 split at e
 . obtain⟨hh,e⟩:=e
   refine hs us.hp _ ρ _ _ st.hp _ _ (R.enterP hok hh).nmS (λ l hd p e=>?_) e λ u h' r H' ω' ρ' hQ R' hnob=>?_
   . unfold ωp at e;split at e
     . cases e
     . rename_i i q _;cases e;exact⟨i,rfl⟩
     . cases e
     . cases e
   . obtain⟨hl,hnp,hk'⟩:=hQ;obtain⟨ω'',ρ'',R2⟩:=R.leaveP R' hnob hnp hl;obtain⟨ω3,R3⟩:=R2.put d;exact hk _ _ _ _ R3 hk'
 . rename_i hnp
   have hnp:(args.map (·.pev st.sl)).any PV.hasPtr=false:=by simpa using hnp
   have ent:=R.enter hok hnp (!((args.map (·.pev st.sl)).all λ v=>!v.hold)) (λ h=>by simpa using h)
   refine hs us.hp _ ρ _ _ [] _ _ ent.nmS (λ l hd p e=>?_) e λ u h' r H' ω' ρ' hQ R' hnob=>?_
   . exfalso;unfold ωc at e;split at e
     . cases e
     . split at e<;>cases e
     . cases e
   . obtain⟨hc,hk'⟩:=hQ
     obtain⟨ω'',ρ'',R2⟩:=R.leave R' hnob (λ hd=>by
      have:((args.map (·.pev st.sl)).all λ v=>!v.hold)=false:=by simpa using hd
      rw[this] at hc
      simpa using hc)
     obtain⟨ω3,R3⟩:=R2.put d;exact hk _ _ _ _ R3 hk'
theorem w9{f:Be}{p:Cb}(hs:D4 f p)(R:RS h0 ω0 ω ρ st us X0){args:List Opnd}{d:Option Nat}{k:PS->Prop}{K:St->Prop}(hk:∀ st us ω ρ,RS h0 ω0 ω ρ st us X0->k st->K us)(e:cU p args d k st) :
 (args.map (·.ev us.sl)).all V.ok1=true/\SJ us.bx .all f (args.map (·.ev us.sl)) us.hp λ r h=>K (St.put { us with hp:=h } d r):=by
 obtain⟨hnp,hok,e⟩:=e
 refine⟨Ww R hok,_,?_,λ r h' hq=>hq⟩
 rw[Ae (by simp[hnp])] at e
 have ent:=R.enter hok hnp (!((args.map (·.pev st.sl)).all λ v=>!v.hold)) (λ h=>by simpa using h)
 refine hs us.hp _ ρ _ _ [] _ _ ent.nmS (λ l hd p e=>?_) e λ u h' r H' ω' ρ' hQ R' hnob=>?_
 . exfalso
   unfold ωc at e;split at e
   . cases e
   . split at e<;>cases e
   . cases e
 . obtain⟨hc,hk'⟩:=hQ
   obtain⟨ω'',ρ'',R2⟩:=R.leave R' hnob (λ hd=>by
    have:((args.map (·.pev st.sl)).all λ v=>!v.hold)=false:=by simpa using hd
    rw[this] at hc
    simpa using hc)
   obtain⟨ω3,R3⟩:=R2.put d;refine⟨λ l hl=>(R'.fr.old l hl ?_).1,hk _ _ _ _ R3 hk'⟩;unfold ωc;split
   . exact .inl rfl
   . split<;>simp
   . exact .inr rfl
theorem wY{i c:Nat}{f:Be}{p:Cb}(hs:D4 f p)(R:RS h0 ω0 ω ρ st us X0){args:List Opnd}{d:Option Nat}{k:PS->Prop}{K:St->Prop}(hk:∀ st us ω ρ,RS h0 ω0 ω ρ st us X0->k st->K us)(e:ni i c p args d k st) :
 (args.map (·.ev us.sl)).all V.ok1=true/\SJ us.bx (.box i c) f (args.map (·.ev us.sl)) us.hp λ r h=>K (St.put { us with hp:=h } d r):=by
 obtain⟨⟨hp,es,hes⟩,hok,e⟩:=e
 refine⟨Ww R hok,_,?_,λ r h' hq=>hq⟩
 rw[Ac hp] at e
 obtain⟨hh,e⟩:=e
 refine hs us.hp _ ρ _ _ st.hp _ _ (R.enterP hok hh).nmS (λ l hd p e=>?_) e λ u h' r H' ω' ρ' hQ R' hnob=>?_
 . unfold ωp at e
   split at e
   . cases e
   . rename_i i q _;cases e;exact⟨i,rfl⟩
   . cases e
   . cases e
 . obtain⟨hl,hnp,hk'⟩:=hQ
   obtain⟨ω'',ρ'',R2⟩:=R.leaveP R' hnob hnp hl;obtain⟨ω3,R3⟩:=R2.put d;refine⟨λ l o n hsl hlt=>?_,hk _ _ _ _ R3 hk'⟩;have r:=R.core.rc (.b i) [c];have hes':Aa (Aj st.bx i) c= .sl .own es:=hes;simp only[Ai,A9,hes',hsl] at r
   cases r with
   |sl _ _ _ _ _ _ b h1 hk hc=>exact(R'.fr.old l hlt (.inr (by simp[ωp,hc.1]))).1
inductive Ob where
 |c (f:Be) (p:Cb)
 |m (f:Be) (M:PMk)
def Ob.sound:Ob->Prop
 |.c f p=>D4 f p
 |.m f M=>XB f M
def POp.obs:POp->List Ob
 |.a _ _=>[]
 |.aw _ _ _=>[]
 |.call _ f p _=>[.c f p]
 |.callk _ f p _=>[.c f p]
 |.callv _ f p _ _ _=>[.c f p]
 |.mark f M _ _=>[.m f M]
 |.fz _=>[]
 |.clm _ _ _=>[]
 |.fzb _ _=>[]
def Nl:List POper->List Ob
 |[]=>[]
 |o::r=>o.op.obs++Nl r
def PCode.obs:PCode->List Ob
 |.skip=>[]
 |.region ops=>Nl ops
 |.regionU ops=>Nl ops
 |.seq _ a b=>a.obs++b.obs
 |.cond _ a b=>a.obs++b.obs
 |.block _ a=>a.obs
 |.scope a=>a.obs
 |.loop _ a=>a.obs
 |.exit _=>[]
 |.ret=>[]
def AllP:List Ob->Prop
 |[]=>True
 |o::r=>o.sound/\AllP r
theorem AllP.app:∀ {a b:List Ob},AllP (a++b)->AllP a/\AllP b
 |[],b,h=>⟨trivial,h⟩
 |_::_,b,⟨h1,h2⟩=>⟨⟨h1,(AllP.app h2).1⟩,(AllP.app h2).2⟩
theorem nq{H:Ad}{w:Nat}{v v':PV}(e:Gf w v=some v'){hd:Hd}{p:List Nat}{u:V}(r:RC H ω (.at hd p) v u):RC H ω (.at hd p) v' u:=by
 unfold Gf at e;split at e
 . rename_i es;split at e
   . rename_i hw;cases e
     cases r with
     |nil=>exact .nil _ _
     | sl _ _ _ l o n b h1 hk hc hne hn hw' hle hr=>
       obtain⟨e0,he0⟩:=P0 _ (hne rfl (.inl rfl))
       have hbw:b.w=w:=by rw[<- hw' e0 he0];exact(KN w es).1 hw e0 he0
       exact .sl _ _ _ _ _ _ b h1 hk ⟨hc.1,hc.2.1,hc.2.2,hbw⟩ (λ _ h=>by simp at h) hn hw' hle hr
   . cases e
 . split at e
   . rename_i hw;subst hw;cases e;exact r
   . cases e
 . cases e
theorem nI{w:Nat}{v v':PV}(e:Gf w v=some v'):(∃ q es,v= .sl q es)/\∃ w es,v'= .sl (.ownw w) es:=by
 unfold Gf at e;split at e
 . split at e
   . cases e;exact⟨⟨_,_,rfl⟩,⟨_,_,rfl⟩⟩
   . cases e
 . split at e
   . cases e;exact⟨⟨_,_,rfl⟩,⟨_,_,rfl⟩⟩
   . cases e
 . cases e
theorem nQ{H:Ad}:∀ (ws:List (Nat×Nat)) {l l':List PV},NY ws l=some l'->l'.length=l.length/\(∀ hd c u,RC H ω (.at hd [c]) (Aa l c) u->RC H ω (.at hd [c]) (Aa l' c) u)/\∀ c,(∀ i pb tp,(Aa l c).q≠some (.bor (.x i) pb tp))->∀ i pb tp,(Aa l' c).q≠some (.bor (.x i) pb tp)
 |[],l,l',e=>by cases e;exact⟨rfl,λ _ _ _ h=>h,λ _ h=>h⟩
 | (c0,w)::r,l,l',e=>by
   unfold NY at e
   split at e
   . rename_i v hv
     obtain⟨h1,h2,h3⟩:=nQ r e
     refine⟨by rw[h1,G3],λ hd c u h=>h2 hd c u ?_,λ c h=>h3 c ?_⟩
     . rw[EG];split
       . rename_i hc;rw[hc.1] at h;rw[hc.1];exact nq hv h
       . exact h
     . rw[EG];split
       . obtain⟨_,w,es,e2⟩:=nI hv
         rw[e2];intro i pb tp;simp[PV.q]
       . exact h
   . cases e
theorem RS.wk{v v':PV}{u:V}(R:RS h0 ω0 ω ρ st us (X1 v u)){ws:List (Nat×Nat)}(e:Fl ws v=some v'):∃ ω',RS h0 ω0 ω' ρ st us (X1 v' u):=by
 have hs:AZ v u:=R.shx 0
 have hr:∀ p,RC us.hp ω (.at (.x 0) p) (v.fcell p) (u.fcell p):=λ p=>R.core.rc (.x 0) p
 have hx:∀ p i pb tp,(v.fcell p).q≠some (.bor (.x i) pb tp):=λ p i pb tp=>R.nx (.x 0) p i pb tp
 have key:AZ v' u/\(∀ p,RC us.hp ω (.at (.x 0) p) (v'.fcell p) (u.fcell p))/\∀ p,CD (v'.fcell p):=by
  have one:∀ {w:Nat},Gf w v=some v'->AZ v' u/\(∀ p,RC us.hp ω (.at (.x 0) p) (v'.fcell p) (u.fcell p))/\∀ p,CD (v'.fcell p):=by
   intro w e;obtain⟨⟨q,es,e1⟩,w2,es2,e2⟩:=nI e;have h0:=hr [0];have hs':=hs;subst e1;have hsc:(∀ us,u≠.agg us)/\∀ us,u≠.tup us:=hs';have h0:RC us.hp ω (.at (.x 0) [0]) (.sl q es) (u.fcell [0]):=h0;have h1:=nq e h0;subst e2;refine⟨hsc,λ p=>?_,λ p=>?_⟩
   . match p with
     |[0]=>exact h1
     |[]=>exact .undef _ _
     |(_+1)::_=>exact .undef _ _
     |0::_::_=>exact .undef _ _
   . intro i pb tp
     match p with
     |[0]=>simp[PV.fcell,PV.q]
     |[]=>simp[PV.fcell,PV.q]
     |(_+1)::_=>simp[PV.fcell,PV.q]
     |0::_::_=>simp[PV.fcell,PV.q]
  cases v with
  | agg cs=>
    simp only[Fl,B8] at e;obtain⟨l',e,rfl⟩:=e;obtain⟨us',h1,h2⟩:=hs;subst h1;obtain⟨g1,g2,g3⟩:=nQ (H:=us.hp) (ω:=ω) ws e;refine⟨⟨us',rfl,by rw[h2,g1]⟩,λ p=>?_,λ p=>?_⟩
    . match p with
      |[c]=>exact g2 _ c _ (hr [c])
      |[]=>exact .undef _ _
      |_::_::_=>exact .undef _ _
    . match p with
      |[c]=>exact g3 c (hx [c])
      |[]=>intro i pb tp;simp[PV.fcell,PV.q]
      |_::_::_=>intro i pb tp;simp[PV.fcell,PV.q]
  |tup vs=>simp[Fl] at e
  |fl x=>simp only[Fl] at e;split at e<;>first|exact one e|cases e
  |sl q es=>simp only[Fl] at e;split at e<;>first|exact one e|cases e
  |ep q es j o=>simp only[Fl] at e;split at e<;>first|exact one e|cases e
  |box i o=>simp only[Fl] at e;split at e<;>first|exact one e|cases e
  |ptr i o=>simp only[Fl] at e;split at e<;>first|exact one e|cases e
 refine⟨ω,?_⟩;have:=RS.ren (st':=st) (us':=us) (X':=X1 v' u) R Ren.id_ok (λ hd p i q e=>by simp[Ren.id] at e;exact e.1) (λ hd' p=>?_) rfl R.sh (λ i=>?_) R.lsl R.lbx R.lb R.cb R.ch rfl (λ _=>rfl)
 . rwa [DQ] at this
 . cases hd' with
   | x i=>
     by_cases hi:i=0
     . subst hi;refine .inr ?_;rw[DQ];exact⟨key.2.2 p,key.2.1 p⟩
     . exact .inl (Bm (by simp[Ai,X1,hi]))
   |s t=>exact .inl (Bm rfl)
   |b t=>exact .inl (Bm rfl)
   |h t=>exact .inl (Bm rfl)
 . by_cases hi:i=0
   . subst hi;exact key.1
   . rw[D8 _ _ i hi];exact Bd _
theorem jJ(R:RS h0 ω0 ω ρ st us X0){o:POp}(ho:AllP o.obs){d:Option Nat}{k:PS->Prop}{K:St->Prop}(hk:∀ st us ω ρ,RS h0 ω0 ω ρ st us X0->k st->K us)(e:CU o d k st):Bg o.er d K us:=by
 cases o with
 | a m o=>
   simp only[CU] at e
   cases hs:Bq m o st with
   |none=>rw[hs] at e;exact e.elim
   | some r=>
     obtain⟨v,s1⟩:=r;rw[hs] at e;obtain⟨u,bx,hp,ω',ρ',h1,h2⟩:=VX R hs;obtain⟨ω2,h3⟩:=h2.put d;have:=hk _ _ _ _ h3 e;simp only[POp.er]
     cases o<;>first|(simp only[Bg,h1];exact this)|(simp[Af] at h1)
 | aw ws m o=>
   simp only[CU] at e
   cases hs:Bq m o st with
   |none=>rw[hs] at e;exact e.elim
   | some r=>
     obtain⟨v,s1⟩:=r;rw[hs] at e;simp only at e
     cases hw:Fl ws v with
     |none=>rw[hw] at e;exact e.elim
     | some v'=>
       rw[hw] at e;obtain⟨u,bx,hp,ω',ρ',h1,h2⟩:=VX R hs;obtain⟨ω1,h2⟩:=h2.wk hw;obtain⟨ω2,h3⟩:=h2.put d;have:=hk _ _ _ _ h3 e;simp only[POp.er]
       cases o<;>first|(simp only[Bg,h1];exact this)|(simp[Af] at h1)
 | call m f p args=>
   simp only[CU] at e;simp only[POp.er,Bg]
   have hR:∃ ω',RS h0 ω0 ω' ρ (if m then Ag.fzArgs args st else st) us X0:=by
    cases m with
    |true=>exact RS.fzArgs args R
    |false=>exact⟨ω,R⟩
   obtain⟨ω1,R1⟩:=hR;exact xn ho.1 R1 hk e
 | callk m f p args=>
   simp only[CU] at e;simp only[POp.er,Bg]
   have hR:∃ ω',RS h0 ω0 ω' ρ (if m then Ag.fzArgs args st else st) us X0:=by
    cases m with
    |true=>exact RS.fzArgs args R
    |false=>exact⟨ω,R⟩
   obtain⟨ω1,R1⟩:=hR;exact w9 ho.1 R1 hk e
 | callv m f p args i c=>
   simp only[CU] at e;simp only[POp.er,Bg]
   have hR:∃ ω',RS h0 ω0 ω' ρ (if m then Ag.fzArgs args st else st) us X0:=by
    cases m with
    |true=>exact RS.fzArgs args R
    |false=>exact⟨ω,R⟩
   obtain⟨ω1,R1⟩:=hR;exact wY ho.1 R1 hk e
 | mark f M x y=>
   simp only[CU] at e;simp only[POp.er,Bg];exact xY ho.1 R hk e
 | fz x=>
   simp only[CU] at e;simp only[POp.er,Bg,Af,AOp.clears];obtain⟨ω1,R1⟩:=R.fz0 x;obtain⟨ω2,R2⟩:=R1.nm.put d;exact hk _ _ _ _ R2 e
 | fzb a o=>
   simp only[CU] at e
   cases hz:Tn (a.pev st.sl) st with
   |none=>rw[hz] at e;exact e.elim
   | some st1=>
     rw[hz] at e;simp only at e;obtain⟨ω1,R1⟩:=yh R hz
     cases hs:Bq false o st1 with
     |none=>rw[hs] at e;exact e.elim
     | some r=>
       obtain⟨v,s1⟩:=r;rw[hs] at e;obtain⟨u,bx,hp,ω',ρ',h1,h2⟩:=VX R1 hs;obtain⟨ω2,h3⟩:=h2.put d;have:=hk _ _ _ _ h3 e;simp only[POp.er]
       cases o<;>first|(simp only[Bg,h1];exact this)|(simp[Af] at h1)
 | clm a t o=>
   simp only[CU] at e;obtain⟨ω1,ρ1,st1,R1,e⟩:=yU R e
   cases hs:Bq false o st1 with
   |none=>rw[hs] at e;exact e.elim
   | some r=>
     obtain⟨v,s1⟩:=r;rw[hs] at e;obtain⟨u,bx,hp,ω',ρ',h1,h2⟩:=VX R1 hs;obtain⟨ω2,h3⟩:=h2.put d;have:=hk _ _ _ _ h3 e;simp only[POp.er]
     cases o<;>first|(simp only[Bg,h1];exact this)|(simp[Af] at h1)
theorem We:∀ (ops:List POper) {ω:Nat->W} {ρ:Nat->Nat} {st:PS} {us:St},AllP (Nl ops)->RS h0 ω0 ω ρ st us X0->∀ {k:PS->Prop} {K:St->Prop},(∀ st us ω ρ,RS h0 ω0 ω ρ st us X0->k st->K us)->JT ops k st->Dh (ops.map POper.er) K us
 |[],ω,ρ,st,us,_,R,k,K,hk,e=>hk _ _ _ _ R e
 | o :: r,ω,ρ,st,us,ho,R,k,K,hk,e=>by
   obtain⟨ho1,ho2⟩:=ho.app
   have rest:∀ st us ω ρ,RS h0 ω0 ω ρ st us X0->JT r k st->Dh (r.map POper.er) K us:=λ st us ω ρ R e=>We r ho2 R hk e
   simp only[Cr,Dh,JT] at e ⊢
   unfold HI at e
   unfold CC
   simp only[POper.er]
   cases hg:o.guard with
   |none=>rw[hg] at e;exact jJ R ho1 rest e
   | some g=>
     obtain⟨g,want⟩:=g
     rw[hg] at e
     simp only at e ⊢
     have skip:JT r k (st.put o.dst (.tup []))->Dh (r.map POper.er) K (us.put o.dst (.tup [])):=λ e=>by
      obtain⟨ω2,R2⟩:=R.tup0.put o.dst
      exact rest _ _ _ _ R2 e
     split at e
     . rename_i b hb
       have:=(R.ev_fl (x:=.t g) hb (by simp)).1
       simp only[Opnd.ev] at this
       rw[this]
       simp only
       split at e
       . rename_i hbw;rw[Ac hbw];exact jJ R ho1 rest e
       . rename_i hbw;rw[Ae hbw];exact skip e
     . rename_i hb
       obtain⟨ws,h1,h2,_⟩:=R.ev_tup hb
       have:ws=[]:=FA (by simpa using h2)
       subst this
       rw[h1];exact skip e
     . exact e.elim
theorem iS{n:PS->Prop}{N:St->Prop}{k:GH}{K:Gd}(hn:∀ st us ω ρ,RS h0 ω0 ω ρ st us X0->n st->N us)(hk:∀ e st us ω ρ,RS h0 ω0 ω ρ st us X0->k e st->K e us) :
 ∀ e st us ω ρ,RS h0 ω0 ω ρ st us X0->dR n k e st->NU N K e us:=by
 intro e st us ω ρ R h
 cases e with
 |normal=>exact hn _ _ _ _ R h
 |exit i=>exact hk _ _ _ _ _ R h
 |ret=>exact hk _ _ _ _ _ R h
theorem yw{p:POper}(hp:p.plain=true){K K':PS->Prop}(h:∀ st,K st->K' st){st:PS}(e:HI p K st):HI p K' st:=by
 have key:∀ {st:PS},CU p.op p.dst K st->CU p.op p.dst K' st:=by
  intro st;unfold POper.plain at hp;split at hp
  . rename_i m o ho;rw[ho];simp only[CU];split
    . exact h _
    . exact id
  . rename_i ws m o ho;rw[ho];simp only[CU];split
    . split
      . exact h _
      . exact id
    . exact id
  . cases hp
 unfold HI at *;split at e
 . exact key e
 . split at e
   . split at e
     . rename_i hw;rw[Ac hw];exact key e
     . rename_i hw;rw[Ae hw];exact h _ e
   . exact h _ e
   . exact e.elim
theorem AllP.cat:∀ {a b:List Ob},AllP a->AllP b->AllP (a++b)
 |[],_,_,h=>h
 |_::_,_,h,h'=>⟨h.1,AllP.cat h.2 h'⟩
theorem ZaK{p q:POper}(h:p.canU q=true):p.op.obs=[]/\q.op.obs=[]:=by
 unfold POper.canU at h;split at h
 . rename_i h1 h2 _ _ _ _;rw[h1,h2];exact⟨rfl,rfl⟩
 . cases h
theorem kM:∀ {ops:List POper},SQ ops=true->AllP (Nl ops)->∀ {l2:List AOper},NF (ops.map POper.er)=some l2->∃ ops2,ops2.map POper.er=l2/\AllP (Nl ops2)/\∀ st (k:PS->Prop),JT ops k st->JT ops2 k st
 |[],_,_,_,h=>by cases h
 |[_],_,_,_,h=>by cases h
 | p :: q::r,hp,ho,l2,h=>by
   unfold SQ at hp
   simp only[Cr] at h
   unfold NF at h
   split at hp
   . rename_i hu
     rw[Ac hu] at h
     cases h
     refine⟨q::p::r,rfl,?_,λ st k e=>yp hp e⟩
     obtain⟨h1,h2⟩:=ZaK hp
     simp only[Nl,h1,h2,CW] at ho ⊢
     exact ho
   . rename_i hu
     rw[Ae hu] at h
     rw[Ah] at hp
     simp only[B8] at h
     obtain⟨l',h1,rfl⟩:=h
     have ho':=ho.app
     obtain⟨o2,rfl,m1,m2⟩:=kM (ops:=q::r) hp.2 ho'.2 h1
     exact⟨p::o2,rfl,AllP.cat ho'.1 m1,λ st k e=>yw hp.1 (λ st' e'=>m2 st' k e') e⟩
theorem LN:∀ (c:PCode),AllP c.obs->∀ {k:GH} {K:Gd},(∀ e st us ω ρ,RS h0 ω0 ω ρ st us X0->k e st->K e us)->∀ {st:PS} {us:St} {ω:Nat->W} {ρ:Nat->Nat},RS h0 ω0 ω ρ st us X0->GL c k st->ET c.er K us
 |.skip,_,k,K,hk,st,us,ω,ρ,R,e=>hk _ _ _ _ _ R e
 |.region ops,ho,k,K,hk,st,us,ω,ρ,R,e=>We ops ho R (λ st us ω ρ R e=>hk .normal _ _ _ _ R e) e
 | .regionU ops,ho,k,K,hk,st,us,ω,ρ,R,e=>by
   refine⟨We ops ho R (λ st us ω ρ R e=>hk .normal _ _ _ _ R e) e.2,λ l2 h2=>?_⟩;obtain⟨o2,rfl,m1,m2⟩:=kM e.1 ho h2;exact We o2 m1 R (λ st us ω ρ R e=>hk .normal _ _ _ _ R e) (m2 _ _ e.2)
 | .seq l a b,ho,k,K,hk,st,us,ω,ρ,R,e=>by
   obtain⟨h1,h2⟩:=ho.app;exact LN a h1 (iS (λ st us ω ρ R e=>LN b h2 hk (R.trim l) e) hk) R e
 | .cond c a b,ho,k,K,hk,st,us,ω,ρ,R,e=>by
   obtain⟨h1,h2⟩:=ho.app;simp only[GL] at e;simp only[PCode.er,ET];split at e
   . rename_i t hc;rw[(R.ev_fl hc (by simp)).1];simp only;split at e
     . rename_i ht;rw[Ac ht];exact LN a h1 hk R e
     . rename_i ht;rw[Ae ht];exact LN b h2 hk R e
   . exact e.elim
 | .block i a,ho,k,K,hk,st,us,ω,ρ,R,e=>by
   refine LN a ho (λ e st us ω ρ R h=>?_) R e
   cases e with
   |normal=>exact hk _ _ _ _ _ R h
   |ret=>exact hk _ _ _ _ _ R h
   | exit j=>
     simp only[bI] at h;simp only[PU];split at h
     . rename_i hj;rw[Ac hj];exact hk _ _ _ _ _ R h
     . rename_i hj;rw[Ae hj];exact hk _ _ _ _ _ R h
 | .scope a,ho,k,K,hk,st,us,ω,ρ,R,e=>by
   refine LN a ho (λ e' st' us' ω' ρ' R' h=>?_) R e;obtain⟨ω2,R2⟩:=R'.trunc (n:=st.hp.length) (λ l i hl=>R.bdp l i (R.fr.ptr l i hl));exact hk _ _ _ _ _ R2 h
 | .loop live a,ho,k,K,hk,st,us,ω,ρ,R,e=>by
   obtain⟨n,e⟩:=e;refine⟨n,?_⟩
   have go:∀ (n:Nat) (st:PS) (us:St) (ω:Nat->W) (ρ:Nat->Nat),RS h0 ω0 ω ρ st us X0->SF (GL a) live k n st->Qh (ET a.er) live K n us:=by
    intro n
    induction n with
    |zero=>intro st us ω ρ _ h;exact h.elim
    | succ n ih=>
      intro st us ω ρ R h;obtain⟨ω1,R1⟩:=R.kp live;exact LN a ho (iS (λ st us ω ρ R e=>ih st us ω ρ R e) hk) R1 h
   exact go n st us ω ρ R e
 |.exit i,_,k,K,hk,st,us,ω,ρ,R,e=>hk _ _ _ _ _ R e
 |.ret,_,k,K,hk,st,us,ω,ρ,R,e=>hk _ _ _ _ _ R e
end
end
end Go.Ag
