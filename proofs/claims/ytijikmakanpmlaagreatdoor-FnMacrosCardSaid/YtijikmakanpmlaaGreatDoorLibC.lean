/- Part 3 of what FnMacros needs. No conditions. -/
import Derived.Test.YtijikmakanpmlaaGreatDoorLibB
namespace Go.Ag
set_option linter.unusedSimpArgs false
set_option linter.unusedVariables false
noncomputable section
section
variable {h0:Ac} {ω0 ω:Nat→W} {ρ ρ':Nat→Nat} {st st' st1:PS} {us us':St} {X X':Cs}
def BS(f:Ren)(n:Nat)(w0:W)(T:Nat→Bool)(ω:Nat→W):Nat→W:=fun l=>if l=n then w0 else if T l then .none else ren f (ω l)
def ZC(f:Ren)(ω:Nat→W)(T:Nat→Bool)(A:HW)(vu:PV×V)(hd':Hd)(p':List Nat):Prop:=
 ∃ hd p,vu=A hd p∧(vu.1.qo=true→(∀ l r,ω l= .own hd (p++r)→T l=false)∧∀ r,f hd (p++r)= .own hd' (p'++r)) ∧
   ∀ hb pb tp,vu.1.q=some (.bor hb pb tp)→(∀ i,hb≠.x i)→(∀ l q,ω l= .own hb q→T l=false)∧(tp=true→f.still hb)∧f.soft hb
theorem YW {h:Ac} {ω:Nat→W} {f:Ren} {w0:W} {T:Nat→Bool} {h1:Ac} {blk:Blk} (hl:h1.length=h.length) (he:∀ l,T l=false→h1[l]?=h[l]?)
 (hT:∀ l,T l=true→∃ hd p,ω l= .own hd p) (hlt:∀ l,ω l≠.none→l<h.length):Tr h ω (h1++[blk]) (BS f h.length w0 T ω) f (fun l=>T l=true):=by
 have old:∀ l,ω l≠.none→T l=false→(h1++[blk])[l]?=h[l]?∧BS f h.length w0 T ω l=ren f (ω l):=by
  intro l hne ht;have:=hlt l hne;refine⟨by rw[Bm (by omega),he l ht],?_⟩;unfold BS;rw[Ad (by omega),Ad (by simp[ht])]
 have nT:∀ l,(∀ hd p,ω l≠.own hd p)→T l=false:=by
  intro l hn
  cases ht:T l with
  |false=>rfl
  |true=>obtain⟨hd,p,e⟩:=hT l ht;exact absurd e (hn hd p)
 refine⟨fun l e=>?_,fun l hd p e ht=>?_,fun l i e=>?_⟩
 · obtain⟨a,b⟩:=old l (by simp[e]) (nT l (by simp[e]))
   exact⟨by rw[b,e];rfl,a⟩
 · obtain⟨a,b⟩:=old l (by simp[e]) (by simpa using ht)
   exact⟨by rw[b,e];rfl,a⟩
 · obtain⟨a,b⟩:=old l (by simp[e]) (nT l (by simp[e]))
   rw[b,e];rfl
theorem Core.notNone{h:Ac}{ω:Nat→W}{A:HW}(c:Core h ω A)(l:Nat)(e:ω l≠.none):l<h.length:=by
 cases e1:ω l with
 |none=>exact absurd e1 e
 |frz=>exact c.lt l e1
 |own a q=>obtain⟨b,hb,_⟩:=c.kind l (.inl ⟨a,q,e1⟩);exact BV hb
 |ptr i=>obtain⟨b,hb,_⟩:=c.kind l (.inr ⟨i,e1⟩);exact BV hb
theorem RS.push (R:RS h0 ω0 ω ρ st us X) {f:Ren} (hf:f.Ok) {w0:W} {T:Nat→Bool} {h1:Ac} {blk:Blk} (hbk:blk.k= .own) (hl:h1.length=us.hp.length) (he:∀ l,T l=false→h1[l]?=us.hp[l]?) (hhp:us'.hp=h1++[blk])
 (hT:∀ l,T l=true→∃ hd p,ω l= .own hd p) (hw0:(∃ hd p,w0= .own hd p)∨∃ i,w0= .ptr i) (hfresh:∀ l,T l=false→Ag.ren f (ω l)≠w0)
 (hA:∀ hd p,ZC f ω T (Ah ρ st us X) (Ah ρ' st' us' X' hd p) hd p∨Ci (Ah ρ' st' us' X' hd p).1∧RC us'.hp (BS f us.hp.length w0 T ω) (.at hd p) (Ah ρ' st' us' X' hd p).1 (Ah ρ' st' us' X' hd p).2)
 (hs:∀ t,AZ (Aa st'.sl t) (get us'.sl t)) (hx:∀ i,AZ (X' i).1 (X' i).2) (l1:st'.sl.length=us'.sl.length) (l2:st'.bx.length=us'.bx.length)
 (l3:∀ i,(Ak st'.bx i).length=(A6 us'.bx i).length) (c1:∀ i c,(Aa (Ak st'.bx i) c).lay=true) (c2:∀ i c,(Aa (Ak st'.hp i) c).lay=true)
 (l4:∀ i,i<st'.hp.length→BS f us.hp.length w0 T ω (ρ' i)= .ptr i∧(AV us'.hp (ρ' i)).length=(Ak st'.hp i).length)
 (l5:∀ l i,BS f us.hp.length w0 T ω l= .ptr i→i<st'.hp.length) (l6:∀ l i p,BS f us.hp.length w0 T ω l= .own (.h i) p→i<st'.hp.length) :
 RS h0 ω0 (BS f us.hp.length w0 T ω) ρ' st' us' X':=by
 have t:=YW (h:=us.hp) (ω:=ω) (f:=f) (w0:=w0) (T:=T) (blk:=blk) hl he hT R.core.notNone
 have val:∀ l,(l=us.hp.length∧BS f us.hp.length w0 T ω l=w0)∨(l≠us.hp.length∧T l=true∧BS f us.hp.length w0 T ω l= .none)∨(l≠us.hp.length∧T l=false∧BS f us.hp.length w0 T ω l=Ag.ren f (ω l)):=by
  intro l;unfold BS;by_cases h:l=us.hp.length
  · exact .inl ⟨h,by rw[Ab h]⟩
  · rw[Ad h]
    cases ht:T l with
    |true=>exact .inr (.inl ⟨h,rfl,rfl⟩)
    |false=>exact .inr (.inr ⟨h,rfl,rfl⟩)
 have uni:∀ l l',(∀ hd p,BS f us.hp.length w0 T ω l= .own hd p→BS f us.hp.length w0 T ω l'= .own hd p→l=l')∧∀ i,BS f us.hp.length w0 T ω l= .ptr i→BS f us.hp.length w0 T ω l'= .ptr i→l=l':=by
  intro l l';rcases val l with⟨a,b⟩|⟨a,b,c⟩|⟨a,b,c⟩
  · rcases val l' with⟨a',b'⟩|⟨a',b',c'⟩|⟨a',b',c'⟩
    · exact⟨fun _ _ _ _=>(by rw[a,a']),fun _ _ _=>(by rw[a,a'])⟩
    · exact⟨fun _ _ _ e=>(by rw[c'] at e;cases e),fun _ _ e=>(by rw[c'] at e;cases e)⟩
    · refine⟨fun hd p e e'=>?_,fun i e e'=>?_⟩
      · rw[b] at e;rw[c'] at e';exact absurd (e'.trans e.symm) (hfresh l' b')
      · rw[b] at e;rw[c'] at e';exact absurd (e'.trans e.symm) (hfresh l' b')
  · exact⟨fun _ _ e=>(by rw[c] at e;cases e),fun _ e=>(by rw[c] at e;cases e)⟩
  · rcases val l' with⟨a',b'⟩|⟨a',b',c'⟩|⟨a',b',c'⟩
    · refine⟨fun hd p e e'=>?_,fun i e e'=>?_⟩
      · rw[c] at e;rw[b'] at e';exact absurd (e.trans e'.symm) (hfresh l b)
      · rw[c] at e;rw[b'] at e';exact absurd (e.trans e'.symm) (hfresh l b)
    · exact⟨fun _ _ _ e=>(by rw[c'] at e;cases e),fun _ _ e=>(by rw[c'] at e;cases e)⟩
    · refine⟨fun hd p e e'=>?_,fun i e e'=>?_⟩
      · rw[c] at e;rw[c'] at e';obtain⟨x,q,e1,e2⟩:=Df e;obtain⟨x',q',e1',e2'⟩:=Df e';obtain⟨rfl,rfl⟩:=hf.inj x q x' q' hd p e2 e2';exact R.core.inj l l' x q e1 e1'
      · rw[c] at e;rw[c'] at e';exact R.core.injp l l' i (DF hf e) (DF hf e')
 have hlen:us'.hp.length=us.hp.length+1:=by rw[hhp];simp[hl]
 have oldb:∀ l,ω l≠.none→T l=false→us'.hp[l]?=us.hp[l]?:=by
  intro l hne ht;have:=R.core.notNone l hne;rw[hhp,Bm (by omega),he l ht]
 refine⟨⟨fun hd p=>?_,fun l l' hd p=>(uni l l').1 hd p,fun l l' i=>(uni l l').2 i,fun l e=>?_,fun l e=>?_⟩,hs,hx,l1,l2,l3,c1,c2,l4,l5,l6,⟨?_,fun l hl' e=>?_,fun l hl' e=>?_,fun l i e=>?_⟩,fun hd p i pb tp=>?_⟩
 · rcases hA hd p with⟨a,b,e,ho,hb⟩|h
   · have hnx:=R.nx a b;rw[e] at ho hb ⊢;rw[hhp]
     exact(R.core.rc a b).tr t (fun e'=>⟨fun l r h=>by simp[(ho e').1 l r h],(ho e').2⟩) (fun hb' pb tp e'=>by
      obtain⟨x,y,z⟩:=hb hb' pb tp e' (fun i h=>by subst h;exact hnx i pb tp e')
      exact⟨fun l q h=>by simp[x l q h],y,z⟩)
   · exact h.2
 · rcases val l with⟨a,b⟩|⟨a,b,c⟩|⟨a,b,c⟩
   · exact⟨blk,by rw[hhp,a,← hl];simp,hbk⟩
   · rw[c] at e;rcases e with⟨_,_,e⟩|⟨_,e⟩<;>cases e
   · rw[c] at e
     have:(∃ hd p,ω l= .own hd p)∨∃ i,ω l= .ptr i:=by
      rcases e with⟨hd,p,e⟩|⟨i,e⟩
      · obtain⟨x,q,e1,_⟩:=Df e;exact .inl ⟨x,q,e1⟩
      · exact .inr ⟨i,DF hf e⟩
     obtain⟨b',h1',h2'⟩:=R.core.kind l this;exact⟨b',by rw[oldb l (by rcases this with⟨_,_,h⟩|⟨_,h⟩<;>simp[h]) b];exact h1',h2'⟩
 · rw[hlen]
   rcases val l with⟨a,b⟩|⟨a,b,c⟩|⟨a,b,c⟩
   · omega
   · rw[c] at e;cases e
   · have:ω l≠.none:=by intro h;rw[c,h] at e;cases e
     have:=R.core.notNone l this;omega
 · rw[hlen];have:=R.fr.len;omega
 · obtain⟨a,b⟩:=R.fr.old l hl' e
   have hlt:l<us.hp.length:=by have:=R.fr.len;omega
   have hnT:T l=false:=by
    cases ht:T l with
    |false=>rfl
    | true=>
      obtain⟨hd,p,e'⟩:=hT l ht;rw[e'] at b;rcases e with e|e<;>rw[e] at b<;>cases b
   refine⟨by rw[hhp,Bm (by omega),he l hnT,a],?_⟩;unfold BS;rw[Ad (by omega),Ad (by simp[hnT]),b];rcases e with e|e<;>rw[e]<;>rfl
 · have hlt:l<us.hp.length:=by have:=R.fr.len;omega
   unfold BS at e;rw[Ad (by omega)] at e;split at e
   · cases e
   · exact(R.fr.ren f).new l hl' e
 · have e1:=R.fr.ptr l i e
   have hlt:=R.core.notNone l (by rw[e1];simp)
   have hnT:T l=false:=by
    cases ht:T l with
    |false=>rfl
    |true=>obtain⟨hd,p,e'⟩:=hT l ht;rw[e1] at e';cases e'
   unfold BS;rw[Ad (by omega),Ad (by simp[hnT]),e1];rfl
 · rcases hA hd p with⟨a,b,e,_⟩|h
   · rw[e];exact R.nx a b i pb tp
   · exact h.1 i pb tp
def HY:Nat→Bool:=fun _=>false
theorem Jx {f:Ren} {A:HW} {vu:PV×V} {hd:Hd} {p:List Nat} {T:Nat→Bool} (e:vu=A hd p) (hT:∀ l q,ω l= .own hd q→T l=false) (h:vu.1.qo=true→f.still hd)
 (hb:∀ hb pb tp,vu.1.q=some (.bor hb pb tp)→(∀ i,hb≠.x i)→(∀ l q,ω l= .own hb q→T l=false)∧f.still hb):ZC f ω T A vu hd p:=
 ⟨hd,p,e,fun e=>⟨fun l r=>hT l _,fun _=>h e _⟩,fun hb' pb tp e h'=>⟨(hb hb' pb tp e h').1,fun _=>(hb hb' pb tp e h').2,(hb hb' pb tp e h').2.soft⟩⟩
theorem RS.newptr{v:PV}{u:V}(R:RS h0 ω0 ω ρ st us (X1 v u))(hc:Bj v.cells=true) :
 ∃ ω' ρ',RS h0 ω0 ω' ρ' { st with sl:=clr (.h st.hp.length) st.sl,hp:=st.hp++[v.cells] } { us with hp:=us.hp++[⟨.own,1,u.cells⟩] } (X1 (.ptr st.hp.length 0) (.ptr us.hp.length 0)):=by
 obtain⟨k1,k2,k3,k4⟩:=R.hand_cells (i:=0) (v:=v) (u:=u) rfl hc
 have hB:∀ k,Ak (st.hp++[v.cells]) k=if k=st.hp.length then v.cells else Ak st.hp k:=by
  intro k;rw[Ds,Ds];by_cases h:k=st.hp.length
  · subst h;simp
  · rw[Ad h];rcases Bn k st.hp.length with h1|h1
    · rw[Bm h1]
    · rw[Bv (by simp;omega),Bv h1]
 have hρ:∀ k,k<st.hp.length→ρ k<us.hp.length:=fun k hk=>by obtain⟨b,h,_⟩:=R.blk hk;exact BV h
 have hV:∀ k,k<st.hp.length→AV (us.hp++[(⟨.own,1,u.cells⟩:Blk)]) (ρ k)=AV us.hp (ρ k):=fun k hk=>by simp only[AV];rw[Bm (hρ k hk)]
 have hN:AV (us.hp++[(⟨.own,1,u.cells⟩:Blk)]) us.hp.length=u.cells:=by simp[AV]
 have hfresh:∀ l,HY l=false→Ag.ren (Ren.mv (.x 0) (.h st.hp.length)) (ω l)≠.ptr st.hp.length:=fun l _ e=>by
  have:=R.bdp l _ (DF (Ren.mv_ok _ _) e);omega
 have pw:∀ l,l≠us.hp.length→BS (Ren.mv (.x 0) (.h st.hp.length)) us.hp.length (.ptr st.hp.length) HY ω l=Ag.ren (Ren.mv (.x 0) (.h st.hp.length)) (ω l):=fun l h=>by simp[BS,h,HY]
 refine⟨_,upd ρ st.hp.length us.hp.length,RS.push (X':=X1 (.ptr st.hp.length 0) (.ptr us.hp.length 0)) R (Ren.mv_ok (.x 0) (.h st.hp.length)) (w0:=.ptr st.hp.length) (T:=HY) (h1:=us.hp) (blk:=⟨.own,1,u.cells⟩) rfl rfl (fun _ _=>rfl) rfl (fun l h=>by cases h) (.inr ⟨_,rfl⟩) hfresh (fun hd' p=>?_) (fun t=>?_) (fun j=>?_) (by simp[FV,R.lsl]) R.lbx R.lb R.cb (fun k c=>?_) (fun i hi=>?_) (fun l i e=>?_) (fun l i p e=>?_)⟩
 · cases hd' with
   | x j =>
     refine .inr ?_;by_cases hj:j=0
     · subst hj
       have hq:∀ p,((PV.ptr st.hp.length 0).fcell p= .ptr st.hp.length 0∧(V.ptr us.hp.length 0).fcell p= .ptr us.hp.length 0)∨(PV.ptr st.hp.length 0).fcell p= .fl .undef:=by
        intro p
        match p with
        |[0]=>exact .inl ⟨rfl,rfl⟩
        |[]=>exact .inr rfl
        |(_+1)::_=>exact .inr rfl
        |0::_::_=>exact .inr rfl
       show Ci ((PV.ptr st.hp.length 0).fcell p)∧RC _ _ _ ((PV.ptr st.hp.length 0).fcell p) ((V.ptr us.hp.length 0).fcell p);rcases hq p with⟨e1,e2⟩|e
       · rw[e1,e2];exact⟨fun i pb tp=>by simp[PV.q],.ptr _ _ _ _ _ (by simp[BS])⟩
       · rw[e];exact⟨fun i pb tp=>by simp[PV.q],.undef _ _⟩
     · exact AJ (F2 j hj p)
   | s t=>
     simp only[Ah,FW];split
     · exact .inr (Dp (AX p))
     · rename_i hbor
       have hbor:(Aa st.sl t).bor (.h st.hp.length)=false:=by simpa using hbor
       exact .inl (Jx rfl (fun _ _ _=>rfl) (fun _=>Ren.mv_still (by simp) (by simp)) fun hb pb tp e hx=>⟨fun _ _ _=>rfl,Ren.mv_still (hx 0) (DJ (v:=Aa st.sl t) hbor (p:=p) e)⟩)
   |b i=>exact .inl (Jx rfl (fun _ _ _=>rfl) (fun _=>Ren.mv_still (by simp) (by simp)) fun hb pb tp e'=>absurd e' (R.nobor_b i p hb pb tp))
   | h i =>
     by_cases hi:i=st.hp.length
     · subst hi
       have:Ah (upd ρ st.hp.length us.hp.length) { st with sl:=clr (.h st.hp.length) st.sl,hp:=st.hp++[v.cells] } { us with hp:=us.hp++[⟨.own,1,u.cells⟩] } (X1 (.ptr st.hp.length 0) (.ptr us.hp.length 0)) (.h st.hp.length) p=Bd v.cells u.cells p:=by
        simp only[Ah,hB,Ab,Cb,hN]
       rw[this]
       match p with
       |[]=>exact .inr (AJ rfl)
       |_::_::_=>exact .inr (AJ rfl)
       |[c]=>exact .inl ⟨.x 0,[c],(k4 c).symm,fun _=>⟨fun _ _ _=>rfl,fun r=>by simp[Ren.mv]⟩,fun hb pb tp e'=>absurd e' (Cr (Fp hc c).1 _ _ _)⟩
     · rcases Bn i st.hp.length with hlt|hge
       · have:Ah (upd ρ st.hp.length us.hp.length) { st with sl:=clr (.h st.hp.length) st.sl,hp:=st.hp++[v.cells] } { us with hp:=us.hp++[⟨.own,1,u.cells⟩] } (X1 (.ptr st.hp.length 0) (.ptr us.hp.length 0)) (.h i) p=Ah ρ st us (X1 v u) (.h i) p:=by
          simp only[Ah,hB,Ad hi,C3 _ _ _ _ hi,hV i hlt]
         rw[this];exact .inl (Jx rfl (fun _ _ _=>rfl) (fun _=>Ren.mv_still (by simp) (by simpa using hi)) fun hb pb tp e'=>absurd e' (R.nobor_h i p hb pb tp))
       · refine .inr (AJ ?_)
         have hz:Ak st.hp i=[]:=by rw[Ds,Bv hge];rfl
         simp only[Ah,hB,Ad hi,hz];unfold Bd;split<;>rfl
 · simp only[FW];split
   · exact Bb _
   · exact R.sh t
 · by_cases hj:j=0
   · subst hj;exact⟨fun _ h=>(by cases h),fun _ h=>(by cases h)⟩
   · rw[DQ _ _ j hj];exact Bb _
 · simp only[hB];split
   · exact(Fp hc c).1
   · exact R.ch k c
 · simp only[BM,AB,AD] at hi
   simp only[hB];by_cases h:i=st.hp.length
   · subst h;rw[Cb,Ab rfl,hN];exact⟨by simp[BS],k1⟩
   · have hlt:i<st.hp.length:=by omega
     rw[C3 _ _ _ _ h,Ad h,hV i hlt,pw _ (by have:=hρ i hlt;omega),(R.hp i hlt).1];exact⟨rfl,(R.hp i hlt).2⟩
 · simp only[BM,AB,AD]
   by_cases h:l=us.hp.length
   · subst h;simp[BS] at e;omega
   · rw[pw l h] at e;have:=R.bdp l i (DF (Ren.mv_ok _ _) e);omega
 · simp only[BM,AB,AD]
   by_cases h:l=us.hp.length
   · subst h;simp[BS] at e
   · rw[pw l h] at e;obtain⟨a,q,e1,e2⟩:=Df e;unfold Ren.mv at e2;split at e2
     · simp at e2;omega
     · split at e2
       · cases e2
       · simp at e2;have:=R.bdh l i q (by rw[e1,e2.1]);omega
end
theorem vl{cs:List PV}(h:Bj cs=true)(hd:Hd):PV.borL hd cs=false:=by
 cases e:PV.borL hd cs with
 |false=>rfl
 | true=>
   obtain⟨c,hc⟩:=(Uy hd cs).1 e;have:=(Fp h c).1;generalize Aa cs c=v at hc this
   cases v with
   |sl q es=>cases q<;>first|(simp[PV.bor] at hc;done)|(simp[PV.lay] at this;done)
   |fl=>simp[PV.bor] at hc
   |_=>simp[PV.lay] at this
theorem uT{cs:List PV}:Bj cs=true↔∀ c,c<cs.length→(Aa cs c).cell=true:=by
 induction cs with
 |nil=>simp[Bj]
 | cons x r ih=>
   simp only[Bj,Af,ih];constructor
   · rintro⟨h1,h2⟩ c hc
     cases c with
     |zero=>exact h1
     |succ c=>exact h2 c (by simpa using hc)
   · exact fun h=>⟨h 0 (by simp),fun c hc=>h (c+1) (by simpa using hc)⟩
theorem rr{cs vs:List PV}{o:Nat}(h1:Bj cs=true)(h2:Bj vs=true)(hle:o+vs.length≤cs.length):Bj (Au cs o vs)=true:=by
 rw[uT] at h1 h2 ⊢;intro c hc;rw[FN] at hc;rw[Hm _ _ _ _ hle];split
 · exact h2 _ (by omega)
 · exact h1 _ hc
def Ren.deep:Ren:=fun hd p=>if hd= .x 0 then (match p with|[]=>.frz|c::r=>.own (.x 0) (0::c::r)) else .own hd p
theorem Ren.deep_ok:Ren.deep.Ok:=by
 refine⟨fun hd p hd' p' x c e e'=>?_,fun hd p=>?_⟩
 · unfold Ren.deep at e e';split at e
   · rename_i h1;split at e
     · cases e
     · cases e;split at e'
       · rename_i h2;split at e'
         · cases e'
         · simp at e';exact⟨h1.trans h2.symm,by rw[e'.1,e'.2]⟩
       · rename_i h2;simp at e';exact absurd e'.1 h2
   · rename_i h1;cases e;split at e'
     · split at e'
       · cases e'
       · simp at e';exact absurd e'.1.symm h1
     · simp at e';exact⟨e'.1.symm,e'.2.symm⟩
 · unfold Ren.deep;split
   · split
     · exact .inl rfl
     · exact .inr ⟨_,_,rfl⟩
   · exact .inr ⟨_,_,rfl⟩
theorem Ren.deep_still{c:Hd}(h:c≠.x 0):Ren.deep.still c:=fun p=>by simp[Ren.deep,h]
section
variable {h0:Ac} {ω0 ω:Nat→W} {ρ ρ':Nat→Nat} {st st' st1:PS} {us us':St} {X X':Cs}
theorem we(R:RS h0 ω0 ω ρ st us X0){zs:List V}(hz:zs.all V.flat=true):Out2 (.allocH zs) us h0 ω0 (.ptr st.hp.length 0) { st with sl:=clr (.h st.hp.length) st.sl,hp:=st.hp++[zs.map Bo] }:=by
 obtain⟨ω',ρ',h⟩:=(R.handz hz).newptr (LX hz);exact⟨_,_,_,ω',ρ',by simp only[Ae];rw[Ab (NN hz)];rfl,h⟩
theorem yr (R:RS h0 ω0 ω ρ st us X0) {n:Nat} {x:Opnd} {v:PV}
 (e:(match Ag.mvOut x st with|(v,st)=>if v.cells.length=n∧Bj v.cells=true then some (PV.ptr st.hp.length 0,{ st with sl:=clr (.h st.hp.length) st.sl,hp:=st.hp++[v.cells] }) else none)=some (v,st1)):Out2 (.boxH n x) us h0 ω0 v st1:=by
 obtain⟨ω1,R1⟩:=R.mv0 x
 generalize Ag.mvOut x st=mo at e R1
 obtain⟨w,s⟩:=mo
 simp only at e R1
 split at e
 · rename_i hc
   obtain⟨c2,c3⟩:=hc;cases e;obtain⟨k1,k2,_,_⟩:=R1.hand_cells (i:=0) (v:=w) (u:=x.ev us.sl) rfl c3;obtain⟨ω',ρ',h⟩:=R1.newptr c3;exact⟨_,_,_,ω',ρ',by simp only[Ae];rw[Ab ⟨by rw[k1,c2],k2⟩],h⟩
 · cases e
theorem RS.part{cs:List PV}{ws:List V}(R:RS h0 ω0 ω ρ st us (X1 (.agg cs) (.agg ws)))(hc:Bj cs=true)(x:Opnd){off size:Nat}(h1:(Ag.mvOut x st).1.cells.length=size)(h2:off+size≤cs.length)(h3:Bj (Ag.mvOut x st).1.cells=true) :
 (x.ev us.sl).cells.length=size∧off+size≤ws.length∧(x.ev us.sl).cells.all V.cell=true ∧
  ∃ ω',RS h0 ω0 ω' ρ (Ag.mvOut x st).2 us (X1 (.agg (Au cs off (Ag.mvOut x st).1.cells)) (.agg (splice ws off (x.ev us.sl).cells))):=by
 obtain⟨ω1,R1⟩:=R.mvOut x 1 (fun p=>by rw[DQ _ _ 1 (by simp)];exact AX p) (fun n j=>by
  by_cases hj:j=0
  · subst hj;exact vl hc _
  · rw[DQ _ _ j hj];rfl)
 generalize Ag.mvOut x st=mo at R1 h1 h3 ⊢
 obtain⟨w,s⟩:=mo
 simp only at R1 h1 h3 ⊢
 obtain⟨k1,k2,k3,k4⟩:=R1.hand_cells (i:=1) (v:=w) (u:=x.ev us.sl) (by simp[Xs]) h3
 have hl:ws.length=cs.length:=by
  have:=R1.shx 0;simp only[Xs] at this;obtain⟨ws',e,hl⟩:=this;cases e;exact hl
 subst h1
 have hx0:∀ c,Ah ρ s us (Xs (X1 (.agg cs) (.agg ws)) 1 w (x.ev us.sl)) (.x 0) [c]=(Aa cs c,get ws c):=fun c=>rfl
 refine⟨k1,by omega,k2,_,RS.ren (X':=X1 (.agg (Au cs off w.cells)) (.agg (splice ws off (x.ev us.sl).cells))) R1 (Ren.seg_ok (a:=.x 1) (o:=0) (n:=w.cells.length) (b:=.x 0) (o':=off) (by simp)) (ZL (by simp)) (fun hd' p=>?_) rfl R1.sh (fun j=>?_) R1.lsl R1.lbx R1.lb R1.cb R1.ch rfl (fun _=>rfl)⟩
 · cases hd' with
   | x j =>
     by_cases hj:j=0
     · subst hj
       match p with
       |[]=>exact .inr (AJ rfl)
       |_::_::_=>exact .inr (AJ rfl)
       | [c]=>
         have:Ah ρ s us (X1 (.agg (Au cs off w.cells)) (.agg (splice ws off (x.ev us.sl).cells))) (.x 0) [c]=(Aa (Au cs off w.cells) c,get (splice ws off (x.ev us.sl).cells) c):=rfl;rw[this,Hm _ _ _ _ h2,PU _ _ _ _ (by omega),k1];split
         · rename_i hcc;refine .inl ⟨.x 1,[c-off],(k4 _).symm,fun _ r=>?_,fun hb pb tp e'=>absurd e' (Cr (Fp h3 _).1 _ _ _)⟩;simp only[CK,Cq];rw[Ren.seg_mv (by omega) (by omega),show c-off-0+off=c by omega]
         · rename_i hcc;refine .inl ⟨.x 0,[c],(hx0 c).symm,fun _ r=>?_,fun hb pb tp e'=>absurd e' (Cr (Fp hc _).1 _ _ _)⟩;exact Ren.seg_rest_b (by simp) (by omega) r
     · exact .inr (AJ (F2 j hj p))
   |s t=>exact .inl (Bg rfl (fun _=>Ren.seg_still (by simp) (by simp)) fun hb pb tp e hx=>Ren.seg_still (hx 1) (hx 0))
   |b i=>exact .inl (Bg rfl (fun _=>Ren.seg_still (by simp) (by simp)) fun hb pb tp e'=>absurd e' (R1.nobor_b i p hb pb tp))
   |h i=>exact .inl (Bg rfl (fun _=>Ren.seg_still (by simp) (by simp)) fun hb pb tp e'=>absurd e' (R1.nobor_h i p hb pb tp))
 · by_cases hj:j=0
   · subst hj;exact⟨_,rfl,by rw[Fo,FN];exact hl⟩
   · rw[DQ _ _ j hj];exact Bb _
theorem Xm:∀ (ps:List (Nat×Nat×Opnd)) {ω:Nat→W} {st st1:PS} {cs cs1:List PV} {ws:List V},RS h0 ω0 ω ρ st us (X1 (.agg cs) (.agg ws))→Bj cs=true→D7 cs ps st=some (cs1,st1) →
 ∃ ws1 ω',Eh us.sl ws ps=some ws1∧Bj cs1=true∧RS h0 ω0 ω' ρ st1 us (X1 (.agg cs1) (.agg ws1))
 | [],ω,st,st1,cs,cs1,ws,R,hc,e=>by
   simp only[D7,Ai,Aj] at e
   obtain⟨rfl,rfl⟩:=e
   exact⟨ws,ω,rfl,hc,R⟩
 | (off,size,x)::r,ω,st,st1,cs,cs1,ws,R,hc,e=>by
   simp only[D7] at e
   split at e
   · rename_i h
     obtain⟨h1,h2,h3⟩:=h
     obtain⟨a1,a2,a3,ω',R'⟩:=R.part hc x h1 h2 h3
     obtain⟨ws1,ω'',b1,b2,b3⟩:=Xm r R' (rr hc h3 (by omega)) e
     exact⟨ws1,ω'',by simp only[Eh];rw[Ab ⟨a1,a2,a3⟩];exact b1,b2,b3⟩
   · cases e
theorem yl (R:RS h0 ω0 ω ρ st us X0) {zs:List V} {ps:List (Nat×Nat×Opnd)} {v:PV}
 (e:(if zs.all V.flat=true then (D7 (zs.map Bo) ps st).map fun(cs,st)=>(PV.agg cs,st) else none)=some (v,st1)):Out2 (.build zs ps) us h0 ω0 v st1:=by
 split at e
 · rename_i hz
   simp only[BH] at e;obtain⟨⟨cs,s⟩,e1,e2⟩:=e;cases e2;obtain⟨ws1,ω',h1,h2,h3⟩:=Xm ps (R.handz hz) (LX hz) e1;exact⟨_,_,_,ω',ρ,by simp only[Ae];rw[Ab (NN hz),h1];rfl,h3⟩
 · cases e
theorem RS.newslice{cs:List PV}{ws:List V}(R:RS h0 ω0 ω ρ st us (X1 (.agg cs) (.agg ws)))(hc:Bj cs=true){es:List (List PV)}{w:Nat}(hes:es≠[])(hw:∀ e∈es,e.length=w)(hfl:∀ k,k<es.length*w→Aa es.flatten k=Aa cs k)(hl:es.length*w≤ws.length) :
 ∃ ω',RS h0 ω0 ω' ρ st { us with hp:=us.hp++[⟨.own,w,ws⟩] } (X1 (.sl .own es) (.slice us.hp.length 0 es.length)):=by
 have hρ:∀ k,k<st.hp.length→ρ k<us.hp.length:=fun k hk=>by obtain⟨b,h,_⟩:=R.blk hk;exact BV h
 have hV:∀ k,k<st.hp.length→AV (us.hp++[(⟨.own,w,ws⟩:Blk)]) (ρ k)=AV us.hp (ρ k):=fun k hk=>by simp only[AV];rw[Bm (hρ k hk)]
 have hfresh:∀ l,HY l=false→Ag.ren Ren.deep (ω l)≠.own (.x 0) [0]:=fun l _ e=>by
  obtain⟨a,q,_,e2⟩:=Df e;unfold Ren.deep at e2;split at e2
  · split at e2
    · cases e2
    · simp at e2
  · rename_i h;simp at e2;exact h e2.1
 have pw:∀ l,l≠us.hp.length→BS Ren.deep us.hp.length (.own (.x 0) [0]) HY ω l=Ag.ren Ren.deep (ω l):=fun l h=>by simp[BS,h,HY]
 have t:=YW (h:=us.hp) (ω:=ω) (f:=Ren.deep) (w0:=.own (.x 0) [0]) (T:=HY) (blk:=⟨.own,w,ws⟩) (h1:=us.hp) rfl (fun _ _=>rfl) (fun l h=>by cases h) R.core.notNone
 refine⟨_,RS.push (X':=X1 (.sl .own es) (.slice us.hp.length 0 es.length)) R Ren.deep_ok (w0:=.own (.x 0) [0]) (T:=HY) (h1:=us.hp) (blk:=⟨.own,w,ws⟩) rfl rfl (fun _ _=>rfl) rfl (fun l h=>by cases h) (.inl ⟨_,_,rfl⟩) hfresh (fun hd' p=>?_) R.sh (fun j=>?_) R.lsl R.lbx R.lb R.cb R.ch (fun i hi=>?_) (fun l i e=>?_) (fun l i p e=>?_)⟩
 · cases hd' with
   | x j =>
     refine .inr ?_;by_cases hj:j=0
     · subst hj
       match p with
       |[]=>exact AJ rfl
       |(_+1)::_=>exact AJ rfl
       |0::_::_=>exact AJ rfl
       | [0] =>
         refine⟨fun i pb tp=>by simp[Ah,X1,PV.fcell,PV.q],?_⟩
         refine RC.sl _ .own es us.hp.length 0 es.length ⟨.own,w,ws⟩ (by simp) (by simp) ⟨by simp[BS],rfl,rfl⟩ (fun _ _=>hes) rfl hw (by simpa using hl) fun k hk=>?_
         rw[hfl k hk,Br];have r:=R.core.rc (.x 0) [k];have r':RC us.hp ω (.at (.x 0) [k]) (Aa cs k) (get ws k):=r;have hlay:=(Fp hc k).1
         have r2:RC us.hp ω (.inn (.x 0) [k]) (Aa cs k) (get ws k):=by
          generalize Aa cs k=a at r' hlay;generalize get ws k=b at r'
          cases r' with
          |undef=>exact .undef _ _
          |v _ _ hx=>exact .v _ _ hx
          |nil=>exact .nil _ _
          | sl _ q es' l o n b h1 hk hc hne hn hw hle hr=>
            cases q with
            |bor=>simp[PV.lay] at hlay
            |pre=>simp[PV.lay] at hlay
            |frz=>exact .sl _ _ _ _ _ _ b h1 hk hc hne hn hw hle hr
            |own=>exact .sl _ _ _ _ _ _ b h1 hk hc hne hn hw hle hr
            |ownw=>exact .sl _ _ _ _ _ _ b h1 hk hc hne hn hw hle hr
          |ep=>simp[PV.lay] at hlay
          |box=>simp[PV.lay] at hlay
          |ptr=>simp[PV.lay] at hlay
         exact r2.inn t (fun l r _=>by simp[HY]) (fun r=>by simp[Ren.deep])
     · exact AJ (F2 j hj p)
   |s t=>exact .inl (Jx rfl (fun _ _ _=>rfl) (fun _=>Ren.deep_still (by simp)) fun hb pb tp e hx=>⟨fun _ _ _=>rfl,Ren.deep_still (hx 0)⟩)
   |b i=>exact .inl (Jx rfl (fun _ _ _=>rfl) (fun _=>Ren.deep_still (by simp)) fun hb pb tp e'=>absurd e' (R.nobor_b i p hb pb tp))
   | h i=>
     rcases Bn i st.hp.length with hlt|hge
     · have:Ah ρ st { us with hp:=us.hp++[⟨.own,w,ws⟩] } (X1 (.sl .own es) (.slice us.hp.length 0 es.length)) (.h i) p=Ah ρ st us (X1 (.agg cs) (.agg ws)) (.h i) p:=by simp only[Ah,hV i hlt]
       rw[this];exact .inl (Jx rfl (fun _ _ _=>rfl) (fun _=>Ren.deep_still (by simp)) fun hb pb tp e'=>absurd e' (R.nobor_h i p hb pb tp))
     · refine .inr (AJ ?_)
       have hz:Ak st.hp i=[]:=by rw[Ds,Bv hge];rfl
       simp only[Ah,hz];unfold Bd;split<;>rfl
 · by_cases hj:j=0
   · subst hj;exact⟨fun _ h=>(by cases h),fun _ h=>(by cases h)⟩
   · rw[DQ _ _ j hj];exact Bb _
 · rw[pw _ (by have:=hρ i hi;omega),(R.hp i hi).1,hV i hi]
   exact⟨rfl,(R.hp i hi).2⟩
 · by_cases h:l=us.hp.length
   · subst h;simp[BS] at e
   · rw[pw l h] at e;exact R.bdp l i (DF Ren.deep_ok e)
 · by_cases h:l=us.hp.length
   · subst h;simp[BS] at e
   · rw[pw l h] at e;obtain⟨a,q,e1,e2⟩:=Df e;unfold Ren.deep at e2;split at e2
     · split at e2<;>simp at e2
     · simp at e2;exact R.bdh l i q (by rw[e1,e2.1])
theorem YM{z:List V}(hz:z.all V.flat=true):∀ n,(CZ z n).all V.flat=true
 |0=>rfl
 |n+1=>by rw[CZ,List.all_append,hz,YM hz n];rfl
theorem jb (z:List V):∀ n,(CZ z n).length=n*z.length
 |0=>by simp[CZ]
 |n+1=>by rw[CZ,BM,jb z n,Dv];omega
theorem iR(z:List V):∀ n,(List.replicate n (z.map Bo)).flatten=(CZ z n).map Bo
 |0=>rfl
 |n+1=>by rw[List.replicate_succ,GK,iR z n,CZ,Ez]
theorem uv(R:RS h0 ω0 ω ρ st us X0){w:Nat}{z:List V}{len:Opnd}{n:Int}(hl:len.pev st.sl= .fl (.int .i64 n))(h1:0≤n)(h2:z.length=w)(h3:0<w)(h4:z.all V.flat=true)(h5:AA (n.toNat*w)) :
 Out2 (.mkSlice w z len) us h0 ω0 (.sl .own (List.replicate n.toNat (z.map Bo))) st:=by
 have hev:=(R.ev_fl hl (by simp)).1
 by_cases hn:n=0
 · subst hn
   refine⟨.nils,us.bx,us.hp,ω,ρ,by simp only[Ae,hev];rw[Ab ⟨h1,h2,h3,NN h4,h5⟩,Ab trivial],?_⟩;refine R.handx ⟨fun _ h=>(by cases h),fun _ h=>(by cases h)⟩ (fun p=>?_) (fun p=>?_)
   · match p with
     |[0]=>exact .nil _ _
     |[]=>exact .undef _ _
     |(_+1)::_=>exact .undef _ _
     |0::_::_=>exact .undef _ _
   · match p with
     |[0]=>exact fun i pb tp=>by simp[PV.fcell,PV.q]
     |[]=>exact fun i pb tp=>by simp[PV.fcell,PV.q]
     |(_+1)::_=>exact fun i pb tp=>by simp[PV.fcell,PV.q]
     |0::_::_=>exact fun i pb tp=>by simp[PV.fcell,PV.q]
 · have hne:List.replicate n.toNat (z.map Bo)≠[]:=by
    intro h;have:=congrArg List.length h;simp at this;omega
   obtain⟨ω',h⟩:=(R.handz (YM h4 n.toNat)).newslice (LX (YM h4 n.toNat)) (es:=List.replicate n.toNat (z.map Bo)) (w:=w) hne (fun e he=>by rw[List.eq_of_mem_replicate he];simpa using h2) (fun k _=>by rw[iR]) (by rw[jb,h2];simp);refine⟨.slice us.hp.length 0 n.toNat,us.bx,us.hp++[(⟨.own,w,CZ z n.toNat⟩:Blk)],ω',ρ,by simp only[Ae,hev];rw[Ab ⟨h1,h2,h3,NN h4,h5⟩,Ad hn],?_⟩;rw[List.length_replicate] at h;exact h
theorem Ub(w:Nat):∀ (n:Nat) (cs:List PV),(D1 w n cs).length=n
 |0,_=>rfl
 |n+1,cs=>by simp[D1,Ub w n]
theorem iE(w:Nat):∀ (n:Nat) (cs:List PV),cs.length=n*w→∀ e∈D1 w n cs,e.length=w
 |0,_,_=>by simp[D1]
 | n+1,cs,h=>by
   rw[Dv,JR] at h
   simp only[D1,BE]
   rintro e (rfl|he)
   · simp;omega
   · exact iE w n _ (by simp;omega) e he
theorem eI(w:Nat):∀ (n:Nat) (cs:List PV),cs.length=n*w→(D1 w n cs).flatten=cs
 | 0,cs,h=>by
   have:cs=[]:=D2 (by simpa using h)
   subst this;rfl
 | n+1,cs,h=>by
   rw[Dv,JR] at h
   simp only[D1,GK]
   rw[eI w n _ (by simp;omega),List.take_append_drop]
theorem gE:∀ (ps:List (Nat×Nat×Opnd)) {st st1:PS} {cs cs1:List PV},D7 cs ps st=some (cs1,st1)→cs1.length=cs.length
 |[],st,st1,cs,cs1,e=>by simp only[D7,Ai,Aj] at e;rw[e.1]
 | (off,size,x)::r,st,st1,cs,cs1,e=>by
   simp only[D7] at e
   split at e
   · rw[gE r e,FN]
   · cases e
theorem gH{s:List V}:∀ (ps:List (Nat×Nat×Opnd)) {cs cs1:List V},Eh s cs ps=some cs1→cs1.length=cs.length
 |[],cs,cs1,e=>by simp only[Eh,Ai] at e;rw[e]
 | (off,size,x)::r,cs,cs1,e=>by
   simp only[Eh] at e
   split at e
   · rw[gH r e,Fo]
   · cases e
theorem tf (R:RS h0 ω0 ω ρ st us X0) {w n:Nat} {zs:List V} {ps:List (Nat×Nat×Opnd)} {v:PV}
 (e:(if n=0 then some (PV.sl .own [],st) else if zs.all V.flat=true∧zs.length=n*w∧0<w then (D7 (zs.map Bo) ps st).map fun(cs,st)=>(PV.sl .own (D1 w n cs),st) else none)=some (v,st1)):Out2 (.litSlice w n zs ps) us h0 ω0 v st1:=by
 split at e
 · rename_i hn
   cases e;refine⟨.nils,us.bx,us.hp,ω,ρ,by simp only[Ae];rw[Ab hn],?_⟩;refine R.handx ⟨fun _ h=>(by cases h),fun _ h=>(by cases h)⟩ (fun p=>?_) (fun p=>?_)
   · match p with
     |[0]=>exact .nil _ _
     |[]=>exact .undef _ _
     |(_+1)::_=>exact .undef _ _
     |0::_::_=>exact .undef _ _
   · match p with
     |[0]=>exact fun i pb tp=>by simp[PV.fcell,PV.q]
     |[]=>exact fun i pb tp=>by simp[PV.fcell,PV.q]
     |(_+1)::_=>exact fun i pb tp=>by simp[PV.fcell,PV.q]
     |0::_::_=>exact fun i pb tp=>by simp[PV.fcell,PV.q]
 · rename_i hn
   split at e
   · rename_i hz;obtain⟨hz,hl,hw⟩:=hz;simp only[BH] at e;obtain⟨⟨cs,s⟩,e1,e2⟩:=e;cases e2;obtain⟨ws1,ω1,h1,h2,h3⟩:=Xm ps (R.handz hz) (LX hz) e1
     have hcl:cs.length=n*w:=by rw[gE ps e1];simpa using hl
     have hwl:ws1.length=n*w:=by rw[gH ps h1];exact hl
     have hne:D1 w n cs≠[]:=by
      intro h;have:=congrArg List.length h;rw[Ub] at this;simp at this;omega
     obtain⟨ω',h⟩:=h3.newslice h2 (es:=D1 w n cs) (w:=w) hne (iE w n cs hcl) (fun k _=>by rw[eI w n cs hcl]) (by rw[Ub,hwl];exact AU _);rw[Ub] at h;refine⟨.slice us.hp.length 0 n,us.bx,us.hp++[(⟨.own,w,ws1⟩:Blk)],ω',ρ,?_,h⟩;simp only[Ae];rw[Ad hn,Ab ⟨NN hz,hl,hw⟩,h1];rfl
   · cases e
end
theorem gJ{cs:List PV}(h:C7 cs=true)(c:Nat)(hc:c<cs.length):∃ x,Aa cs c= .fl x∧x.flat=true:=by
 induction cs generalizing c with
 |nil=>simp at hc
 | cons v r ih=>
   simp only[C7,Af] at h
   cases c with
   | zero=>
     have h1:=h.1;simp only[Aa]
     cases v<;>first|exact⟨_,rfl,h1⟩|simp[PV.flatc] at h1
   |succ c=>exact ih h.2 c (by simpa using hc)
theorem tn{es:List (List PV)}(h:IH es=true):C7 es.flatten=true:=by
 induction es with
 |nil=>rfl
 | cons e r ih=>
   simp only[IH,Af] at h
   have app:∀ a b:List PV,C7 a=true→C7 b=true→C7 (a++b)=true:=by
    intro a b
    induction a with
    |nil=>intro _ h;exact h
    |cons x s ih=>intro h1 h2;simp only[C7,Af,CK] at h1 ⊢;exact⟨h1.1,ih h1.2 h2⟩
   rw[GK];exact app _ _ h.1 (ih h.2)
theorem xg{x:V}(h:x.flat=true):x≠.undef:=by rintro rfl;simp[V.flat] at h
def Ren.app(m:Nat):Ren:=fun hd p=>match hd,p with
 |.x 0,0::k::r=>if k<m then .own (.x 0) (0::k::r) else .frz
 |.x 1,0::k::r=>.own (.x 0) (0::(m+k)::r)
 |.x _,_=>.frz
 |hd,p=>.own hd p
theorem Ren.app_still{m:Nat}{c:Hd}(h:∀ i,c≠.x i):(Ren.app m).still c:=fun p=>by
 cases c with
 |x i=>exact absurd rfl (h i)
 |_=>rfl
theorem Ren.app_x{m i:Nat}{p:List Nat}:(∃ k r,i=0∧p=0::k::r∧k<m∧Ren.app m (.x i) p= .own (.x 0) (0::k::r))∨(∃ k r,i=1∧p=0::k::r∧Ren.app m (.x i) p= .own (.x 0) (0::(m+k)::r))∨Ren.app m (.x i) p= .frz:=by
 unfold Ren.app;split
 · rename_i k r e;cases e;split
   · exact .inl ⟨k,r,rfl,rfl,‹_›,rfl⟩
   · exact .inr (.inr rfl)
 · rename_i k r e;cases e;exact .inr (.inl ⟨k,r,rfl,rfl,rfl⟩)
 · exact .inr (.inr rfl)
 · rename_i h _ _;exact(h _ rfl).elim
theorem Ren.app_ok(m:Nat):(Ren.app m).Ok:=by
 refine⟨fun hd p hd' p' x c e e'=>?_,fun hd p=>?_⟩
 · have st:∀ (a:Hd) (q:List Nat),(∀ i,a≠.x i)→Ren.app m a q= .own a q:=fun a q h=>Ren.app_still h q
   cases hd with
   | x i =>
     rcases Ren.app_x (m:=m) (i:=i) (p:=p) with⟨k,r,rfl,rfl,hk,h⟩|⟨k,r,rfl,rfl,h⟩|h
     · rw[h] at e;cases e
       cases hd' with
       | x j=>
         rcases Ren.app_x (m:=m) (i:=j) (p:=p') with⟨k',r',rfl,rfl,hk',h'⟩|⟨k',r',rfl,rfl,h'⟩|h'
         · rw[h'] at e';simp at e';exact⟨rfl,by rw[e'.1,e'.2]⟩
         · rw[h'] at e';simp at e';omega
         · rw[h'] at e';cases e'
       |_=>rw[st _ _ (by simp)] at e';cases e'
     · rw[h] at e;cases e
       cases hd' with
       | x j=>
         rcases Ren.app_x (m:=m) (i:=j) (p:=p') with⟨k',r',rfl,rfl,hk',h'⟩|⟨k',r',rfl,rfl,h'⟩|h'
         · rw[h'] at e';simp at e';omega
         · rw[h'] at e';simp at e';exact⟨rfl,by rw[e'.1,e'.2]⟩
         · rw[h'] at e';cases e'
       |_=>rw[st _ _ (by simp)] at e';cases e'
     · rw[h] at e;cases e
   | _ =>
     rw[st _ _ (by simp)] at e;cases e
     cases hd' with
     | x j=>
       rcases Ren.app_x (m:=m) (i:=j) (p:=p') with⟨k',r',rfl,rfl,hk',h'⟩|⟨k',r',rfl,rfl,h'⟩|h'<;>rw[h'] at e'<;>cases e'
     |_=>rw[st _ _ (by simp)] at e';first|(cases e';done)|(cases e';exact⟨rfl,rfl⟩)
 · cases hd with
   |x i=>rcases Ren.app_x (m:=m) (i:=i) (p:=p) with⟨k,r,_,_,_,h⟩|⟨k,r,_,_,h⟩|h<;>rw[h]<;>first|exact .inl rfl|exact .inr ⟨_,_,rfl⟩
   |_=>exact .inr ⟨_,_,rfl⟩
theorem yA{m:Nat}(hd:Hd)(p:List Nat)(i:Nat)(q:List Nat)(e:Ren.app m hd p= .own (.h i) q):hd= .h i:=by
 cases hd with
 |x j=>rcases Ren.app_x (m:=m) (i:=j) (p:=p) with⟨k,r,_,_,_,h⟩|⟨k,r,_,_,h⟩|h<;>rw[h] at e<;>cases e
 |_=>first|(cases e;done)|(cases e;rfl)
section
variable {h0:Ac} {ω0 ω:Nat→W} {ρ ρ':Nat→Nat} {st st' st1:PS} {us us':St} {X X':Cs}
def KN(h:Ac)(ω:Nat→W)(vy:PV)(w:Nat)(new:List (List PV))(ycs:List V):Prop:=
 (∀ e∈new,e.length=w)∧ycs.length=new.length*w∧((vy= .sl .own new∧∀ k,k<new.length*w→RC h ω (.inn (.x 1) [0,k]) (Aa new.flatten k) (get ycs k))∨(vy= .fl .undef∧∀ k,k<new.length*w→∃ x,x.flat=true∧Aa new.flatten k= .fl x∧get ycs k=x))
def X2(v:PV)(u:V)(vy:PV)(uy:V):Cs:=Xs (Xs X0 1 vy uy) 0 v u
theorem RS.appK {v0:PV} {u0:V} {vy:PV} {uy:V} (R:RS h0 ω0 ω ρ st us (X2 v0 u0 vy uy)) {w:Nat} {es new:List (List PV)} {ycs:List V} (hN:KN us.hp ω vy w new ycs) (hk:0<new.length) (hw0:0<w) (hroom:AA ((es.length+new.length)*w))
 (h0':(u0= .nils∧es=[])∨∃ q l b,v0= .sl q es∧u0= .slice l 0 es.length∧us.hp[l]?=some b∧b.k= .own∧b.w=w∧ω l= .own (.x 0) [0]∧es.length*w≤b.cs.length∧(∀ e∈es,e.length=w)∧∀ k,k<es.length*w→RC us.hp ω (.inn (.x 0) [0,k]) (Aa es.flatten k) (get b.cs k))
 (hy:Dq us.hp w uy=some (ycs,new.length)) :
 ∃ ω' ur h',Ag.app us.hp w u0 uy=some (ur,h')∧RS h0 ω0 ω' ρ st { us with hp:=h' } (X1 (.sl .own (es++new)) ur):=by
 obtain⟨n1,n2,n3⟩:=hN
 have hw:∀ e∈es,e.length=w:=by
  rcases h0' with⟨_,rfl⟩|⟨q,l,b,_,_,_,_,_,_,_,h,_⟩
  · simp
  · exact h
 have hlen:es.flatten.length=es.length*w:=iz hw
 have key:∃ (T:Nat→Bool) (h1:Ac) (xcs:List V),(∀ l,T l=true→ω l= .own (.x 0) [0])∧h1.length=us.hp.length∧(∀ l,T l=false→h1[l]?=us.hp[l]?)∧xcs.length=es.length*w ∧
  (∀ k,k<es.length*w→RC us.hp ω (.inn (.x 0) [0,k]) (Aa es.flatten k) (get xcs k))∧Ag.app us.hp w u0 uy=some (.slice us.hp.length 0 (es.length+new.length),h1++[⟨.own,w,xcs++ycs⟩]):=by
  rcases h0' with⟨rfl,rfl⟩|⟨q,l,b,_,rfl,hb,hbk,hbw,hlab,hle,_,hr⟩
  · refine⟨HY,us.hp,[],fun l h=>(by cases h),rfl,fun _ _=>rfl,by simp,fun k hk=>(by simp at hk),?_⟩
    simp only[Ag.app,hy];rw[Ad (by omega),Ab (by simpa using hroom)];simp
  · refine⟨fun l'=>l' == l,us.hp.set l ⟨.dead,w,[]⟩,b.cs.take (es.length*w),fun l' h=>?_,by simp,fun l' h=>?_,by simp;omega,fun k hk=>?_,?_⟩
    · have:l'=l:=by simpa using h
      rw[this];exact hlab
    · have:l'≠l:=by simpa using h
      rw[List.getElem?_set_ne (E6 this)]
    · have:=hr k hk
      have e:get (b.cs.take (es.length*w)) k=get b.cs k:=by
       have:=GC b.cs 0 (es.length*w) k;simp only[GN,Br] at this;rw[this,Ab hk]
      rw[e];exact this
    · simp only[Ag.app,hy];rw[Ad (by omega),hb];simp only;rw[Ab ⟨hbk,hbw,trivial,hle,hroom⟩]
 obtain⟨T,h1,xcs,t1,t2,t3,t4,t5,t6⟩:=key
 have hTo:∀ l,T l=true→∃ hd p,ω l= .own hd p:=fun l h=>⟨_,_,t1 l h⟩
 have hρ:∀ k,k<st.hp.length→ρ k<us.hp.length:=fun k hk=>by obtain⟨b,h,_⟩:=R.blk hk;exact BV h
 have nT:∀ l,(∀ r,ω l≠.own (.x 0) r)→T l=false:=fun l h=>by
  cases e:T l with
  |false=>rfl
  |true=>exact absurd (t1 l e) (h _)
 have nT2:∀ l a q,ω l= .own a q→(∀ i,a≠.x i)→T l=false:=fun l a q e h=>nT l fun r e'=>by rw[e] at e';cases e';exact h 0 rfl
 have hfresh:∀ l,T l=false→Ag.ren (Ren.app (es.length*w)) (ω l)≠.own (.x 0) [0]:=fun l _ e=>by
  obtain⟨a,q,_,e2⟩:=Df e
  cases a with
  |x i=>rcases Ren.app_x (m:=es.length*w) (i:=i) (p:=q) with⟨k,r,_,_,_,h⟩|⟨k,r,_,_,h⟩|h<;>rw[h] at e2<;>cases e2
  |_=>cases e2
 have hV:∀ k,k<st.hp.length→AV (h1++[(⟨.own,w,xcs++ycs⟩:Blk)]) (ρ k)=AV us.hp (ρ k):=fun k hk=>by
  simp only[AV];rw[Bm (by rw[t2];exact hρ k hk),t3 _ (nT _ fun r e=>by rw[(R.hp k hk).1] at e;cases e)]
 have t:=YW (h:=us.hp) (ω:=ω) (f:=Ren.app (es.length*w)) (w0:=.own (.x 0) [0]) (T:=T) (blk:=⟨.own,w,xcs++ycs⟩) (h1:=h1) t2 t3 hTo R.core.notNone
 have pw:∀ l,l≠us.hp.length→T l=false→BS (Ren.app (es.length*w)) us.hp.length (.own (.x 0) [0]) T ω l=Ag.ren (Ren.app (es.length*w)) (ω l):=fun l h h'=>by simp[BS,h,h']
 have hlw:∀ e∈es++new,e.length=w:=by
  intro e he;rcases B0.1 he with he|he
  · exact hw e he
  · exact n1 e he
 have hlast:(h1++[(⟨.own,w,xcs++ycs⟩:Blk)])[us.hp.length]?=some ⟨.own,w,xcs++ycs⟩:=by rw[← t2];simp
 refine⟨_,_,_,t6,RS.push (X':=X1 (.sl .own (es++new)) (.slice us.hp.length 0 (es.length+new.length))) R (Ren.app_ok (es.length*w)) (w0:=.own (.x 0) [0]) (T:=T) (h1:=h1) (blk:=⟨.own,w,xcs++ycs⟩) rfl t2 t3 rfl hTo (.inl ⟨_,_,rfl⟩) hfresh (fun hd' p=>?_) R.sh (fun j=>?_) R.lsl R.lbx R.lb R.cb R.ch (fun i hi=>?_) (fun l i e=>?_) (fun l i p e=>?_)⟩
 · cases hd' with
   | x j =>
     refine .inr ?_;by_cases hj:j=0
     · subst hj
       match p with
       |[]=>exact AJ rfl
       |(_+1)::_=>exact AJ rfl
       |0::_::_=>exact AJ rfl
       | [0] =>
         refine⟨fun i pb tp=>by simp[Ah,X1,PV.fcell,PV.q],?_⟩
         refine RC.sl _ .own (es++new) us.hp.length 0 (es.length+new.length) ⟨.own,w,xcs++ycs⟩ hlast (by simp) ⟨by simp[BS],rfl,rfl⟩ (fun _ _ h=>by simp at h;rw[h.2] at hk;simp at hk) (by simp) hlw (by simp only[BM,Br,t4,n2,Dv];exact AU _) fun k hk'=>?_
         rw[Br,List.flatten_append];simp only[BM,Dv] at hk';by_cases hke:k<es.length*w
         · rw[Ww _ _ _ (by rw[hlen];exact hke),bQ _ _ _ (by rw[t4];exact hke)]
           exact(t5 k hke).inn t (fun l r e=>by
            have:T l=false:=by
             cases e':T l with
             |false=>rfl
             |true=>have:=t1 l e';rw[e] at this;simp at this
            simp[this]) (fun r=>by simp[Ren.app,hke])
         · rw[Wj _ _ _ (by rw[hlen];omega),nQ _ _ _ (by rw[t4];omega),hlen,t4];rcases n3 with⟨_,hr⟩|⟨_,hf⟩
           · have r:=hr (k-es.length*w) (by omega);refine r.inn t (fun l r e=>?_) (fun r=>?_)
             · rw[nT l (fun r' e'=>by rw[e] at e';cases e')];simp
             · simp only[Ren.app,CK,Cq,Md.sub];rw[show es.length*w+(k-es.length*w)=k by omega]
           · obtain⟨x,hx1,hx2,hx3⟩:=hf (k-es.length*w) (by omega);rw[hx2,hx3];exact .v _ _ hx1
     · exact AJ (F2 j hj p)
   |s t'=>exact .inl (Jx rfl (fun l q e=>nT2 l _ q e (by simp)) (fun _=>Ren.app_still (by simp)) fun hb pb tp e hx=>⟨fun l q e=>nT2 l _ q e hx,Ren.app_still hx⟩)
   |b i=>exact .inl (Jx rfl (fun l q e=>nT2 l _ q e (by simp)) (fun _=>Ren.app_still (by simp)) fun hb pb tp e'=>absurd e' (R.nobor_b i p hb pb tp))
   | h i=>
     rcases Bn i st.hp.length with hlt|hge
     · have:Ah ρ st { us with hp:=h1++[⟨.own,w,xcs++ycs⟩] } (X1 (.sl .own (es++new)) (.slice us.hp.length 0 (es.length+new.length))) (.h i) p=Ah ρ st us (X2 v0 u0 vy uy) (.h i) p:=by simp only[Ah,hV i hlt]
       rw[this];exact .inl (Jx rfl (fun l q e=>nT2 l _ q e (by simp)) (fun _=>Ren.app_still (by simp)) fun hb pb tp e'=>absurd e' (R.nobor_h i p hb pb tp))
     · refine .inr (AJ ?_)
       have hz:Ak st.hp i=[]:=by rw[Ds,Bv hge];rfl
       simp only[Ah,hz];unfold Bd;split<;>rfl
 · by_cases hj:j=0
   · subst hj;exact⟨fun _ h=>(by cases h),fun _ h=>(by cases h)⟩
   · rw[DQ _ _ j hj];exact Bb _
 · have hnT:T (ρ i)=false:=nT _ fun r e=>by rw[(R.hp i hi).1] at e;cases e
   rw[pw _ (by have:=hρ i hi;omega) hnT,(R.hp i hi).1,hV i hi];exact⟨rfl,(R.hp i hi).2⟩
 · by_cases h:l=us.hp.length
   · subst h;simp[BS] at e
   · cases hT:T l with
     |true=>simp[BS,h,hT] at e
     |false=>rw[pw l h hT] at e;exact R.bdp l i (DF (Ren.app_ok _) e)
 · by_cases h:l=us.hp.length
   · subst h;simp[BS] at e
   · cases hT:T l with
     |true=>simp[BS,h,hT] at e
     | false=>
       rw[pw l h hT] at e;obtain⟨a,q,e1,e2⟩:=Df e;have:=yA a q i p e2;subst this;exact R.bdh l i q e1
theorem RS.handU(R:RS h0 ω0 ω ρ st us X0)(i:Nat)(u:V):RS h0 ω0 ω ρ st us (Xs X0 i (.fl .undef) u):=by
 have:=RS.ren (st':=st) (us':=us) (X':=Xs X0 i (.fl .undef) u) R Ren.id_ok (fun hd p i q e=>by simp[Ren.id] at e;exact e.1) (fun hd' p=>?_) rfl R.sh (fun j=>?_) R.lsl R.lbx R.lb R.cb R.ch rfl (fun _=>rfl)
 · rwa [Eg] at this
 · cases hd' with
   |x j=>exact .inr (AJ (by by_cases hj:j=i<;>simp[Ah,Xs,hj,X0,AX]))
   |s t=>exact .inl (BA rfl)
   |b t=>exact .inl (BA rfl)
   |h t=>exact .inl (BA rfl)
 · by_cases hj:j=i<;>simp[Xs,hj,X0]<;>exact Bb _
theorem u7(R:RS h0 ω0 ω ρ st us X0){w:Nat}{y:Opnd}{new:List (List PV)}(hw0:0<w)(e:EE w y st=some (new,st')) :
 ∃ ω' vy ycs,RS h0 ω0 ω' ρ st' us (Xs X0 1 vy (y.ev us.sl))∧(∀ hd,vy.bor hd=false)∧KN us.hp ω' vy w new ycs∧Dq us.hp w (y.ev us.sl)=some (ycs,new.length):=by
 have rdw:∀ {l o:Nat} {b:Blk} {es:List (List PV)},us.hp[l]?=some b→b.k≠.dead→(es≠[]→b.w=w)→o+es.length*b.w≤b.cs.length→Dq us.hp w (.slice l o es.length)=some ((b.cs.drop o).take (es.length*w),es.length)∧((b.cs.drop o).take (es.length*w)).length=es.length*w:=by
  intro l o b es h1 hk hbw hle
  have hle':o+es.length*w≤b.cs.length:=by
   by_cases hes:es=[]
   · subst hes;simp at hle ⊢;exact hle
   · rw[← hbw hes];exact hle
  exact⟨by simp only[Dq,rd,h1];rw[Ab ⟨hk,hle'⟩];rfl,Nu hle'⟩
 have flatcase:∀ {q:Ql} {es:List (List PV)},y.pev st.sl= .sl q es→Ct w es=true→IH es=true→∃ ω' vy ycs,RS h0 ω0 ω' ρ st us (Xs X0 1 vy (y.ev us.sl))∧(∀ hd,vy.bor hd=false)∧KN us.hp ω' vy w es ycs∧Dq us.hp w (y.ev us.sl)=some (ycs,es.length):=by
  intro q es hy haw hfl;have haw':=(JI w es).1 haw;obtain⟨hd,_,r⟩:=R.ev_one hy (fun _ h=>(by cases h)) (fun _ h=>(by cases h)) (fun _ h=>(by cases h));refine(fun⟨ycs,a,b⟩=>⟨ω,.fl .undef,ycs,R.handU 1 _,fun _=>rfl,a,b⟩:_→_) (?_:∃ ycs,KN us.hp ω (.fl .undef) w es ycs∧Dq us.hp w (y.ev us.sl)=some (ycs,es.length));generalize y.ev us.sl=u at r
  cases r with
  |nil=>exact⟨[],⟨by simp,by simp,.inr ⟨rfl,fun k hk=>by simp at hk⟩⟩,rfl⟩
  | sl _ _ _ l o n b h1 hk hc hne hn hw hle hr=>
    subst hn
    have hbw:es≠[]→b.w=w:=fun h=>by
     obtain⟨e0,he0⟩:=Mu _ h;rw[← hw e0 he0];exact haw' e0 he0
    obtain⟨a1,a2⟩:=rdw h1 hk hbw hle;refine⟨_,⟨haw',a2,.inr ⟨rfl,fun k hk'=>?_⟩⟩,a1⟩
    have hes:es≠[]:=by rintro rfl;simp at hk'
    obtain⟨x,hx1,hx2⟩:=gJ (tn hfl) k (by rw[iz haw'];exact hk');have r:=hr k (by rw[hbw hes];exact hk');rw[hx1] at r;refine⟨x,hx2,hx1,?_⟩;rw[GC,Ab hk'];generalize get b.cs (o+k)=z at r;generalize Md.sub (.at hd [0]) q k=mm at r
    cases r with
    |undef=>exact absurd rfl (xg hx2)
    |v=>rfl
 unfold EE at e
 split at e
 · rename_i s hy
   split at e
   · rename_i hw;cases e;subst hw;rw[(R.ev_fl hy (by simp)).1];refine⟨ω,.fl .undef,s.map fun b=>.int .u8 b.toNat,R.handU 1 _,fun _=>rfl,⟨by simp,by simp,.inr ⟨rfl,fun k hk=>?_⟩⟩,by simp[Dq]⟩;simp only[AL,IA] at hk;have:=Hr (w:=1) (es:=s.map fun b=>[PV.fl (.int .u8 b.toNat)]) (by simp) k 0 (by omega);simp only[IA,EA] at this;rw[this,Mm,CI,Ew,Ew,AE hk];exact⟨_,rfl,rfl,rfl⟩
   · cases e
 · rename_i es hy
   split at e
   · rename_i hc;cases e;exact flatcase hy hc.1 hc.2
   · cases e
 · rename_i hd p t es hy
   split at e
   · rename_i hc;cases e;exact flatcase hy hc.1 hc.2
   · cases e
 · rename_i hd p es hy
   split at e
   · rename_i hc;cases e;exact flatcase hy hc.1 hc.2
   · cases e
 · rename_i es hy
   split at e
   · rename_i haw;cases e;have haw':=(JI w new).1 haw;obtain⟨ω1,R1⟩:=R.mvOut y 1 (fun p=>AX p) (fun n j=>rfl)
     have hmo:(Ag.mvOut y st).1= .sl .own new:=by
      cases y with
      |c v=>exact hy
      | t n=>
        simp only[Opnd.pev] at hy;simp only[Ag.mvOut,hy,EO,PV.own,PV.bor,A4,AP,A3]
     rw[hmo] at R1;have r:=R1.core.rc (.x 1) [0];have hs:=R1.shx 1;refine⟨ω1,.sl .own new,?_⟩;refine(fun⟨ycs,a,b⟩=>⟨ycs,R1,fun _=>rfl,a,b⟩:_→_) (?_:∃ ycs,KN us.hp ω1 (.sl .own new) w new ycs∧Dq us.hp w (y.ev us.sl)=some (ycs,new.length))
     have hs':(∀ us',y.ev us.sl≠.agg us')∧∀ us',y.ev us.sl≠.tup us':=by
      have:AZ (.sl .own new) (y.ev us.sl):=hs;exact this
     have r':RC us.hp ω1 (.at (.x 1) [0]) (.sl .own new) (y.ev us.sl):=by
      have:RC us.hp ω1 (.at (.x 1) [0]) (.sl .own new) ((y.ev us.sl).fcell [0]):=r;rwa [FL hs'.1 hs'.2] at this
     generalize y.ev us.sl=u at r'
     cases r' with
     |nil=>exact⟨[],⟨by simp,by simp,.inl ⟨rfl,fun k hk=>by simp at hk⟩⟩,rfl⟩
     | sl _ _ _ l o n b h1 hk hc hne hn hw hle hr=>
       subst hn;have hes:=hne rfl (.inl rfl);obtain⟨e0,he0⟩:=Mu _ hes
       have hbw:b.w=w:=by rw[← hw e0 he0];exact haw' e0 he0
       obtain⟨a1,a2⟩:=rdw h1 hk (fun _=>hbw) hle;refine⟨_,⟨haw',a2,.inl ⟨rfl,fun k hk'=>?_⟩⟩,a1⟩;have r:=hr k (by rw[hbw];exact hk');rw[GC,Ab hk'];simpa [Md.sub] using r
   · cases e
 · rename_i w' hy
   cases e;obtain⟨hd,_,r⟩:=R.ev_one hy (fun _ h=>(by cases h)) (fun _ h=>(by cases h)) (fun _ h=>(by cases h));refine(fun a=>⟨ω,.fl .undef,[],R.handU 1 _,fun _=>rfl,⟨by simp,by simp,.inr ⟨rfl,fun k hk=>by simp at hk⟩⟩,a⟩:_→_) (?_:Dq us.hp w (y.ev us.sl)=some ([],0));generalize y.ev us.sl=u at r
   cases r with
   |nil=>rfl
   | sl _ _ _ l o n b h1 hk hc hne hn hw hle hr=>
     subst hn;have:=(rdw (es:=[]) h1 hk (fun h=>absurd rfl h) hle).1;simpa using this
 · cases e
end
section
variable {h0:Ac} {ω0 ω:Nat→W} {ρ ρ':Nat→Nat} {st st' st1:PS} {us us':St} {X X':Cs}
theorem LS(R:RS h0 ω0 ω ρ st us X){hd:Hd}{c:Nat}{qh:Ql}{eh:List (List PV)}(hg:CV st hd [c]= .sl qh eh){v:PV}(hv:v= .fl .undef∨∃ q es,v= .sl q es)(hl:v.lay=true) :
 (∀ hd' p,(∀ i,hd'≠.x i)→(Ah ρ (setK st v hd [c]) us X' hd' p).1= .fl .undef∨(hd'=hd∧p=[c]∧(Ah ρ (setK st v hd [c]) us X' hd' p)=(v,(Ah ρ st us X hd [c]).2)) ∨
  (Ah ρ (setK st v hd [c]) us X' hd' p=Ah ρ st us X hd' p∧¬ (hd'=hd∧p=[c])∧∀ hb pb tp,(Ah ρ st us X hd' p).1.q=some (.bor hb pb tp)→hb≠hd)) ∧
 (∀ t,AZ (Aa (setK st v hd [c]).sl t) (get us.sl t))∧(setK st v hd [c]).sl.length=st.sl.length∧(setK st v hd [c]).bx.length=st.bx.length∧(∀ i,(Ak (setK st v hd [c]).bx i).length=(Ak st.bx i).length) ∧
 (∀ i c',(Aa (Ak (setK st v hd [c]).bx i) c').lay=true)∧(∀ i c',(Aa (Ak (setK st v hd [c]).hp i) c').lay=true)∧(setK st v hd [c]).hp.length=st.hp.length∧(∀ i,(Ak (setK st v hd [c]).hp i).length=(Ak st.hp i).length) ∧
 (∀ i,hd≠.x i)∧Ah ρ st us X hd [c]=(.sl qh eh,(Ah ρ st us X hd [c]).2)∧∀ p,(Ah ρ st us X hd p).1= .fl .undef∨∃ c',p=[c']:=by
 have cat:∀ (cs:List PV) (ws:List V) p,(Bd cs ws p).1= .fl .undef∨∃ c',p=[c']:=by
  intro cs ws p
  match p with
  |[c']=>exact .inr ⟨c',rfl⟩
  |[]=>exact .inl rfl
  |_::_::_=>exact .inl rfl
 have clr3:∀ (sl':List PV) (t:Nat) (p:List Nat) (hd:Hd),sl'=clr hd st.sl→(Aa sl' t).fcell p= .fl .undef∨((Aa sl' t).fcell p=(Aa st.sl t).fcell p∧∀ hb pb tp,((Aa st.sl t).fcell p).q=some (.bor hb pb tp)→hb≠hd):=by
  rintro sl' t p hd rfl;rw[FW]
  cases hb:(Aa st.sl t).bor hd with
  |true=>left;exact AX p
  |false=>right;exact⟨rfl,fun hb' pb tp e=>DJ hb e⟩
 cases hd with
 |x i=>cases hg
 | b i =>
   simp only[CV] at hg
   have hi:i<st.bx.length:=by
    rcases Bn i st.bx.length with h|h
    · exact h
    · rw[Ds,Bv h] at hg;cases hg
   have hc:c<(Ak st.bx i).length:=by
    rcases Bn c (Ak st.bx i).length with h|h
    · exact h
    · rw[FX _ _ h] at hg;cases hg
   have hB:∀ k,Ak (BR st.bx i (BF (Ak st.bx i) c v)) k=if k=i then BF (Ak st.bx i) c v else Ak st.bx k:=by intro k;rw[JG];simp[hi]
   refine⟨fun hd' p hx=>?_,fun t=>?_,by simp[setK,FV],by simp[setK,Ij],fun k=>?_,fun k c'=>?_,R.ch,rfl,fun _=>rfl,by simp,by simp only[Ah,Bd,hg],cat _ _⟩
   · cases hd' with
     |x j=>exact absurd rfl (hx j)
     | s t=>
       rcases clr3 _ t p (.b i) rfl with h|⟨h1,h2⟩
       · left;exact h
       · right;right;refine⟨?_,by simp,h2⟩;simp only[Ah,setK];rw[h1]
     |h j=>right;right;exact⟨rfl,by simp,fun hb pb tp e=>absurd e (R.nobor_h j p hb pb tp)⟩
     | b j =>
       by_cases hj:j=i
       · subst hj
         match p with
         |[]=>left;rfl
         |_::_::_=>left;rfl
         | [c']=>
           by_cases hcc:c'=c
           · subst hcc;right;left;refine⟨rfl,rfl,?_⟩;simp only[Ah,setK,hB,Ab,Bd,DW,hc,and_self]
           · right;right;refine⟨?_,by simp[hcc],fun hb pb tp e=>absurd e (R.nobor_b j _ hb pb tp)⟩;simp only[Ah,setK,hB,Ab,Bd,DW,hcc,false_and,A3]
       · right;right;refine⟨?_,by simp[hj],fun hb pb tp e=>absurd e (R.nobor_b j p hb pb tp)⟩;simp only[Ah,setK,hB,Ad hj]
   · simp only[setK,FW];split
     · exact Bb _
     · exact R.sh t
   · simp only[setK,hB];split
     · rename_i h;rw[h,FR]
     · rfl
   · simp only[setK,hB];split
     · rw[DW];split
       · exact hl
       · exact R.cb i c'
     · exact R.cb k c'
 | h i =>
   simp only[CV] at hg
   have hi:i<st.hp.length:=by
    rcases Bn i st.hp.length with h|h
    · exact h
    · rw[Ds,Bv h] at hg;cases hg
   have hc:c<(Ak st.hp i).length:=by
    rcases Bn c (Ak st.hp i).length with h|h
    · exact h
    · rw[FX _ _ h] at hg;cases hg
   have hB:∀ k,Ak (BR st.hp i (BF (Ak st.hp i) c v)) k=if k=i then BF (Ak st.hp i) c v else Ak st.hp k:=by intro k;rw[JG];simp[hi]
   refine⟨fun hd' p hx=>?_,fun t=>?_,by simp[setK,FV],rfl,fun _=>rfl,R.cb,fun k c'=>?_,by simp[setK,Ij],fun k=>?_,by simp,by simp only[Ah,Bd,hg],cat _ _⟩
   · cases hd' with
     |x j=>exact absurd rfl (hx j)
     | s t=>
       rcases clr3 _ t p (.h i) rfl with h|⟨h1,h2⟩
       · left;exact h
       · right;right;refine⟨?_,by simp,h2⟩;simp only[Ah,setK];rw[h1]
     |b j=>right;right;exact⟨rfl,by simp,fun hb pb tp e=>absurd e (R.nobor_b j p hb pb tp)⟩
     | h j =>
       by_cases hj:j=i
       · subst hj
         match p with
         |[]=>left;rfl
         |_::_::_=>left;rfl
         | [c']=>
           by_cases hcc:c'=c
           · subst hcc;right;left;refine⟨rfl,rfl,?_⟩;simp only[Ah,setK,hB,Ab,Bd,DW,hc,and_self]
           · right;right;refine⟨?_,by simp[hcc],fun hb pb tp e=>absurd e (R.nobor_h j _ hb pb tp)⟩;simp only[Ah,setK,hB,Ab,Bd,DW,hcc,false_and,A3]
       · right;right;refine⟨?_,by simp[hj],fun hb pb tp e=>absurd e (R.nobor_h j p hb pb tp)⟩;simp only[Ah,setK,hB,Ad hj]
   · simp only[setK,FW];split
     · exact Bb _
     · exact R.sh t
   · simp only[setK,hB];split
     · rw[DW];split
       · exact hl
       · exact R.ch i c'
     · exact R.ch k c'
   · simp only[setK,hB];split
     · rename_i h;rw[h,FR]
     · rfl
 | s t0=>
   simp only[CV] at hg
   have hlt:t0<st.sl.length:=by
    rcases Bn t0 st.sl.length with h|h
    · exact h
    · rw[FX _ _ h,AX] at hg;cases hg
   have hset:(∃ cs,Aa st.sl t0= .agg cs∧c<cs.length∧(Aa st.sl t0).setc [c] v= .agg (BF cs c v))∨(c=0∧Aa st.sl t0= .sl qh eh∧(Aa st.sl t0).setc [c] v=v):=by
    generalize Aa st.sl t0=w at hg
    cases w with
    | agg cs=>
      left;refine⟨cs,rfl,?_,rfl⟩;rcases Bn c cs.length with h|h
      · exact h
      · simp only[PV.fcell] at hg;rw[FX _ _ h] at hg;cases hg
    |tup vs=>cases hg
    | sl q es=>
      cases c with
      |zero=>right;exact⟨rfl,hg,rfl⟩
      |succ c=>cases hg
    |_=>cases c<;>cases hg
   have hfc:∀ p,((Aa st.sl t0).setc [c] v).fcell p= .fl .undef∨(p=[c]∧((Aa st.sl t0).setc [c] v).fcell p=v)∨(p≠[c]∧((Aa st.sl t0).setc [c] v).fcell p=(Aa st.sl t0).fcell p):=by
    intro p;rcases hset with⟨cs,e1,e2,e3⟩|⟨rfl,e1,e2⟩
    · rw[e3,e1]
      match p with
      |[]=>left;rfl
      |_::_::_=>left;rfl
      | [c']=>
        by_cases hcc:c'=c
        · subst hcc;right;left;exact⟨rfl,by simp[PV.fcell,DW,e2]⟩
        · right;right;exact⟨by simp[hcc],by simp[PV.fcell,DW,hcc]⟩
    · rw[e2]
      have hvs:v.sc:=by rcases hv with rfl|⟨q,es,rfl⟩<;>exact⟨fun _ h=>(by cases h),fun _ h=>(by cases h)⟩
      match p with
      |[0]=>right;left;exact⟨rfl,Hl hvs.1 hvs.2⟩
      |[]=>left;rcases hv with rfl|⟨q,es,rfl⟩<;>rfl
      |(_+1)::_=>left;rcases hv with rfl|⟨q,es,rfl⟩<;>rfl
      |0::_::_=>left;rcases hv with rfl|⟨q,es,rfl⟩<;>rfl
   have hshp:AZ ((Aa st.sl t0).setc [c] v) (get us.sl t0):=by
    have:=R.sh t0;rcases hset with⟨cs,e1,e2,e3⟩|⟨rfl,e1,e2⟩
    · rw[e3];rw[e1] at this;obtain⟨ws,h1,h2⟩:=this;exact⟨ws,h1,by rw[FR];exact h2⟩
    · rw[e2];rw[e1] at this;rcases hv with rfl|⟨q,es,rfl⟩
      · exact Bb _
      · exact this
   refine⟨fun hd' p hx=>?_,fun t=>?_,by simp[setK,FV,FR],rfl,fun _=>rfl,R.cb,R.ch,rfl,fun _=>rfl,by simp,by simp only[Ah,hg],fun p=>?_⟩
   · cases hd' with
     |x j=>exact absurd rfl (hx j)
     |b j=>right;right;exact⟨rfl,by simp,fun hb pb tp e=>absurd e (R.nobor_b j p hb pb tp)⟩
     |h j=>right;right;exact⟨rfl,by simp,fun hb pb tp e=>absurd e (R.nobor_h j p hb pb tp)⟩
     | s t=>
       simp only[Ah,setK];rcases N4 (st:=st) (us:=us) t0 ((Aa st.sl t0).setc [c] v) t R.lsl (get us.sl t0) with h|⟨rfl,h0,h1,h2,h3⟩|⟨h1,h2,h3,h4⟩
       · left;rw[h];exact AX p
       · rw[h1];rcases hfc p with h|⟨rfl,h⟩|⟨hp,h⟩
         · left;exact h
         · right;left;exact⟨rfl,rfl,by rw[h]⟩
         · right;right;refine⟨by rw[h],fun hh=>hp hh.2,fun hb pb tp e=>?_⟩;rw[← h] at e;exact DJ h3 e
       · rw[h1];by_cases htt:t=t0
         · subst htt;left;rw[FX _ _ (by omega)];exact AX p
         · right;right;exact⟨rfl,fun hh=>htt (by cases hh.1;rfl),fun hb pb tp e=>DJ h3 e⟩
   · simp only[setK];exact TA R.sh hshp t
   · simp only[Ah];rcases hset with⟨cs,e1,_,_⟩|⟨_,e1,_⟩
     · rw[e1]
       match p with
       |[c']=>exact .inr ⟨c',rfl⟩
       |[]=>exact .inl rfl
       |_::_::_=>exact .inl rfl
     · rw[e1]
       match p with
       |[c']=>exact .inr ⟨c',rfl⟩
       |[]=>exact .inl rfl
       |(_+1)::_::_=>exact .inl rfl
       |0::_::_=>exact .inl rfl
theorem RS.takeK(R:RS h0 ω0 ω ρ st us X)(hX:(∀ p,(X 0).1.fcell p= .fl .undef)∧∀ j hd,(X j).1.bor hd=false){hd:Hd}{c:Nat}{qh:Ql}{eh:List (List PV)}(hg:CV st hd [c]= .sl qh eh)(hq:qh.isOwn=true)(hu:(∀ ws,(Ah ρ st us X hd [c]).2≠.agg ws)∧∀ ws,(Ah ρ st us X hd [c]).2≠.tup ws) :
 ∃ ω',RS h0 ω0 ω' ρ (setK st (.fl .undef) hd [c]) us (Xs X 0 (.sl qh eh) (Ah ρ st us X hd [c]).2)∧∀ l p,ω l= .own hd (c::p)→ω' l= .own (.x 0) (0::p):=by
 obtain⟨a1,a2,a3,a4,a5,a6,a7,a8,a9,a10,a11,a12⟩:=LS (X':=Xs X 0 (.sl qh eh) (Ah ρ st us X hd [c]).2) R hg (.inl rfl) rfl
 refine⟨_,RS.ren R (Ren.seg_ok (a:=hd) (o:=c) (n:=1) (b:=.x 0) (o':=0) (a10 0)) (ZL (by simp)) (fun hd' p=>?_) rfl a2 (fun j=>?_) (by rw[a3];exact R.lsl) (by rw[a4];exact R.lbx) (fun i=>by rw[a5];exact R.lb i) a6 a7 a8 a9,fun l p e=>?_⟩
 · by_cases hxx:∃ j,hd'= .x j
   · obtain⟨j,rfl⟩:=hxx;by_cases hj:j=0
     · subst hj
       match p with
       |[]=>exact .inr (AJ rfl)
       |(_+1)::_=>exact .inr (AJ rfl)
       |0::_::_=>exact .inr (AJ rfl)
       | [0]=>
         refine .inl ⟨hd,[c],?_,fun _ r=>?_,fun hb pb tp e=>?_⟩
         · rw[a11];show (PV.sl qh eh,((Ah ρ st us X hd [c]).2).fcell [0])=_;rw[FL hu.1 hu.2]
         · simp only[CK,Cq];rw[Ren.seg_mv (by omega) (by omega)];simp
         · have e2:(PV.sl qh eh).q=some (Ql.bor hb pb tp):=e;cases qh<;>simp[PV.q] at e2<;>cases hq
     · have hfx:Ah ρ (setK st (.fl .undef) hd [c]) us (Xs X 0 (.sl qh eh) (Ah ρ st us X hd [c]).2) (.x j) p=Ah ρ st us X (.x j) p:=by simp[Ah,Xs,hj]
       refine .inl (Bg hfx (fun _=>Ren.seg_still (fun h=>a10 j h.symm) (by simpa using hj)) fun hb pb tp e hx=>Ren.seg_still ?_ (hx 0));rw[hfx] at e;exact DJ (hX.2 j hd) e
   · rcases a1 hd' p (fun i h=>hxx ⟨i,h⟩) with h|⟨h1,h2,h3⟩|⟨h1,h2,h3⟩
     · exact .inr (AJ h)
     · exact .inr (AJ (by rw[h3]))
     · rw[h1];refine .inl ⟨hd',p,rfl,fun hown r=>?_,fun hb pb tp e hx=>?_⟩
       · by_cases hh:hd'=hd
         · subst hh;rcases a12 p with h|⟨c',rfl⟩
           · rw[h] at hown;cases hown
           · have hcc:c'≠c:=fun h=>h2 ⟨rfl,by rw[h]⟩
             exact Ren.seg_rest_a (a10 0) (by omega) r
         · exact Ren.seg_still hh (fun h=>hxx ⟨0,h⟩) _
       · have:(Ren.seg hd c 1 (.x 0) 0).still hb:=Ren.seg_still (h3 hb pb tp e) (hx 0);exact⟨fun _=>this,this.soft⟩
 · unfold Xs;split
   · exact⟨hu.1,hu.2⟩
   · exact R.shx j
 · simp only[e,Ag.ren]
   rw[Ren.seg_mv (by omega) (by omega)];simp
theorem RS.drop1{v:PV}{u:V}{vy:PV}{uy:V}(R:RS h0 ω0 ω ρ st us (X2 v u vy uy)):∃ ω',RS h0 ω0 ω' ρ st us (X1 v u):=by
 refine⟨_,RS.ren (st':=st) (us':=us) (X':=X1 v u) R (Ren.drop_ok (.x 1)) UT (fun hd' p=>?_) rfl R.sh (fun i=>?_) R.lsl R.lbx R.lb R.cb R.ch rfl (fun _=>rfl)⟩
 · cases hd' with
   | x i=>
     by_cases hi:i=0
     · subst hi;exact .inl (Bg rfl (fun _=>Ren.drop_still (by simp)) fun hb pb tp _ h=>Ren.drop_still (h 1))
     · exact .inr (AJ (F2 i hi p))
   |s t=>exact .inl (Bg rfl (fun _=>Ren.drop_still (by simp)) fun hb pb tp _ h=>Ren.drop_still (h 1))
   |b t=>exact .inl (Bg rfl (fun _=>Ren.drop_still (by simp)) fun hb pb tp _ h=>Ren.drop_still (h 1))
   |h t=>exact .inl (Bg rfl (fun _=>Ren.drop_still (by simp)) fun hb pb tp _ h=>Ren.drop_still (h 1))
 · by_cases hi:i=0
   · subst hi;exact R.shx 0
   · rw[DQ _ _ i hi];exact Bb _
theorem RS.rehand{v v':PV}{u u':V}{vy:PV}{uy:V}(R:RS h0 ω0 ω ρ st us (X2 v u vy uy))(hs:AZ v' u')(hr:∀ p,RC us.hp ω (.at (.x 0) p) (v'.fcell p) (u'.fcell p))(hx:∀ p,Ci (v'.fcell p)):RS h0 ω0 ω ρ st us (X2 v' u' vy uy):=by
 have:=RS.ren (st':=st) (us':=us) (X':=X2 v' u' vy uy) R Ren.id_ok (fun hd p i q e=>by simp[Ren.id] at e;exact e.1) (fun hd' p=>?_) rfl R.sh (fun i=>?_) R.lsl R.lbx R.lb R.cb R.ch rfl (fun _=>rfl)
 · rwa [Eg] at this
 · cases hd' with
   | x i=>
     by_cases hi:i=0
     · subst hi;refine .inr ?_;rw[Eg];exact⟨hx p,hr p⟩
     · exact .inl (BA (by simp[Ah,X2,Xs,hi]))
   |s t=>exact .inl (BA rfl)
   |b t=>exact .inl (BA rfl)
   |h t=>exact .inl (BA rfl)
 · by_cases hi:i=0
   · subst hi;exact hs
   · have:=R.shx i;simpa [X2,Xs,hi] using this
theorem vj{q:Ql}{es:List (List PV)}{H:Ac}{m:Md}{u:V}(r:RC H ω m (.sl q es) u):AZ (.sl q es) u∧(∀ p,((PV.sl q es).fcell p= .sl q es∧u.fcell p=u)∨(PV.sl q es).fcell p= .fl .undef):=by
 have hsc:(∀ us,u≠.agg us)∧∀ us,u≠.tup us:=by
  cases r<;>exact⟨fun _ h=>(by cases h),fun _ h=>(by cases h)⟩
 refine⟨hsc,fun p=>?_⟩
 match p with
 |[0]=>exact .inl ⟨rfl,FL hsc.1 hsc.2⟩
 |[]=>exact .inr rfl
 |(_+1)::_=>exact .inr rfl
 |0::_::_=>exact .inr rfl
theorem yb {w:Nat} {es new:List (List PV)} {ycs:List V} {q0 qr:Ql} {u0:V} {vy:PV} {uy:V} (R:RS h0 ω0 ω ρ st us (X2 (.sl q0 es) u0 vy uy)) (hN:KN us.hp ω vy w new ycs) (hw0:0<w) (hroom:AA ((es.length+new.length)*w))
 (hr:RC us.hp ω (.at (.x 0) [0]) (.sl q0 es) u0) (hq:q0= .own∨q0= .ownw w) (hw:∀ e∈es,e.length=w) (hy:Dq us.hp w uy=some (ycs,new.length)) (hqr:(0<new.length→qr= .own)∧(new.length=0→qr=q0)) :
 ∃ ω' ur h',Ag.app us.hp w u0 uy=some (ur,h')∧RS h0 ω0 ω' ρ st { us with hp:=h' } (X1 (.sl qr (es++new)) ur):=by
 by_cases hk:new.length=0
 · have hnil:new=[]:=D2 hk
   subst hnil;obtain⟨ω',h⟩:=R.drop1;refine⟨ω',u0,us.hp,?_,by rw[hqr.2 rfl,Ol];exact h⟩;simp only[Ag.app,hy,AD];cases hr<;>simp
 · rw[hqr.1 (by omega)]
   refine R.appK hN (by omega) hw0 hroom ?_ hy
   cases hr with
   |nil=>exact .inl ⟨rfl,rfl⟩
   | sl _ _ _ l o n b h1 hkd hc hne hn hw' hle hr=>
     subst hn;refine .inr ⟨q0,l,b,rfl,?_⟩
     have hlab:ω l= .own (.x 0) [0]∧o=0∧b.k= .own∧b.w=w:=by
      rcases hq with rfl|rfl
      · obtain⟨c1,c2,c3⟩:=hc;obtain⟨e0,he0⟩:=Mu _ (hne rfl (.inl rfl));exact⟨c1,c2,c3,by rw[← hw' e0 he0];exact hw e0 he0⟩
      · obtain⟨c1,c2,c3,c4⟩:=hc;exact⟨c1,c2,c3,c4⟩
     obtain⟨c1,rfl,c3,c4⟩:=hlab;rw[c4] at hle hr;refine⟨rfl,h1,c3,c4,c1,by omega,hw,fun k hk=>?_⟩;have:=hr k hk;rw[Br] at this;rcases hq with rfl|rfl<;>exact this
theorem vF{x:Opnd}{q:Ql}{es:List (List PV)}(hx:x.pev st.sl= .sl q es)(hq:q.isOwn=true):(Ag.mvOut x st).1= .sl q es:=by
 cases x with
 |c v=>exact hx
 | t n=>
   simp only[Opnd.pev] at hx
   have:(PV.sl q es).own=true∧(PV.sl q es).bor (.s n)=false:=by cases q<;>first|exact⟨rfl,rfl⟩|cases hq
   simp only[Ag.mvOut,hx,EO,this.1,this.2,A4,AP,A3]
theorem kx{v:PV}{u:V}(hv:∀ hd,v.bor hd=false)(j:Nat)(hd:Hd):(Xs X0 1 v u j).1.bor hd=false:=by
 unfold Xs;split
 · exact hv hd
 · rfl
theorem kR (R:RS h0 ω0 ω ρ st us X0){w:Nat}{x y:Opnd}{v:PV}(e:(match EE w y st with|some (new,st)=>HP w x new st|none=>none)=some (v,st1)):Out2 (.app w x y) us h0 ω0 v st1:=by
 split at e
 · rename_i new st' hsrc
   have hw0:0<w:=by
    unfold HP at e
    repeat' split at e
    all_goals first|(cases e;done)|(rename_i h;exact h.1)|(rename_i h _;exact h.1)
   obtain⟨ω1,vy,ycs,R1,hvb,hN,hy⟩:=u7 R hw0 hsrc
   have fin:∀ {ω2:Nat→W} {st2:PS} {q0 qr:Ql} {es:List (List PV)},RS h0 ω0 ω2 ρ st2 us (X2 (.sl q0 es) (x.ev us.sl) vy (y.ev us.sl))→KN us.hp ω2 vy w new ycs→AA ((es.length+new.length)*w)→RC us.hp ω2 (.at (.x 0) [0]) (.sl q0 es) (x.ev us.sl)→(q0= .own∨q0= .ownw w)→(∀ e∈es,e.length=w) →
    ((0<new.length→qr= .own)∧(new.length=0→qr=q0))→Out2 (.app w x y) us h0 ω0 (.sl qr (es++new)) st2:=by
    intro ω2 st2 q0 qr es R2 hN2 hroom hr hq hw hqr
    obtain⟨ω',ur,h',e1,e2⟩:=yb R2 hN2 hw0 hroom hr hq hw hy hqr
    exact⟨ur,us.bx,h',ω',ρ,by simp only[Ae];rw[Ab hw0,e1];rfl,e2⟩
   have hNre:∀ {ω2:Nat→W} {st2:PS} {v0:PV} {u0:V},RS h0 ω0 ω2 ρ st2 us (X2 v0 u0 vy (y.ev us.sl))→KN us.hp ω2 vy w new ycs:=by
    intro ω2 st2 v0 u0 R2;obtain⟨a,b,c⟩:=hN;refine⟨a,b,c.imp (fun⟨hv,_⟩=>⟨hv,fun k hk=>?_⟩) id⟩;subst hv;have r:=R2.core.rc (.x 1) [0];have hs:AZ (.sl .own new) (y.ev us.sl):=R2.shx 1
    have r':RC us.hp ω2 (.at (.x 1) [0]) (.sl .own new) (y.ev us.sl):=by
     have:RC us.hp ω2 (.at (.x 1) [0]) (.sl .own new) ((y.ev us.sl).fcell [0]):=r;rwa [FL hs.1 hs.2] at this
    generalize y.ev us.sl=u at r' hy
    cases r' with
    |nil=>simp at hk
    | sl _ _ _ l o n b' h1 hkd hc hne hn hw hle hr=>
      subst hn;obtain⟨e0,he0⟩:=Mu _ (hne rfl (.inl rfl))
      have hbw:b'.w=w:=by rw[← hw e0 he0];exact a e0 he0
      rw[hbw] at hle hr;simp only[Dq,rd,h1] at hy;rw[Ab ⟨hkd,hle⟩] at hy;simp only[Cc,Ai,Aj] at hy;have r:=hr k hk;rw[← hy.1,GC,Ab hk];exact r
   have rc0:∀ {ω2:Nat→W} {st2:PS} {q:Ql} {es:List (List PV)} {u0:V},RS h0 ω0 ω2 ρ st2 us (X2 (.sl q es) u0 vy (y.ev us.sl))→RC us.hp ω2 (.at (.x 0) [0]) (.sl q es) u0:=by
    intro ω2 st2 q es u0 R2;have hs:AZ (.sl q es) u0:=R2.shx 0;have:RC us.hp ω2 (.at (.x 0) [0]) (.sl q es) (u0.fcell [0]):=R2.core.rc (.x 0) [0];rwa [FL hs.1 hs.2] at this
   have slot:∀ {q:Ql} {es:List (List PV)},x.pev st'.sl= .sl q es→q.isOwn=true→∃ ω2,RS h0 ω0 ω2 ρ (Ag.mvOut x st').2 us (X2 (.sl q es) (x.ev us.sl) vy (y.ev us.sl)):=by
    intro q es hx hq;obtain⟨ω2,R2⟩:=R1.mvOut x 0 (fun p=>AX p) (fun n j=>kx hvb j _);rw[vF hx hq] at R2;exact⟨ω2,R2⟩
   have held:∀ {hd:Hd} {c:Nat} {qh:Ql} {eh:List (List PV)},CV st' hd [c]= .sl qh eh→qh.isOwn=true→∃ ω2 uh,RS h0 ω0 ω2 ρ (setK st' (.fl .undef) hd [c]) us (X2 (.sl qh eh) uh vy (y.ev us.sl))∧RC us.hp ω1 (.at hd [c]) (.sl qh eh) uh∧∀ l p,ω1 l= .own hd (c::p)→ω2 l= .own (.x 0) (0::p):=by
    intro hd c qh eh hg hq;obtain⟨_,_,_,_,_,_,_,_,_,_,a11,_⟩:=LS (X':=X0) (v:=.fl .undef) R1 hg (.inl rfl) rfl;have r:=R1.core.rc hd [c];rw[a11] at r;have hu:(∀ ws,(Ah ρ st' us (Xs X0 1 vy (y.ev us.sl)) hd [c]).2≠.agg ws)∧∀ ws,(Ah ρ st' us (Xs X0 1 vy (y.ev us.sl)) hd [c]).2≠.tup ws:=r.scalar (fun a h=>by cases h);obtain⟨ω2,R2,h2⟩:=R1.takeK ⟨fun p=>AX p,fun j hd=>kx hvb j hd⟩ hg hq hu;exact⟨ω2,_,R2,r,h2⟩
   have preK : ∀ {hd:Hd} {c:Nat} {es eh:List (List PV)} {qh:Ql},qh.isOwn=true→(qh= .own∨qh= .ownw w)→x.pev st'.sl= .sl (.pre hd [c]) es→CV st' hd [c]= .sl qh eh→Ct w eh=true→0<eh.length→es.length≤eh.length→AA ((es.length+new.length)*w) →
    Out2 (.app w x y) us h0 ω0 (.sl (if es.length+new.length=0 then .ownw w else .own) (eh.take es.length++new)) (setK st' (.fl .undef) hd [c]):=by
    intro hd c es eh qh hqo hqq hx hg c2 c3 c4 c5
    obtain⟨ω2,uh,R2,rh,hlab⟩:=held hg hqo
    have hwh:=(JI w eh).1 c2
    have htl:(eh.take es.length).length=es.length:=by simp;omega
    have cut:RC us.hp ω2 (.at (.x 0) [0]) (.sl (if es.length=0 then .ownw w else .own) (eh.take es.length)) (x.ev us.sl):=by
     obtain⟨hdx,_,rx⟩:=R1.ev_one hx (fun _ h=>(by cases h)) (fun _ h=>(by cases h)) (fun _ h=>(by cases h));have r2:=rc0 R2;generalize x.ev us.sl=u at rx
     cases rx with
     |nil=>exact .nil _ _
     | sl _ _ _ l o n b h1 hk hc hne hn hw hle hr=>
       obtain⟨hl,rfl⟩:=hc
       cases r2 with
       |nil=>simp at c3
       | sl _ _ _ l' o' n' b' h1' hk' hc' hne' hn' hw' hle' hr'=>
         have hl2:=hlab l [] hl;have hll:l'=l:=R2.core.inj l' l (.x 0) [0] (by rcases hqq with rfl|rfl;exact hc'.1;exact hc'.1) hl2;subst hll;rw[h1] at h1';cases h1'
         have hbw:b.w=w:=by
          obtain⟨e0,he0⟩:=Mu eh (by rintro rfl;simp at c3);rw[← hw' e0 he0];exact hwh e0 he0
         have hc2:ω2 l'= .own (.x 0) [0]∧o'=0∧b.k= .own:=by rcases hqq with rfl|rfl;exact hc';exact⟨hc'.1,hc'.2.1,hc'.2.2.1⟩
         obtain⟨g1,rfl,g3⟩:=hc2;subst hn;have hmul:es.length*b.w≤eh.length*b.w:=Ix _ c4
         have hcells:∀ k,k<(eh.take es.length).length*b.w→RC us.hp ω2 (.inn (.x 0) ([0]++[k])) (Aa (eh.take es.length).flatten k) (get b.cs (0+k)):=by
          intro k hk;rw[htl] at hk
          have hb0:0<b.w:=by rw[hbw];exact hw0
          have e1:=Hr (w:=b.w) (es:=eh.take es.length) (fun e he=>hw' e (JV he)) (k / b.w) (k % b.w) (JU _ hb0);have e2:=Hr (w:=b.w) hw' (k / b.w) (k % b.w) (JU _ hb0)
          have hd1:k / b.w*b.w+k % b.w=k:=by rw[Vj];exact VD k b.w
          rw[hd1] at e1 e2;rw[e1,Mm,QX ((Vk hb0).2 hk),← Mm,← e2];have:=hr' k (by omega);rcases hqq with rfl|rfl<;>exact this
         by_cases hz:es.length=0
         · rw[Ab hz];exact RC.sl _ (.ownw w) _ l' 0 _ b h1 hk ⟨g1,rfl,g3,hbw⟩ (fun _ h=>by simp at h) htl.symm (fun e he=>hw' e (JV he)) (by rw[htl];omega) hcells
         · rw[Ad hz];exact RC.sl _ .own _ l' 0 _ b h1 hk ⟨g1,rfl,g3⟩ (fun _ _ h=>by rw[h] at htl;simp at htl;omega) htl.symm (fun e he=>hw' e (JV he)) (by rw[htl];omega) hcells
    obtain⟨s1,s2⟩:=vj cut
    have R3:=R2.rehand (v':=.sl (if es.length=0 then .ownw w else .own) (eh.take es.length)) (u':=x.ev us.sl) s1 (fun p=>by
     rcases s2 p with⟨e1,e2⟩|e1
     · rw[e1,e2]
       match p,e1 with
       |[0],_=>exact cut
       |[],e1=>cases e1
       |(_+1)::_,e1=>cases e1
       |0::_::_,e1=>cases e1
     · rw[e1];exact .undef _ _) (fun p=>by
     rcases s2 p with⟨e1,e2⟩|e1
     · rw[e1];intro i pb tp h;split at h<;>simp[PV.q] at h
     · rw[e1];exact fun i pb tp=>by simp[PV.q])
    refine fin R3 (hNre R3) (by rw[htl];exact c5) cut (by split;exact .inr rfl;exact .inl rfl) (fun e he=>hwh e (JV he)) ⟨fun h=>by rw[Ad (by omega)],fun h=>?_⟩
    simp only[h,EA]
   unfold HP at e;split at e
   · rename_i es hx;split at e
     · rename_i hc;obtain⟨_,c2,c3⟩:=hc;cases e;obtain⟨ω2,R2⟩:=slot hx rfl;exact fin R2 (hNre R2) c3 (rc0 R2) (.inl rfl) ((JI w es).1 c2) ⟨fun _=>rfl,fun _=>rfl⟩
     · cases e
   · rename_i w' es hx;split at e
     · rename_i hc;obtain⟨_,rfl,c2,c3⟩:=hc;cases e;obtain⟨ω2,R2⟩:=slot hx rfl;exact fin (qr:=if new.length=0 then .ownw w' else .own) R2 (hNre R2) c3 (rc0 R2) (.inr rfl) ((JI w' es).1 c2) ⟨fun h=>by rw[Ad (by omega)],fun h=>by rw[Ab h]⟩
     · cases e
   · rename_i hd c es hx;split at e
     · rename_i eh hg;split at e
       · rename_i hc;obtain⟨_,c2,c3,c4⟩:=hc;cases e;obtain⟨ω2,uh,R2,rh,hlab⟩:=held hg rfl
         have hu:uh=x.ev us.sl:=by
          obtain⟨hdx,_,rx⟩:=R1.ev_one hx (fun _ h=>(by cases h)) (fun _ h=>(by cases h)) (fun _ h=>(by cases h));generalize x.ev us.sl=u at rx
          cases rx with
          | nil=>
            have:eh=[]:=D2 (by rw[← c3];rfl);subst this
            cases rh with
            |nil=>rfl
            |sl _ _ _ l o n b h1 hk hc hne hn hw hle hr=>exact absurd rfl (hne rfl (.inl rfl))
          | sl _ _ _ l o n b h1 hk hc hne hn hw hle hr=>
            have hes:=hne rfl (.inr ⟨hd,[c],rfl⟩)
            have heh:eh≠[]:=by rintro rfl;exact hes (D2 c3)
            obtain⟨_,hc2⟩:=hc;obtain⟨hl,ho⟩:=hc2 rfl
            cases rh with
            |nil=>exact absurd rfl heh
            | sl _ _ _ l' o' n' b' h1' hk' hc' hne' hn' hw' hle' hr'=>
              rw[R1.core.inj l' l hd [c] hc'.1 hl,hc'.2.1,ho,hn',hn,c3]
         subst hu;exact fin R2 (hNre R2) c4 (rc0 R2) (.inl rfl) ((JI w eh).1 c2) ⟨fun _=>rfl,fun _=>rfl⟩
       · cases e
     · cases e
   · rename_i hd c es hx;split at e
     · rename_i eh hg;split at e
       · rename_i hc;obtain⟨_,c2,c3,c4,c5⟩:=hc;cases e;exact preK rfl (.inl rfl) hx hg c2 c3 c4 c5
       · cases e
     · rename_i w' eh hg;split at e
       · rename_i hc;obtain⟨_,rfl,c2,c3,c4,c5⟩:=hc;cases e;exact preK rfl (.inr rfl) hx hg c2 c3 c4 c5
       · cases e
     · cases e
   · cases e
 · cases e
end
def Ren.segD(hd:Hd)(p s n:Nat):Ren:=fun hd' q=>match q with
 |[]=>.own hd' []
 | c::r=>if hd'= .x 0∧c<n then .own hd (p::(s+c)::r) else if hd'=hd∧c=p then (match r with
   |[]=>.own hd' [c]
   |k::r'=>if s≤k∧k<s+n then .frz else .own hd' (c::k::r')) else .own hd' (c::r)
theorem Ren.segD_ok{hd:Hd}{p s n:Nat}(hx:hd≠.x 0):(Ren.segD hd p s n).Ok:=by
 have cl : ∀ (a:Hd) (q:List Nat),(∃ c r,a= .x 0∧q=c::r∧c<n∧Ren.segD hd p s n a q= .own hd (p::(s+c)::r))∨Ren.segD hd p s n a q= .frz∨(Ren.segD hd p s n a q= .own a q∧∀ c r,¬ (a=hd∧q=p::(s+c)::r∧c<n)):=by
  intro a q
  match q with
  |[]=>exact .inr (.inr ⟨rfl,fun c r h=>by cases h.2.1⟩)
  | c :: r=>
    by_cases h1:a= .x 0∧c<n
    · exact .inl ⟨c,r,h1.1,rfl,h1.2,by simp only[Ren.segD];rw[Ab h1]⟩
    · by_cases h2:a=hd∧c=p
      · match r with
        |[]=>exact .inr (.inr ⟨by simp only[Ren.segD];rw[Ad h1,Ab h2],fun c' r' h=>by cases h.2.1⟩)
        | k::r'=>
          by_cases h3:s≤k∧k<s+n
          · exact .inr (.inl (by simp only[Ren.segD];rw[Ad h1,Ab h2,Ab h3]))
          · refine .inr (.inr ⟨by simp only[Ren.segD];rw[Ad h1,Ab h2,Ad h3],fun c' r'' h=>?_⟩);obtain⟨_,e,hlt⟩:=h;simp at e;omega
      · refine .inr (.inr ⟨by simp only[Ren.segD];rw[Ad h1,Ad h2],fun c' r'' h=>?_⟩);obtain⟨e1,e,_⟩:=h;simp at e;exact h2 ⟨e1,e.1⟩
 refine⟨fun a q a' q' x c e e'=>?_,fun a q=>?_⟩
 · rcases cl a q with⟨c1,r1,rfl,rfl,hc1,h1⟩|h1|⟨h1,n1⟩
   · rw[h1] at e;cases e;rcases cl a' q' with⟨c2,r2,rfl,rfl,hc2,h2⟩|h2|⟨h2,n2⟩
     · rw[h2] at e';simp at e';exact⟨rfl,by rw[e'.1,e'.2]⟩
     · rw[h2] at e';cases e'
     · rw[h2] at e';cases e';exact absurd ⟨rfl,rfl,hc1⟩ (n2 c1 r1)
   · rw[h1] at e;cases e
   · rw[h1] at e;cases e;rcases cl a' q' with⟨c2,r2,rfl,rfl,hc2,h2⟩|h2|⟨h2,n2⟩
     · rw[h2] at e';cases e';exact absurd ⟨rfl,rfl,hc2⟩ (n1 c2 r2)
     · rw[h2] at e';cases e'
     · rw[h2] at e';cases e';exact⟨rfl,rfl⟩
 · rcases cl a q with⟨c1,r1,_,_,_,h1⟩|h1|⟨h1,_⟩
   · exact .inr ⟨_,_,h1⟩
   · exact .inl h1
   · exact .inr ⟨_,_,h1⟩
theorem Ren.segD_still{hd:Hd}{p s n:Nat}{c:Hd}(h1:c≠hd)(h2:c≠.x 0):(Ren.segD hd p s n).still c:=fun q=>by
 match q with
 |[]=>rfl
 |c'::r=>simp only[Ren.segD];rw[Ad (fun h=>h2 h.1),Ad (fun h=>h1 h.1)]
theorem Ren.segD_mv{hd:Hd}{p s n c:Nat}(hc:c<n)(r:List Nat):Ren.segD hd p s n (.x 0) (c::r)= .own hd (p::(s+c)::r):=by
 simp only[Ren.segD];rw[Ab ⟨trivial,hc⟩]
theorem Ren.segD_oth{hd:Hd}{p s n c:Nat}(hx:hd≠.x 0)(hc:c≠p)(r:List Nat):Ren.segD hd p s n hd (c::r)= .own hd (c::r):=by
 simp only[Ren.segD];rw[Ad (fun h=>hx h.1),Ad (fun h=>hc h.2)]
theorem Ren.segD_in{hd:Hd}{p s n k:Nat}(hx:hd≠.x 0)(hk:¬ (s≤k∧k<s+n))(r:List Nat):Ren.segD hd p s n hd (p::k::r)= .own hd (p::k::r):=by
 simp only[Ren.segD];rw[Ad (fun h=>hx h.1),Ab ⟨trivial,trivial⟩,Ad hk]
theorem Ren.segD_top{hd:Hd}{p s n:Nat}(hx:hd≠.x 0):Ren.segD hd p s n hd [p]= .own hd [p]:=by
 simp only[Ren.segD];rw[Ad (fun h=>hx h.1),Ab ⟨trivial,trivial⟩]
theorem xR{hd:Hd}{p s n:Nat}(a:Hd)(q:List Nat)(i:Nat)(r:List Nat)(e:Ren.segD hd p s n a q= .own (.h i) r):a= .h i∨hd= .h i:=by
 match q with
 |[]=>cases e;exact .inl rfl
 | c :: r'=>
   simp only[Ren.segD] at e;split at e
   · cases e;exact .inr rfl
   · split at e
     · split at e
       · cases e;exact .inl rfl
       · split at e
         · cases e
         · cases e;exact .inl rfl
     · cases e;exact .inl rfl
theorem Eu(es:List (List PV))(j:Nat)(e:List PV):(Be es j e).length=es.length:=by
 induction es generalizing j with
 |nil=>rfl
 | cons x r ih=>cases j with
   |zero=>rfl
   |succ j=>simp[Be,ih]
theorem vV(es:List (List PV))(j k:Nat)(e:List PV):AW (Be es j e) k=if k=j∧j<es.length then e else AW es k:=by
 induction es generalizing j k with
 |nil=>simp[Be,AW]
 | cons x r ih=>cases j with
   | zero=>cases k with
     |zero=>simp[Be,AW]
     |succ k=>simp[Be,AW]
   | succ j=>cases k with
     |zero=>simp[Be,AW]
     |succ k=>simp only[Be,AW,ih,AB];congr 1;simp
theorem QW{w:Nat}{es:List (List PV)}(hw:∀ e∈es,e.length=w){j:Nat}{e:List PV}(he:e.length=w):∀ x∈Be es j e,x.length=w:=by
 induction es generalizing j with
 |nil=>simp[Be]
 | cons x r ih=>cases j with
   |zero=>simp only[Be,BE];rintro y (rfl|h);exact he;exact hw y (by simp[h])
   |succ j=>simp only[Be,BE];rintro y (rfl|h);exact hw y (by simp);exact ih (fun e h=>hw e (by simp[h])) y h
section
variable {h0:Ac} {ω0 ω:Nat→W} {ρ ρ':Nat→Nat} {st st' st1:PS} {us us':St} {X X':Cs}
theorem RS.rent (R:RS h0 ω0 ω ρ st us X) {f:Ren} (hf:f.Ok) (hh:∀ l a q i r,ω l= .own a q→f a q= .own (.h i) r→i<st'.hp.length) {l0:Nat} {hd0:Hd} {p0:List Nat} (hl0:ω l0= .own hd0 p0)
 (ht:∀ l,l≠l0→us'.hp[l]?=us.hp[l]?) (hk:∃ b,us'.hp[l0]?=some b∧b.k= .own) (hlen:us'.hp.length=us.hp.length)
 (hA:∀ hd p,ZC f ω (fun l=>l == l0) (Ah ρ st us X) (Ah ρ st' us' X' hd p) hd p∨Ci (Ah ρ st' us' X' hd p).1∧RC us'.hp (fun l=>Ag.ren f (ω l)) (.at hd p) (Ah ρ st' us' X' hd p).1 (Ah ρ st' us' X' hd p).2)
 (hs:∀ t,AZ (Aa st'.sl t) (get us'.sl t)) (hx:∀ i,AZ (X' i).1 (X' i).2) (l1:st'.sl.length=us'.sl.length) (l2:st'.bx.length=us'.bx.length)
 (l3:∀ i,(Ak st'.bx i).length=(A6 us'.bx i).length) (c1:∀ i c,(Aa (Ak st'.bx i) c).lay=true) (c2:∀ i c,(Aa (Ak st'.hp i) c).lay=true)
 (l4:st'.hp.length=st.hp.length) (l5:∀ i,i<st.hp.length→(AV us'.hp (ρ i)).length=(Ak st'.hp i).length):RS h0 ω0 (fun l=>Ag.ren f (ω l)) ρ st' us' X':=by
 have t:Tr us.hp ω us'.hp (fun l=>Ag.ren f (ω l)) f (fun l=>(l == l0)=true):=
  ⟨fun l e=>⟨by simp[e,Ag.ren],ht l (by rintro rfl;rw[hl0] at e;cases e)⟩,fun l hd p e hn=>⟨by simp[e,Ag.ren],ht l (by simpa using hn)⟩,fun l i e=>by simp[e,Ag.ren]⟩
 have c:=R.core
 refine⟨⟨fun hd p=>?_,fun l l' hd p e e'=>?_,fun l l' i e e'=>c.injp l l' i (DF hf e) (DF hf e'),fun l e=>?_,fun l e=>?_⟩,hs,hx,l1,l2,l3,c1,c2,fun i hi=>?_,fun l i e=>?_,fun l i p e=>?_,?_,fun hd p i pb tp=>?_⟩
 · rcases hA hd p with⟨a,b,e,ho,hb⟩|h
   · have hnx:=R.nx a b;rw[e] at ho hb ⊢
     exact(R.core.rc a b).tr t (fun e'=>⟨fun l r h=>by simp[(ho e').1 l r h],(ho e').2⟩) (fun hb' pb tp e'=>by
      obtain⟨x,y,z⟩:=hb hb' pb tp e' (fun i h=>by subst h;exact hnx i pb tp e')
      exact⟨fun l q h=>by simp[x l q h],y,z⟩)
   · exact h.2
 · obtain⟨a,q,e1,e2⟩:=Df e
   obtain⟨a',q',e1',e2'⟩:=Df e';obtain⟨rfl,rfl⟩:=hf.inj a q a' q' hd p e2 e2';exact c.inj l l' a q e1 e1'
 · by_cases hl:l=l0
   · subst hl;exact hk
   · have:(∃ hd p,ω l= .own hd p)∨∃ i,ω l= .ptr i:=by
      rcases e with⟨hd,p,e⟩|⟨i,e⟩
      · obtain⟨x,q,e1,_⟩:=Df e;exact .inl ⟨x,q,e1⟩
      · exact .inr ⟨i,DF hf e⟩
     obtain⟨b',h1',h2'⟩:=R.core.kind l this;exact⟨b',by rw[ht l hl];exact h1',h2'⟩
 · rw[hlen]
   exact c.notNone l (by intro h;rw[h] at e;cases e)
 · rw[l4] at hi
   exact⟨by simp[(R.hp i hi).1,Ag.ren],l5 i hi⟩
 · rw[l4];exact R.bdp l i (DF hf e)
 · obtain⟨a,q,e1,e2⟩:=Df e
   exact hh l a q i p e1 e2
 · have F:=R.fr.ren f
   refine⟨by rw[hlen];exact F.len,fun l hl e=>?_,F.new,F.ptr⟩;obtain⟨a,b⟩:=F.old l hl e;refine⟨?_,b⟩;rw[ht l,a];rintro rfl;obtain⟨_,b'⟩:=R.fr.old l hl e;rw[hl0] at b';rcases e with e|e<;>rw[e] at b'<;>cases b'
 · rcases hA hd p with⟨a,b,e,_⟩|h
   · rw[e];exact R.nx a b i pb tp
   · exact h.1 i pb tp
theorem RC.lay_inn{H:Ac}{hd:Hd}{p:List Nat}{v:PV}{u:V}(r:RC H ω (.at hd p) v u)(hlay:v.lay=true):RC H ω (.inn hd p) v u:=by
 cases r with
 |undef=>exact .undef _ _
 |v _ _ hx=>exact .v _ _ hx
 |nil=>exact .nil _ _
 | sl _ q es' l o n b h1 hk hc hne hn hw hle hr=>
   cases q with
   |bor=>simp[PV.lay] at hlay
   |pre=>simp[PV.lay] at hlay
   |frz=>exact .sl _ _ _ _ _ _ b h1 hk hc hne hn hw hle hr
   |own=>exact .sl _ _ _ _ _ _ b h1 hk hc hne hn hw hle hr
   |ownw=>exact .sl _ _ _ _ _ _ b h1 hk hc hne hn hw hle hr
 |ep=>simp[PV.lay] at hlay
 |box=>simp[PV.lay] at hlay
 |ptr=>simp[PV.lay] at hlay
theorem Um{w:Nat}{es:List (List PV)}(hw:∀ e∈es,e.length=w){j o:Nat}{vs:List PV}(hj:j<es.length)(hle:o+vs.length≤w)(k:Nat)(hk:k<es.length*w) :
 Aa (Be es j (Au (AW es j) o vs)).flatten k=if j*w+o≤k∧k<j*w+o+vs.length then Aa vs (k-(j*w+o)) else Aa es.flatten k:=by
 have hw0:0<w:=by rcases Mn w with h|h;(· rw[h] at hk;simp at hk);(· exact h)
 have hel:=L4 hw hj
 have e1:=Hr (w:=w) (QW (j:=j) (e:=Au (AW es j) o vs) hw (by rw[FN];exact hel)) (k / w) (k % w) (JU _ hw0)
 have e2:=Hr (w:=w) hw (k / w) (k % w) (JU _ hw0)
 have hd1:k / w*w+k % w=k:=by rw[Vj];exact VD k w
 rw[hd1] at e1 e2
 have hm:=JU k hw0
 rw[e1,vV]
 by_cases hkj:k / w=j
 · rw[Ab ⟨hkj,hj⟩,Hm _ _ _ _ (by omega),← hkj]
   have:(o≤k % w∧k % w<o+vs.length)↔(k / w*w+o≤k∧k<k / w*w+o+vs.length):=by omega
   by_cases hc:o≤k % w∧k % w<o+vs.length
   · rw[Ab hc,Ab (this.1 hc)];congr 1;omega
   · rw[Ad hc,Ad (fun h=>hc (this.2 h)),e2]
 · rw[Ad (fun h=>hkj h.1),← e2,Ad]
   rintro⟨h1,h2⟩;apply hkj
   have h3:k<(j+1)*w:=by rw[Dv];omega
   have h4:j≤k / w:=(Nat.le_div_iff_mul_le hw0).2 (by omega);have h5:k / w<j+1:=(Vk hw0).2 h3;omega
theorem uA (R:RS h0 ω0 ω ρ st us X0) {n:Nat} {a x:Opnd} {v w:PV} {s:PS} {hd:Hd} {p:Nat} {esa es:List (List PV)} {j o:Nat} (emo:Ag.mvOut x st=(w,s)) (hx:a.pev s.sl= .ep (.bor hd [p] true) esa j o) (hg:CV s hd [p]= .sl .own es)
 (e:(if j<es.length∧w.cells.length=n∧o+n≤(AW es j).length∧Bj w.cells=true then some (PV.fl V.undef,setK s (.sl .own (Be es j (Au (AW es j) o w.cells))) hd [p]) else none)=some (v,st1)):Out2 (.storeH n a x) us h0 ω0 v st1:=by
 obtain⟨ω1,R1⟩:=R.mv0 x
 rw[emo] at R1
 simp only at R1
 split at e
 · rename_i hcnd
   obtain⟨c1,c2,c3,c4⟩:=hcnd;cases e;subst c2;obtain⟨k1,k2,k3,k4⟩:=R1.hand_cells (i:=0) (v:=w) (u:=x.ev us.sl) rfl c4;obtain⟨a1,a2,a3,a4,a5,a6,a7,a8,a9,a10,a11,a12⟩:=LS (X':=X0) (v:=.sl .own (Be es j (Au (AW es j) o w.cells))) R1 hg (.inr ⟨_,_,rfl⟩) rfl;have rh:=R1.core.rc hd [p];rw[a11] at rh;simp only at rh;generalize hfu:(Ah ρ s us (X1 w (x.ev us.sl)) hd [p]).2=uh at rh a1 a11;obtain⟨hdx,_,rx⟩:=R1.ev_one hx (fun _ h=>(by cases h)) (fun _ h=>(by cases h)) (fun _ h=>(by cases h));generalize hau:a.ev us.sl=ua at rx
   cases rx with
   | ep _ _ _ _ _ l o1 pp b h1 hk hq hc hw hle hr hp=>
     obtain⟨hl,rfl⟩:=hc.2 rfl
     cases rh with
     |nil=>simp at c1
     | sl _ _ _ l' o' n' b' h1' hk' hc' hne' hn' hw' hle' hr'=>
       have hll:l'=l:=R1.core.inj l' l hd [p] hc'.1 hl;subst hll;rw[h1] at h1';cases h1';obtain⟨_,rfl,hbk⟩:=hc';subst hn';have hel:=L4 hw' c1;rw[hel] at c3;have hjw:(j+1)*b.w≤es.length*b.w:=Ix _ c1;rw[Dv,JR] at hjw
       have hpp:pp=j*b.w+o:=by omega
       subst hpp
       have hwr:wr us.hp l' (j*b.w+o) (x.ev us.sl).cells=some (us.hp.set l' { b with cs:=splice b.cs (j*b.w+o) (x.ev us.sl).cells }):=by
        rw[wr,h1];simp only;rw[Ab ⟨hbk,by rw[k1];omega⟩]
       have hlt:l'<us.hp.length:=BV h1
       have hset:∀ k,(us.hp.set l' { b with cs:=splice b.cs (j*b.w+o) (x.ev us.sl).cells })[k]?=if k=l' then some { b with cs:=splice b.cs (j*b.w+o) (x.ev us.sl).cells } else us.hp[k]?:=by
        intro k;rw[Fx];by_cases h:l'=k
        · subst h;simp[hlt]
        · rw[Ad h,Ad (fun h'=>h h'.symm)]
       have hV:∀ k,k<s.hp.length→AV (us.hp.set l' { b with cs:=splice b.cs (j*b.w+o) (x.ev us.sl).cells }) (ρ k)=AV us.hp (ρ k):=by
        intro k hk'
        have:ρ k≠l':=by intro e;have:=(R1.hp k hk').1;rw[e,hl] at this;cases this
        simp only[AV,hset,Ad this]
       have hx0:hd≠.x 0:=a10 0;have hok:=Ren.segD_ok (hd:=hd) (p:=p) (s:=j*b.w+o) (n:=w.cells.length) hx0
       have t:Tr us.hp ω1 (us.hp.set l' { b with cs:=splice b.cs (j*b.w+o) (x.ev us.sl).cells }) (fun l=>Ag.ren (Ren.segD hd p (j*b.w+o) w.cells.length) (ω1 l)) (Ren.segD hd p (j*b.w+o) w.cells.length) (fun l=>(l == l')=true):=
        ⟨fun l e=>⟨by simp[e,Ag.ren],by rw[hset,Ad];rintro rfl;rw[hl] at e;cases e⟩,fun l hd p e hn=>⟨by simp[e,Ag.ren],by rw[hset,Ad (by simpa using hn)]⟩,fun l i e=>by simp[e,Ag.ren]⟩
       have notl:∀ l a q,ω1 l= .own a q→¬ (a=hd∧q=[p])→(l == l')=false:=by
        intro l a q e hn
        cases he:l == l' with
        |false=>rfl
        | true=>
          have:l=l':=by simpa using he
          rw[this,hl] at e;cases e;exact absurd ⟨rfl,rfl⟩ hn
       have hes':∀ e∈Be es j (Au (AW es j) o w.cells),e.length=b.w:=QW hw' (by rw[FN];exact hel)
       have rnew:RC (us.hp.set l' { b with cs:=splice b.cs (j*b.w+o) (x.ev us.sl).cells }) (fun l=>Ag.ren (Ren.segD hd p (j*b.w+o) w.cells.length) (ω1 l)) (.at hd [p]) (.sl .own (Be es j (Au (AW es j) o w.cells))) (.slice l' 0 es.length):=by
        refine RC.sl _ .own _ l' 0 _ { b with cs:=splice b.cs (j*b.w+o) (x.ev us.sl).cells } (by rw[hset,Ab rfl]) hk ⟨by simp only[hl,Ag.ren];exact Ren.segD_top hx0,rfl,hbk⟩ (fun _ _ h=>by have:=congrArg List.length h;rw[Eu] at this;simp only[AD] at this;omega) (by rw[Eu]) hes' (by simp only[Eu,Fo];exact hle') fun k hk'=>?_
        simp only[Eu] at hk';simp only[Br];rw[Um hw' c1 c3 k hk',PU _ _ _ _ (by rw[k1];omega),k1];split
        · rename_i hcc;have hlay:=(Fp c4 (k-(j*b.w+o))).1;refine((k3 (k-(j*b.w+o))).lay_inn hlay).inn t (fun l r e=>?_) (fun r=>?_)
          · rw[notl l _ _ e (fun h=>hx0 h.1.symm)];simp
          · simp only[CK,Cq,Md.sub];rw[Ren.segD_mv (by omega),show j*b.w+o+(k-(j*b.w+o))=k by omega]
        · rename_i hcc;have r:=hr' k hk';rw[Br] at r;refine r.inn t (fun l r e=>?_) (fun r=>?_)
          · rw[notl l _ _ e (by simp)];simp
          · simp only[CK,Cq,Md.sub];exact Ren.segD_in hx0 hcc r
       have hfam:∀ hd' q,Ah ρ (setK s (.sl .own (Be es j (Au (AW es j) o w.cells))) hd [p]) { us with hp:=us.hp.set l' { b with cs:=splice b.cs (j*b.w+o) (x.ev us.sl).cells } } X0 hd' q=Ah ρ (setK s (.sl .own (Be es j (Au (AW es j) o w.cells))) hd [p]) us X0 hd' q∨(Ah ρ (setK s (.sl .own (Be es j (Au (AW es j) o w.cells))) hd [p]) { us with hp:=us.hp.set l' { b with cs:=splice b.cs (j*b.w+o) (x.ev us.sl).cells } } X0 hd' q).1= .fl .undef:=by
        intro hd' q
        cases hd' with
        | h i=>
          rcases Bn i s.hp.length with hi|hi
          · left;simp only[Ah,hV i hi]
          · right
            have hz:Ak (setK s (.sl .own (Be es j (Au (AW es j) o w.cells))) hd [p]).hp i=[]:=by rw[Ds,Bv (by rw[a8];exact hi)];rfl
            simp only[Ah,hz];unfold Bd;split<;>rfl
        |_=>left;rfl
       have hstep:Ae (.storeH w.cells.length a x) us=some (.undef,us.bx,us.hp.set l' { b with cs:=splice b.cs (j*b.w+o) (x.ev us.sl).cells }):=by
        simp only[Ae,hau];rw[Ab ⟨k1,k2⟩,hwr];rfl
       refine Ul (o:=.storeH w.cells.length a x) hstep (RS.rent (l0:=l') (X':=X0) R1 hok (fun l a q i r e0 e=>?_) hl (fun l hn=>by simp only[hset,Ad hn]) ⟨{ b with cs:=splice b.cs (j*b.w+o) (x.ev us.sl).cells },by simp only[hset,Ab],hbk⟩ (by simp) (fun hd' q=>?_) a2 (fun i=>Bb _) (by rw[a3];exact R1.lsl) (by rw[a4];exact R1.lbx) (fun i=>by rw[a5];exact R1.lb i) a6 a7 a8 (fun i hi=>by simp only[hV i hi,a9];exact(R1.hp i hi).2))
       · rw[a8];rcases xR a q i r e with rfl|rfl
         · exact R1.bdh l i q e0
         · exact R1.bdh l' i [p] hl
       · simp only [AOp.clears];rcases hfam hd' q with hf|hf
         · rw[hf];by_cases hxx:∃ i,hd'= .x i
           · obtain⟨i,rfl⟩:=hxx;exact .inr (AJ (HD i q))
           · rcases a1 hd' q (fun i h=>hxx ⟨i,h⟩) with h|⟨rfl,rfl,h3⟩|⟨e1,e2,e3⟩
             · exact .inr (AJ h)
             · refine .inr ?_;rw[h3];exact⟨fun i pb tp=>by simp[PV.q],rnew⟩
             · rw[e1];refine .inl ⟨hd',q,rfl,fun hown=>?_,fun hb pb tp e' hxb=>?_⟩
               · by_cases hh:hd'=hd
                 · subst hh;rcases a12 q with h|⟨c',rfl⟩
                   · rw[h] at hown;cases hown
                   · have hcc:c'≠p:=fun h=>e2 ⟨rfl,by rw[h]⟩
                     exact⟨fun l r e=>notl l _ _ e (fun h=>hcc (by simpa using congrArg (fun z=>z.head?) h.2)),fun r=>Ren.segD_oth hx0 hcc r⟩
                 · exact⟨fun l r e=>notl l _ _ e (fun h=>hh h.1),fun r=>Ren.segD_still hh (fun h=>hxx ⟨0,h⟩) _⟩
               · have hne:=e3 hb pb tp e';have:(Ren.segD hd p (j*b.w+o) w.cells.length).still hb:=Ren.segD_still hne (hxb 0);exact⟨fun l q e=>notl l _ _ e (fun h=>hne h.1),fun _=>this,this.soft⟩
         · exact .inr (AJ hf)
 · cases e
end
section
variable {h0:Ac} {ω0 ω:Nat→W} {ρ ρ':Nat→Nat} {st st' st1:PS} {us us':St} {X X':Cs}
theorem w8 (R:RS h0 ω0 ω ρ st us X0){m:Bool}{n:Option Nat}{a:Opnd}{v:PV}(hn:Lf m n (a.pev st.sl) st=some (some v)):Out2 (.loadH n a) us h0 ω0 v st:=by
 unfold Lf at hn;split at hn
 · rename_i hd c es j hx;split at hn
   · simp only [Ai] at hn;split at hn
     · rename_i eh hg;split at hn
       · rename_i hj;split at hn
         · rename_i e2 he;simp only[Ai] at hn;subst hn;obtain⟨_,_,_,_,_,_,_,_,_,a10,a11,_⟩:=LS (X':=X0) (v:=.fl .undef) R hg (.inl rfl) rfl;have rh:=R.core.rc hd [c];rw[a11] at rh;simp only at rh;generalize (Ah ρ st us X0 hd [c]).2=uh at rh;obtain⟨hdx,_,rx⟩:=R.ev_one hx (fun _ h=>(by cases h)) (fun _ h=>(by cases h)) (fun _ h=>(by cases h));generalize hau:a.ev us.sl=ua at rx
           cases rx with
           | ep _ _ _ _ _ l o1 pp b h1 hk hq hc hw hle hr hp=>
             obtain⟨hl,rfl⟩:=hc.2 rfl
             cases rh with
             |nil=>simp at hj
             | sl _ _ _ l' o' n' b' h1' hk' hc' hne' hn' hw' hle' hr'=>
               have hll:l'=l:=R.core.inj l' l hd [c] hc'.1 hl;subst hll;rw[h1] at h1';cases h1';obtain⟨_,rfl,hbk⟩:=hc';have hel:=L4 hw' hj
               have hb1:b.w=1:=by rw[he] at hel;simpa using hel.symm
               have hcell:=hr' j (by rw[hb1];omega);have hfg:=Hr (w:=b.w) hw' j 0 (by omega);rw[he,hb1,IA,EA] at hfg;rw[hfg] at hcell;simp only[Aa,Br,Md.sub,CK,Cq] at hcell;rw[hb1] at hle' hp
               have hpp:pp=j:=by omega
               subst hpp
               have hrd:rd us.hp l' pp 1=some ((b.cs.drop pp).take 1):=by
                rw[rd,h1];simp only;rw[Ab ⟨hk,by omega⟩]
               have rv:RC us.hp ω (.at (.x 0) [0]) (.sl (.bor hd [c,pp] true) e2) (get b.cs pp):=by
                generalize get b.cs pp=u2 at hcell
                cases hcell with
                |nil=>exact .nil _ _
                | sl _ _ _ l2 o2 n2 b2 g1 gk gc gne gn gw gle gr=>
                  obtain⟨gc1,gc2,gc3⟩:=gc
                  exact .sl _ _ _ _ _ _ b2 g1 gk ⟨.inl ⟨_,gc1⟩,fun _=>⟨gc1,gc2⟩⟩ (fun _ _=>gne rfl (.inl rfl)) gn gw gle fun k hk=>(gr k hk).inn_un
               refine(fun⟨u,e1,e2⟩=>⟨u,us.bx,us.hp,ω,ρ,by simp only[Ae,hau,Option.getD_none,hrd,Fu,e1],e2⟩:_→_) (R.handL (hd:=.x 0) (n:=none) (a:=[.sl (.bor hd [c,pp] true) e2]) (ws:=(b.cs.drop pp).take 1) rfl (by simp;omega) (fun q=>?_) (fun q=>?_) (fun q=>?_) (fun q=>?_))
               · cases q with
                 |zero=>exact⟨fun _ h=>(by cases h),fun _ h=>(by cases h)⟩
                 |succ q=>exact KM
               · rw[GC]
                 cases q with
                 |zero=>rw[Ab (by omega)];exact rv
                 |succ q=>exact .undef _ _
               · cases q<;>rfl
               · cases q with
                 | zero=>
                   intro i pb tp h;simp[Aa,PV.q] at h;exact a10 i h.1
                 |succ q=>exact fun i pb tp=>by simp[Aa,PV.q]
         · cases hn
       · cases hn
     · cases hn
   · cases hn
 · cases hn
theorem rG{cs:List PV}(h:C7 cs=true):Bj cs=true:=by
 induction cs with
 |nil=>rfl
 | cons x r ih=>
   simp only[C7,Bj,Af] at h ⊢;refine⟨?_,ih h.2⟩
   cases x<;>first|exact h.1|cases h.1
theorem uJ{cs:List PV}(h:C7 cs=true):PV.ownL cs=false:=by
 induction cs with
 |nil=>rfl
 | cons x r ih=>
   simp only[C7,PV.ownL,Af,Cy] at h ⊢;refine⟨?_,ih h.2⟩
   cases x<;>first|rfl|cases h.1
theorem ye{x:Opnd}{st:PS}(h:C7 (x.pev st.sl).cells=true):Ag.mvOut x st=(x.pev st.sl,st):=by
 cases x with
 |c v=>rfl
 | t n=>
   have ho:(Aa st.sl n).own=false:=by
    simp only[Opnd.pev] at h
    cases hv:Aa st.sl n with
    |agg cs=>rw[hv] at h;exact uJ h
    |tup vs=>rw[hv] at h;simp[PV.cells,C7,PV.flatc] at h
    |sl q es=>rw[hv] at h;simp[PV.cells,C7,PV.flatc] at h
    |_=>rfl
   simp only[Ag.mvOut,EO,Opnd.pev,ho,AP,A3]
theorem wB (R : RS h0 ω0 ω ρ st us X0) {n:Nat} {a x:Opnd} {v:PV} {hd:Hd} {p k j o:Nat} (hn:(a.pev st.sl).nest=some (hd,p,k,j,o)) (e:Qj n hd p k j o (x.pev st.sl) st=some (v,st1)):Out2 (.storeH n a x) us h0 ω0 v st1:=by
 obtain⟨esa,hx⟩:∃ esa,a.pev st.sl= .ep (.bor hd [p,k] true) esa j o:=by
  unfold PV.nest at hn;split at hn
  · rename_i h;simp only[Ai,Aj] at hn;obtain⟨rfl,rfl,rfl,rfl,rfl⟩:=hn;exact⟨_,h⟩
  · cases hn
 unfold Qj at e;split at e
 · rename_i es hg; split at e
   · rename_i hk; split at e
     · rename_i e2 he; split at e
       · rename_i hcnd;obtain⟨c1,c2,c3,c4f⟩:=hcnd;cases e;subst c2;obtain⟨ω1,R1⟩:=R.mv0 x;have emo:=ye c4f;rw[emo] at R1;simp only at R1;generalize hw:x.pev st.sl=w at *;have c4:=rG c4f;obtain⟨k1,k2,k3,k4⟩:=R1.hand_cells (i:=0) (v:=w) (u:=x.ev us.sl) rfl c4;obtain⟨a1,a2,a3,a4,a5,a6,a7,a8,a9,a10,a11,a12⟩:=LS (X':=X0) (v:=.sl .own (Be es k [.sl .own (Be e2 j (Au (AW e2 j) o w.cells))])) R1 hg (.inr ⟨_,_,rfl⟩) rfl;have rh:=R1.core.rc hd [p];rw[a11] at rh;simp only at rh;generalize hfu:(Ah ρ st us (X1 w (x.ev us.sl)) hd [p]).2=uh at rh a1 a11;obtain⟨hdx,_,rx⟩:=R1.ev_one hx (fun _ h=>(by cases h)) (fun _ h=>(by cases h)) (fun _ h=>(by cases h));generalize hau:a.ev us.sl=ua at rx
         cases rx with
         | ep _ _ _ _ _ l o1 pp b h1 hbk0 hq hc hw0 hle hr hp=>
           obtain⟨hl,rfl⟩:=hc.2 rfl
           cases rh with
           |nil=>simp at hk
           | sl _ _ _ lo oo no bo g1 gk gc gne gn gw gle gr=>
             obtain⟨glo,rfl,gbk⟩:=gc;subst gn;have hel:=L4 gw hk
             have hb1:bo.w=1:=by rw[he] at hel;simpa using hel.symm
             have hcell:=gr k (by rw[hb1];omega);have hfg:=Hr (w:=bo.w) gw k 0 (by omega);rw[he,hb1,IA,EA] at hfg;rw[hfg] at hcell;simp only[Aa,Br,Md.sub,CK,Cq] at hcell;generalize hu2:get bo.cs k=u2 at hcell
             cases hcell with
             |nil=>simp at c1
             | sl _ _ _ l' o' n' b' h1' hk' hc' hne' hn' hw' hle' hr'=>
               have hll:l'=l:=R1.core.inj l' l hd [p,k] hc'.1 hl;subst hll;rw[h1] at h1';cases h1';obtain⟨_,rfl,hbk⟩:=hc';subst hn';have hel2:=L4 hw' c1;rw[hel2] at c3;have hjw:(j+1)*b.w≤e2.length*b.w:=Ix _ c1;rw[Dv,JR] at hjw
               have hpp:pp=j*b.w+o:=by omega
               subst hpp
               have hwr:wr us.hp l' (j*b.w+o) (x.ev us.sl).cells=some (us.hp.set l' { b with cs:=splice b.cs (j*b.w+o) (x.ev us.sl).cells }):=by
                rw[wr,h1];simp only;rw[Ab ⟨hbk,by rw[k1];omega⟩]
               have hlt:l'<us.hp.length:=BV h1
               have hset:∀ q,(us.hp.set l' { b with cs:=splice b.cs (j*b.w+o) (x.ev us.sl).cells })[q]?=if q=l' then some { b with cs:=splice b.cs (j*b.w+o) (x.ev us.sl).cells } else us.hp[q]?:=by
                intro q;rw[Fx];by_cases h:l'=q
                · subst h;simp[hlt]
                · rw[Ad h,Ad (fun h'=>h h'.symm)]
               have hV:∀ q,q<st.hp.length→AV (us.hp.set l' { b with cs:=splice b.cs (j*b.w+o) (x.ev us.sl).cells }) (ρ q)=AV us.hp (ρ q):=by
                intro q hq'
                have:ρ q≠l':=by intro e;have:=(R1.hp q hq').1;rw[e,hl] at this;cases this
                simp only[AV,hset,Ad this]
               have hx0:hd≠.x 0:=a10 0;have hok:=Ren.id_ok
               have t:Tr us.hp ω1 (us.hp.set l' { b with cs:=splice b.cs (j*b.w+o) (x.ev us.sl).cells }) (fun l=>Ag.ren Ren.id (ω1 l)) Ren.id (fun l=>(l == l')=true):=
                ⟨fun l e=>⟨by simp[e,Ag.ren],by rw[hset,Ad];rintro rfl;rw[hl] at e;cases e⟩,fun l hd p e hn=>⟨by simp[e,Ag.ren],by rw[hset,Ad (by simpa using hn)]⟩,fun l i e=>by simp[e,Ag.ren]⟩
               have notl:∀ l a q,ω1 l= .own a q→¬ (a=hd∧q=[p,k])→(l == l')=false:=by
                intro l a q e hn
                cases he:l == l' with
                |false=>rfl
                | true=>
                  have:l=l':=by simpa using he
                  rw[this,hl] at e;cases e;exact absurd ⟨rfl,rfl⟩ hn
               have hes2:∀ e∈Be e2 j (Au (AW e2 j) o w.cells),e.length=b.w:=QW hw' (by rw[FN];exact hel2)
               have hlo:lo≠l':=by rintro rfl;rw[glo] at hl;simp at hl
               have rin:RC (us.hp.set l' { b with cs:=splice b.cs (j*b.w+o) (x.ev us.sl).cells }) (fun l=>Ag.ren Ren.id (ω1 l)) (.inn hd [p,k]) (.sl .own (Be e2 j (Au (AW e2 j) o w.cells))) (.slice l' 0 e2.length):=by
                refine RC.sl _ .own _ l' 0 _ { b with cs:=splice b.cs (j*b.w+o) (x.ev us.sl).cells } (by rw[hset,Ab rfl]) hbk0 ⟨by simp only[hl,Ag.ren];rfl,rfl,hbk⟩ (fun _ _ h=>by have:=congrArg List.length h;rw[Eu] at this;simp only[AD] at this;omega) (by rw[Eu]) hes2 (by simp only[Eu,Fo];exact hle') fun q hq'=>?_
                simp only[Eu] at hq';simp only[Br];rw[Um hw' c1 c3 q hq',PU _ _ _ _ (by rw[k1];omega),k1];split
                · rename_i hcc;obtain⟨xv,hf,hfx⟩:=gJ c4f (q-(j*b.w+o)) (by omega);have r3:=k3 (q-(j*b.w+o));rw[hf] at r3 ⊢;generalize get (x.ev us.sl).cells (q-(j*b.w+o))=uu at r3
                  cases r3 with
                  |undef=>exact .undef _ _
                  |v _ _ hx=>exact .v _ _ hx
                · have r:=hr' q hq';rw[Br] at r;refine r.inn t (fun l r e=>?_) (fun r=>rfl);rw[notl l _ _ e (by simp[Md.sub])];simp
               have hesk:Be es k [.sl .own (Be e2 j (Au (AW e2 j) o w.cells))]=Be es k (Au (AW es k) 0 [.sl .own (Be e2 j (Au (AW e2 j) o w.cells))]):=by rw[he];rfl
               have hes':∀ e∈Be es k [.sl .own (Be e2 j (Au (AW e2 j) o w.cells))],e.length=bo.w:=QW gw (by rw[hb1];rfl)
               have rnew:RC (us.hp.set l' { b with cs:=splice b.cs (j*b.w+o) (x.ev us.sl).cells }) (fun l=>Ag.ren Ren.id (ω1 l)) (.at hd [p]) (.sl .own (Be es k [.sl .own (Be e2 j (Au (AW e2 j) o w.cells))])) (.slice lo 0 es.length):=by
                refine RC.sl _ .own _ lo 0 _ bo (by rw[hset,Ad hlo];exact g1) gk ⟨by simp only[glo,Ag.ren];rfl,rfl,gbk⟩ (fun _ _ h=>by have:=congrArg List.length h;rw[Eu] at this;simp only[AD] at this;omega) (by rw[Eu]) hes' (by simp only[Eu];exact gle) fun q hq'=>?_
                simp only[Eu] at hq';simp only[Br];rw[hesk,Um gw hk (o:=0) (vs:=[.sl .own (Be e2 j (Au (AW e2 j) o w.cells))]) (by rw[hb1];simp) q hq',hb1,IA,EA];split
                · rename_i hcc
                  have hqk:q=k:=by simp only[AB,AD] at hcc;omega
                  subst hqk;rw[VB,hu2];exact rin
                · rename_i hcc
                  have hqk:q≠k:=fun h=>hcc (by simp only[AB,AD];omega)
                  have r:=gr q hq';rw[Br] at r;refine r.inn t (fun l r e=>?_) (fun r=>rfl);rw[notl l _ _ e (by rintro⟨_,h⟩;simp[Md.sub] at h;exact hqk h.1)];simp
               have hfam:∀ hd' q,Ah ρ (setK st (.sl .own (Be es k [.sl .own (Be e2 j (Au (AW e2 j) o w.cells))])) hd [p]) { us with hp:=us.hp.set l' { b with cs:=splice b.cs (j*b.w+o) (x.ev us.sl).cells } } X0 hd' q=Ah ρ (setK st (.sl .own (Be es k [.sl .own (Be e2 j (Au (AW e2 j) o w.cells))])) hd [p]) us X0 hd' q∨(Ah ρ (setK st (.sl .own (Be es k [.sl .own (Be e2 j (Au (AW e2 j) o w.cells))])) hd [p]) { us with hp:=us.hp.set l' { b with cs:=splice b.cs (j*b.w+o) (x.ev us.sl).cells } } X0 hd' q).1= .fl .undef:=by
                intro hd' q
                cases hd' with
                | h i=>
                  rcases Bn i st.hp.length with hi|hi
                  · left;simp only[Ah,hV i hi]
                  · right
                    have hz:Ak (setK st (.sl .own (Be es k [.sl .own (Be e2 j (Au (AW e2 j) o w.cells))])) hd [p]).hp i=[]:=by rw[Ds,Bv (by rw[a8];exact hi)];rfl
                    simp only[Ah,hz];unfold Bd;split<;>rfl
                |_=>left;rfl
               have hstep:Ae (.storeH w.cells.length a x) us=some (.undef,us.bx,us.hp.set l' { b with cs:=splice b.cs (j*b.w+o) (x.ev us.sl).cells }):=by
                simp only[Ae,hau];rw[Ab ⟨k1,k2⟩,hwr];rfl
               refine Ul (o:=.storeH w.cells.length a x) hstep (RS.rent (l0:=l') (X':=X0) R1 hok (fun l a q i r e0 e=>?_) hl (fun l hn=>by simp only[hset,Ad hn]) ⟨{ b with cs:=splice b.cs (j*b.w+o) (x.ev us.sl).cells },by simp only[hset,Ab],hbk⟩ (by simp) (fun hd' q=>?_) a2 (fun i=>Bb _) (by rw[a3];exact R1.lsl) (by rw[a4];exact R1.lbx) (fun i=>by rw[a5];exact R1.lb i) a6 a7 a8 (fun i hi=>by simp only[hV i hi,a9];exact(R1.hp i hi).2))
               · rw[a8];cases e;exact R1.bdh l i q e0
               · simp only [AOp.clears];rcases hfam hd' q with hf|hf
                 · rw[hf];by_cases hxx:∃ i,hd'= .x i
                   · obtain⟨i,rfl⟩:=hxx;exact .inr (AJ (HD i q))
                   · rcases a1 hd' q (fun i h=>hxx ⟨i,h⟩) with h|⟨rfl,rfl,h3⟩|⟨e1,e2',e3⟩
                     · exact .inr (AJ h)
                     · refine .inr ?_;rw[h3];exact⟨fun i pb tp=>by simp[PV.q],rnew⟩
                     · rw[e1];refine .inl ⟨hd',q,rfl,fun hown=>?_,fun hb pb tp e' hxb=>?_⟩
                       · by_cases hh:hd'=hd
                         · subst hh;rcases a12 q with h|⟨c',rfl⟩
                           · rw[h] at hown;cases hown
                           · have hcc:c'≠p:=fun h=>e2' ⟨rfl,by rw[h]⟩
                             exact⟨fun l r e=>notl l _ _ e (fun h=>hcc (by simpa using congrArg (fun z=>z.head?) h.2)),fun r=>rfl⟩
                         · exact⟨fun l r e=>notl l _ _ e (fun h=>hh h.1),fun r=>rfl⟩
                       · have hne:=e3 hb pb tp e'
                         have:(Ren.id).still hb:=fun q=>rfl
                         exact⟨fun l q e=>notl l _ _ e (fun h=>hne h.1),fun _=>this,this.soft⟩
                 · exact .inr (AJ hf)
       · cases e
     · cases e
   · cases e
 · cases e
end
def Ren.kp(live:List Nat):Ren:=fun hd p=>match hd with
 |.s t=>if live.contains t then .own (.s t) p else .frz
 |hd=>.own hd p
theorem Ren.kp_ok(live:List Nat):(Ren.kp live).Ok:=by
 have cl:∀ a p,Ren.kp live a p= .own a p∨Ren.kp live a p= .frz:=by
  intro a p
  cases a with
  |s t=>simp only[Ren.kp];split;exact .inl rfl;exact .inr rfl
  |_=>exact .inl rfl
 refine⟨fun hd p hd' p' x c e e'=>?_,fun hd p=>?_⟩
 · rcases cl hd p with h|h<;>rw[h] at e<;>cases e
   rcases cl hd' p' with h'|h'<;>rw[h'] at e'<;>cases e';exact⟨rfl,rfl⟩
 · rcases cl hd p with h|h
   · exact .inr ⟨_,_,h⟩
   · exact .inl h
theorem Ren.kp_soft(live:List Nat)(hd:Hd):(Ren.kp live).soft hd:=fun p=>by
 cases hd with
 |s t=>simp only[Ren.kp];split;exact .inr ⟨p,rfl⟩;exact .inl rfl
 |_=>exact .inr ⟨p,rfl⟩
theorem RC.detop{h:Ac}{ω:Nat→W}{hd:Hd}{p:List Nat}{v:PV}{u:V}(r:RC h ω (.at hd p) v u)(hs:v.sc):RC h ω (.at hd p) v.detop u:=by
 cases r with
 |undef=>exact .undef _ _
 |v _ _ hx=>exact .v _ _ hx
 |nil _ q=>cases q<;>exact .nil _ _
 | sl _ q es l o n b h1 hk hc hne hn hw hle hr=>
   cases q with
   |bor a c d=>exact .sl _ _ _ _ _ _ b h1 hk ⟨hc.1,fun e=>by cases e⟩ (by simp) hn hw hle hr
   |pre a c=>exact .sl _ _ _ _ _ _ b h1 hk ⟨.inl ⟨_,hc.1⟩,fun e=>by cases e⟩ (by simp) hn hw hle hr
   |frz=>exact .sl _ _ _ _ _ _ b h1 hk hc hne hn hw hle hr
   |own=>exact .sl _ _ _ _ _ _ b h1 hk hc hne hn hw hle hr
   |ownw=>exact .sl _ _ _ _ _ _ b h1 hk hc hne hn hw hle hr
 | ep _ q es j o' l o p2 b h1 hk hqo hc hw hle hr hp'=>
   cases q with
   |bor a c d=>exact .ep _ _ _ _ _ _ _ _ b h1 hk rfl ⟨hc.1,fun e=>by cases e⟩ hw hle hr hp'
   |pre a c=>exact .ep _ _ _ _ _ _ _ _ b h1 hk rfl ⟨.inl ⟨_,hc.1⟩,fun e=>by cases e⟩ hw hle hr hp'
   |frz=>exact .ep _ _ _ _ _ _ _ _ b h1 hk hqo hc hw hle hr hp'
   |own=>cases hqo
   |ownw=>cases hqo
 |box _ i o=>exact .box _ _ _
 |ptr _ _ i o l hl=>exact .ptr _ _ _ _ _ hl
theorem T7(cs:List PV)(c:Nat):Aa (PV.detopL cs) c=(Aa cs c).detop:=by
 induction cs generalizing c with
 |nil=>rfl
 | cons x r ih=>cases c with
   |zero=>rfl
   |succ c=>exact ih c
theorem fI(cs:List PV):(PV.detopL cs).length=cs.length:=by
 induction cs with
 |nil=>rfl
 |cons x r ih=>simp[PV.detopL,ih]
theorem vJ{v:PV}(h:v.sc):v.detop.sc:=by
 cases v with
 |agg cs=>exact absurd rfl (h.1 _)
 |tup cs=>exact absurd rfl (h.2 _)
 |sl q es=>cases q<;>exact⟨fun _ h=>(by cases h),fun _ h=>(by cases h)⟩
 |ep q es j o=>cases q<;>exact⟨fun _ h=>(by cases h),fun _ h=>(by cases h)⟩
 |_=>exact h
theorem r5(v:PV)(p:List Nat):v.detop.fcell p=(v.fcell p).detop:=by
 have sc:∀ w:PV,w.sc→∀ p,w.detop.fcell p=(w.fcell p).detop:=by
  intro w hw p;have hd:=vJ hw
  match p with
  |[0]=>rw[Hl hw.1 hw.2,Hl hd.1 hd.2]
  |[]=>cases w<;>first|exact absurd rfl (hw.1 _)|exact absurd rfl (hw.2 _)|rfl|(rename_i q _;cases q<;>rfl)|(rename_i q _ _ _;cases q<;>rfl)
  |(_+1)::_=>cases w<;>first|exact absurd rfl (hw.1 _)|exact absurd rfl (hw.2 _)|rfl|(rename_i q _;cases q<;>rfl)|(rename_i q _ _ _;cases q<;>rfl)
  |0::_::_=>cases w<;>first|exact absurd rfl (hw.1 _)|exact absurd rfl (hw.2 _)|rfl|(rename_i q _;cases q<;>rfl)|(rename_i q _ _ _;cases q<;>rfl)
 cases v with
 | agg cs=>
   match p with
   |[c]=>exact T7 cs c
   |[]=>rfl
   |_::_::_=>rfl
 | tup vs=>
   match p with
   | [i,c]=>
     show Aa (Aa (PV.detopL vs) i).cells c=(Aa (Aa vs i).cells c).detop;rw[T7];generalize Aa vs i=w
     cases w with
     |agg cs=>exact T7 cs c
     |sl q es=>cases q<;>cases c<;>rfl
     |ep q es j o=>cases q<;>cases c<;>rfl
     |_=>cases c<;>rfl
   |[]=>rfl
   |[_]=>rfl
   |_::_::_::_=>rfl
 |_=>exact sc _ ⟨fun _ h=>(by cases h),fun _ h=>(by cases h)⟩ p
theorem fT{v:PV}{u:V}(h:Shp1 v u):Shp1 v.detop u:=by
 cases v with
 |agg cs=>obtain⟨ws,h1,h2⟩:=h;exact⟨ws,h1,by rw[fI];exact h2⟩
 |tup cs=>exact h.elim
 |sl q es=>cases q<;>exact h
 |ep q es j o=>cases q<;>exact h
 |_=>exact h
theorem vg{v:PV}{u:V}(h:AZ v u):AZ v.detop u:=by
 cases v with
 |tup cs=>obtain⟨ws,h1,h2,h3⟩:=h;exact⟨ws,h1,by rw[fI];exact h2,fun i=>by rw[T7];exact fT (h3 i)⟩
 |agg cs=>exact fT (v:=.agg cs) h
 |sl q es=>cases q<;>exact h
 |ep q es j o=>cases q<;>exact h
 |_=>exact h
theorem RC.sc{h:Ac}{ω:Nat→W}{m:Md}{v:PV}{u:V}(r:RC h ω m v u):v.sc:=by
 cases r<;>exact⟨fun _ h=>(by cases h),fun _ h=>(by cases h)⟩
theorem jm{v:PV}:v.detop.qo=v.qo∧∀ hb pb tp,v.detop.q=some (.bor hb pb tp)→tp=false∧∃ pb' tp',v.q=some (.bor hb pb' tp'):=by
 cases v with
 |sl q es=>cases q<;>refine⟨rfl,fun hb pb tp e=>?_⟩<;>simp[PV.detop,PV.q] at e<;>first|(obtain⟨rfl,_,rfl⟩:=e;exact⟨rfl,_,_,rfl⟩)|skip
 |ep q es j o=>cases q<;>refine⟨rfl,fun hb pb tp e=>?_⟩<;>simp[PV.detop,PV.q] at e<;>first|(obtain⟨rfl,_,rfl⟩:=e;exact⟨rfl,_,_,rfl⟩)|skip
 |_=>exact⟨rfl,fun hb pb tp e=>by simp[PV.detop,PV.q] at e⟩
section
variable {h0:Ac} {ω0 ω:Nat→W} {ρ ρ':Nat→Nat} {st st' st1:PS} {us us':St} {X X':Cs}
theorem RS.kp(R:RS h0 ω0 ω ρ st us X0)(live:List Nat):∃ ω',RS h0 ω0 ω' ρ { st with sl:=Ei live 0 st.sl } { us with sl:=keep live 0 us.sl } X0:=by
 have sl:∀ t,(Aa (Ei live 0 st.sl) t= .fl .undef)∨(live.contains t=true∧Aa (Ei live 0 st.sl) t=(Aa st.sl t).detop∧get (keep live 0 us.sl) t=get us.sl t):=by
  intro t;rw[tK,vt,Br]
  cases h:live.contains t with
  |true=>exact .inr ⟨rfl,rfl,rfl⟩
  |false=>exact .inl rfl
 have tr:=Tr.of_ren us.hp ω (Ren.kp live);refine⟨_,RS.ren (X':=X0) R (Ren.kp_ok live) (fun hd p i q e=>?_) (fun hd' p=>?_) rfl (fun t=>?_) (fun i=>Bb _) (by simp[vp,wF,R.lsl]) R.lbx R.lb R.cb R.ch rfl (fun _=>rfl)⟩
 · cases hd with
   |s t=>simp only[Ren.kp] at e;split at e<;>cases e
   |_=>first|(cases e;done)|(cases e;rfl)
 · cases hd' with
   |x i=>exact .inr (AJ (HD i p))
   | s t=>
     simp only[Ah];rcases sl t with h|⟨hl,h1,h2⟩
     · refine .inr ?_;rw[h];exact Dp (AX p)
     · rw[h1,h2,r5];have r:=R.core.rc (.s t) p;simp only[Ah] at r;have hnx:=R.nx (.s t) p;simp only[Ah] at hnx;refine .inr ⟨fun i pb tp e=>?_,?_⟩
       · obtain⟨_,pb',tp',e'⟩:=(jm).2 _ _ _ e;exact hnx i pb' tp' e'
       · refine(r.detop r.sc).tr tr (fun e=>⟨fun _ _ _=>id,fun r=>by simp[Ren.kp];simpa using hl⟩) (fun hb pb tp e=>?_);obtain⟨h,_⟩:=(jm).2 _ _ _ e;exact⟨fun _ _ _=>id,fun h'=>(by rw[h] at h';cases h'),Ren.kp_soft live hb⟩
   |b i=>exact .inl (Bg rfl (fun _ _=>rfl) fun hb pb tp e'=>absurd e' (R.nobor_b i p hb pb tp))
   |h i=>exact .inl (Bg rfl (fun _ _=>rfl) fun hb pb tp e'=>absurd e' (R.nobor_h i p hb pb tp))
 · rcases sl t with h|⟨_,h1,h2⟩
   · simp only[h];exact Bb _
   · simp only[h1,h2];exact vg (R.sh t)
theorem RS.trim(R:RS h0 ω0 ω ρ st us X0)(live:List Nat):RS h0 ω0 ω ρ { st with sl:=Fz live 0 st.sl } us X0:=by
 have sl:∀ t,Aa (Fz live 0 st.sl) t= .fl .undef∨Aa (Fz live 0 st.sl) t=Aa st.sl t:=by
  intro t;rw[uZ,Br];split
  · exact .inr rfl
  · exact .inl rfl
 have:=RS.ren (st':={ st with sl:=Fz live 0 st.sl }) (us':=us) (X':=X0) R Ren.id_ok (fun hd p i q e=>by simp[Ren.id] at e;exact e.1) (fun hd' p=>?_) rfl (fun t=>?_) R.shx (by simp[uF,R.lsl]) R.lbx R.lb R.cb R.ch rfl (fun _=>rfl)
 · rwa [Eg] at this
 · cases hd' with
   |x i=>exact .inl (BA rfl)
   |b i=>exact .inl (BA rfl)
   |h i=>exact .inl (BA rfl)
   | s t=>
     simp only[Ah];rcases sl t with h|h
     · refine .inr ?_;rw[h];exact Dp (AX p)
     · rw[h];exact .inl (BA rfl)
 · simp only;rcases sl t with h|h
   · rw[h];exact Bb _
   · rw[h];exact R.sh t
theorem eC(R:RS h0 ω0 ω ρ st us X0){m:Bool}{o:AOp}{v:PV}(e:Bs m o st=some (v,st1)):Out2 o us h0 ω0 v st1:=by
 have ws:∀ {o:Option PV} {v:PV} {st1:PS},C6 st o=some (v,st1)→o=some v∧st1=st:=by
  intro o v st1 e
  cases o with
  |none=>cases e
  |some x=>simp only[C6,Cc,Ai,Aj] at e;exact⟨by rw[e.1],e.2.symm⟩
 cases o with
 | mv x=>
   simp only[Bs,Ai] at e;have:=zT R m x;rw[e] at this;exact this
 |nilck x=>obtain⟨e,rfl⟩:=ws e;exact xb R e
 | pick c a b=>
   simp only[Bs] at e;split at e
   · rename_i t hc;simp only[Ai] at e;have:=yL R (a:=a) (b:=b) hc;rw[e] at this;exact this
   · cases e
 | allocB i zs=>
   simp only[Bs] at e;split at e
   · rename_i h;cases e;exact wh R h.1 h.2
   · cases e
 |boxB i n x=>exact yu R e
 | allocH zs=>
   simp only[Bs] at e;split at e
   · rename_i h;cases e;exact we R h
   · cases e
 |boxH n x=>exact yr R e
 |build zs ps=>exact yl R e
 | mkSlice w z len=>
   simp only[Bs] at e;split at e
   · rename_i n hl;split at e
     · rename_i h;cases e;exact uv R hl h.1 h.2.1 h.2.2.1 h.2.2.2.1 h.2.2.2.2
     · cases e
   · cases e
 |litSlice w n zs ps=>exact tf R e
 |loadB i n a=>exact w9 R e
 | loadH n a=>
   simp only[Bs] at e
   cases hn:Lf m n (a.pev st.sl) st with
   |none=>rw[hn] at e;exact xa R e
   | some r=>
     rw[hn] at e;obtain⟨e2,rfl⟩:=ws e;rw[e2] at hn;exact w8 R hn
 |storeB i n a x=>exact vI R e
 | storeH n a x=>
   simp only[Bs] at e;split at e
   · rename_i hd p k j o hn;exact wB R hn e
   unfold Qc at e;split at e;rename_i w s emo;split at e
   · rename_i i o hx;exact uW R emo hx e
   · rename_i hd p esa j o hx;split at e
     · rename_i es hg;exact uA R emo hx hg e
     · cases e
   · cases e
 |bin op x y=>obtain⟨e,rfl⟩:=ws e;exact zF R e
 |eqB neg x y=>obtain⟨e,rfl⟩:=ws e;exact zx R e
 | eqN neg x y=>
   simp only[Bs] at e;split at e
   · obtain⟨e,rfl⟩:=ws e;exact y6 R e
   · cases e
 |eqA n neg x y=>obtain⟨e,rfl⟩:=ws e;exact y7 R e
 |un op x=>obtain⟨e,rfl⟩:=ws e;exact zM R e
 |conv k x=>obtain⟨e,rfl⟩:=ws e;exact yD R e
 |bstr x=>obtain⟨e,rfl⟩:=ws e;exact yI R e
 |slice w x lo hi=>obtain⟨e,rfl⟩:=ws e;exact xw R e
 |substr x lo hi=>obtain⟨e,rfl⟩:=ws e;exact vU R e
 |fieldA off a=>obtain⟨e,rfl⟩:=ws e;exact wN R e
 |field off n x=>obtain⟨e,rfl⟩:=ws e;exact xM R e
 |indexA w x i=>obtain⟨e,rfl⟩:=ws e;exact wU R e
 |index x i=>obtain⟨e,rfl⟩:=ws e;exact x4 R e
 |len x=>obtain⟨e,rfl⟩:=ws e;exact zz R e
 |lenT x=>obtain⟨e,rfl⟩:=ws e;exact yS R e
 |app w x y=>exact kR R e
 | appN w x y=>
   simp only[Bs] at e;split at e
   · rename_i hx;obtain⟨u,bx,hp,ω',ρ',h1,h2⟩:=kR R e;refine⟨u,bx,hp,ω',ρ',?_,h2⟩;obtain⟨hd,_,r⟩:=R.ev_one hx (fun _ h=>(by cases h)) (fun _ h=>(by cases h)) (fun _ h=>(by cases h));rw[Yv ?_]
     · exact h1
     · generalize x.ev us.sl=u at r
       cases r with
       |nil=>rfl
       |sl _ _ _ l o n b h1 hk hc hne=>exact absurd rfl (hne rfl (.inl rfl))
   · cases e
 |minI x y=>obtain⟨e,rfl⟩:=ws e;exact yU R e
 |maxI x y=>obtain⟨e,rfl⟩:=ws e;exact yY R e
 | extract x i=>
   simp only[Bs] at e;split at e
   · rename_i t;split at e
     · rename_i vs ht;split at e
       · rename_i hi;exact uG R ht hi e
       · cases e
     · cases e
   · cases e
 |callB kp f args=>cases e
end
def zg(ω:Nat→W):Prop:=∀ l hd p,ω l= .own hd p→∃ i,hd= .h i
def PV.nob(v:PV):Prop:=∀ p hb pb tp,(v.fcell p).q≠some (.bor hb pb tp)
def Dh(f:A8)(p:B3):Prop:=∀ (h:Ac) (ω0:Nat→W) (ρ:Nat→Nat) (args:List PV) (us:List V) (H:List (List PV)) (Q:PV→List (List PV)→Prop) (K:V→Ac→Prop),
 RS h ω0 ω0 ρ ⟨args,[],H⟩ ⟨us,[],h⟩ X0→zg ω0→p args H Q →
 (∀ u h' r H' ω' ρ',Q r H'→RS h ω0 ω' ρ' ⟨[],[],H'⟩ ⟨[],[],h'⟩ (X1 r u)→r.nob→K u h')→f us h K
theorem RC.fzA{h:Ac}{ω ωc:Nat→W}{hd hd':Hd}{p p':List Nat}{v:PV}{u:V}(r:RC h ω (.at hd p) v u)(hp:∀ i o,v≠.ptr i o)(hf:∀ l,ω l= .frz→ωc l= .frz)(ho:v.q=none∨v.q=some .frz∨∀ l a q,ω l= .own a q→ωc l= .frz):RC h ωc (.at hd' p') v.fz u:=by
 have ind:∀ (dm:Prop) {m:Md} {v:PV} {u:V},(∀ hd p,m≠.at hd p)→(dm→∀ l a q,ω l= .own a q→ωc l= .frz)→(m= .fz∨dm)→RC h ω m v u→RC h ωc .fz v u:=by
  intro dm m v u hm hd hdm r;refine r.map (S:=fun m m'=>(m= .fz∨(dm∧∀ hd p,m≠.at hd p))∧m'= .fz) ?_ ?_ ?_ (by rintro m m' ⟨_,rfl⟩ e;cases e) ⟨hdm.imp id (fun h=>⟨h,hm⟩),rfl⟩
  · rintro m m' q k ⟨rfl|⟨hdm,hm⟩,rfl⟩
    · exact⟨.inl rfl,rfl⟩
    · refine⟨.inr ⟨hdm,fun hd p h=>?_⟩,rfl⟩;cases m<;>cases q<;>simp[Md.sub] at h<;>exact absurd rfl (hm _ _)
  · rintro m m' q l o b ⟨rfl|⟨hdm,hm⟩,rfl⟩ hb hc
    · exact⟨hb,hf l hc⟩
    · refine⟨hb,?_⟩;have hd':=hd hdm
      cases m with
      |fz=>exact hf l hc
      |inn a b=>cases q<;>first|exact hf l hc|exact hd' l _ _ hc.1|exact hc.elim
      |un a=>cases q<;>first|exact hf l hc|(rcases hc with⟨p,hc⟩|hc;exact hd' l _ _ hc;exact hf l hc)|exact hc.elim
      |_=>exact absurd rfl (hm _ _)
  · rintro hd p m' ⟨h|⟨_,h⟩,_⟩
    · cases h
    · exact h hd p rfl
 have chkf:∀ (q:Ql) (l o:Nat) (b:Blk),(q= .frz∨∀ l a q,ω l= .own a q→ωc l= .frz)→chk ω (.at hd p) q l o b→ωc l= .frz:=by
  intro q l o b ho hc
  cases q with
  |frz=>exact hf l hc
  |own=>rcases ho with h|h;cases h;exact h l _ _ hc.1
  |ownw=>rcases ho with h|h;cases h;exact h l _ _ hc.1
  |bor=>rcases ho with h|h;cases h;rcases hc.1 with⟨p,hc⟩|hc;exact h l _ _ hc;exact hf l hc
  |pre=>rcases ho with h|h;cases h;exact h l _ _ hc.1
 have sub:∀ (q:Ql) (k:Nat) (v:PV) (u:V),(q= .frz∨∀ l a q,ω l= .own a q→ωc l= .frz)→RC h ω (Md.sub (.at hd p) q k) v u→RC h ωc .fz v u:=by
  intro q k v u ho r;refine ind (∀ l a q,ω l= .own a q→ωc l= .frz) ?_ id ?_ r
  · intro a b;cases q<;>simp[Md.sub]
  · rcases ho with rfl|h
    · exact .inl rfl
    · exact .inr h
 cases r with
 |undef=>exact .undef _ _
 |v _ _ hx=>exact .v _ _ hx
 |nil _ q=>exact .nil _ _
 | sl _ q es l o n b h1 hk hc hne hn hw hle hr=>
   have ho':q= .frz∨∀ l a q,ω l= .own a q→ωc l= .frz:=by
    rcases ho with h|h|h
    · cases q<;>simp[PV.q] at h
    · left;cases q<;>simp[PV.q] at h;rfl
    · exact .inr h
   exact .sl _ _ _ _ _ _ b h1 hk (chkf q l o b ho' hc) (by simp) hn hw hle fun k hk=>sub q k _ _ ho' (hr k hk)
 | ep _ q es j o' l o p2 b h1 hk hqo hc hw hle hr hp'=>
   have ho':q= .frz∨∀ l a q,ω l= .own a q→ωc l= .frz:=by
    rcases ho with h|h|h
    · exfalso;cases q<;>simp[PV.q] at h<;>cases hqo
    · left;cases q<;>simp[PV.q] at h;rfl
    · exact .inr h
   exact .ep _ _ _ _ _ _ _ _ b h1 hk rfl (chkf q l o b ho' hc) hw hle (fun k hk=>sub q k _ _ ho' (hr k hk)) hp'
 |box _ i o=>exact .box _ _ _
 |ptr _ _ i o l hl=>exact absurd rfl (hp i o)
theorem ux{cs:List PV}(h:PV.holdL cs=false)(c:Nat):(Aa cs c).hold=false:=by
 induction cs generalizing c with
 |nil=>rfl
 | cons x r ih=>
   simp only[PV.holdL,Cy] at h
   cases c with
   |zero=>exact h.1
   |succ c=>exact ih h.2 c
theorem kn{v:PV}(h:v.hold=false)(hs:v.sc):v.q=none∨v.q=some .frz:=by
 cases v with
 |sl q es=>cases q<;>simp[PV.hold] at h;exact .inr rfl
 |ep q es j o=>cases q<;>simp[PV.hold] at h;exact .inr rfl
 |agg cs=>exact absurd rfl (hs.1 _)
 |tup cs=>exact absurd rfl (hs.2 _)
 |_=>exact .inl rfl
theorem ic{cs:List PV}(h:IQ cs=true)(c:Nat):(Aa cs c).argc=true∨Aa cs c= .fl .undef:=by
 induction cs generalizing c with
 |nil=>exact .inr rfl
 | cons x r ih=>
   simp only[IQ,Af] at h
   cases c with
   |zero=>exact .inl h.1
   |succ c=>exact ih h.2 c
theorem iW{v:PV}(h:v.argok=true)(p:List Nat):(v.fcell p).sc∧(v.hold=false→(v.fcell p).q=none∨(v.fcell p).q=some .frz)∧(v.hasPtr=false→∀ i o,v.fcell p≠.ptr i o):=by
 have un:(PV.fl .undef).sc∧((PV.fl .undef).q=none∨(PV.fl .undef).q=some .frz)∧∀ i o,PV.fl .undef≠.ptr i o:=⟨KM,.inl rfl,fun _ _ h=>by cases h⟩
 have hpL:∀ (cs:List PV) c,PV.hasPtrL cs=false→(Aa cs c).hasPtr=false:=by
  intro cs
  induction cs with
  |nil=>intro c _;rfl
  | cons x r ih=>
    intro c hc;simp only[PV.hasPtrL,Cy] at hc
    cases c with
    |zero=>exact hc.1
    |succ c=>exact ih c hc.2
 have np:∀ w:PV,w.hasPtr=false→∀ i o,w≠.ptr i o:=by rintro w hw i o rfl;cases hw
 cases v with
 | agg cs=>
   match p with
   | [c] =>
     have hs:(Aa cs c).sc:=by
      rcases ic h c with h1|h1
      · generalize Aa cs c=w at h1
        cases w<;>first|(cases h1;done)|exact⟨fun _ h=>(by cases h),fun _ h=>(by cases h)⟩
      · rw[h1];exact KM
     exact⟨hs,fun hh=>kn (ux hh c) hs,fun hh=>np _ (hpL cs c hh)⟩
   |[]=>exact⟨un.1,fun _=>un.2.1,fun _=>un.2.2⟩
   |_::_::_=>exact⟨un.1,fun _=>un.2.1,fun _=>un.2.2⟩
 |tup vs=>cases h
 | _=>
   match p with
   |[0]=>exact⟨⟨fun _ h=>(by cases h),fun _ h=>(by cases h)⟩,fun hh=>kn hh ⟨fun _ h=>(by cases h),fun _ h=>(by cases h)⟩,fun hh=>np _ hh⟩
   |[]=>exact⟨un.1,fun _=>un.2.1,fun _=>un.2.2⟩
   |(_+1)::_=>exact⟨un.1,fun _=>un.2.1,fun _=>un.2.2⟩
   |0::_::_=>exact⟨un.1,fun _=>un.2.1,fun _=>un.2.2⟩
theorem xk(cs:List PV):(PV.fzL cs).length=cs.length:=by
 induction cs with
 |nil=>rfl
 |cons x r ih=>simp[PV.fzL,ih]
theorem fg{v:PV}{u:V}(h:AZ v u)(hr:v.argok=true):AZ v.fz u:=by
 cases v with
 |agg cs=>obtain⟨ws,h1,h2⟩:=h;exact⟨ws,h1,by rw[xk];exact h2⟩
 |tup vs=>cases hr
 |_=>exact h
theorem ky{H:Ac}{ω:Nat→W}{m:Md}{v:PV}{u:V}(r:RC H ω m v u)(h:v.argc=true):u.cell=true:=by
 cases r with
 |undef=>simp[PV.argc,V.flat] at h
 |v _ _ hx=>cases u<;>first|rfl|simp[V.flat] at hx
 |nil=>rfl
 |sl=>rfl
 |ep=>cases h
 |box=>cases h
 |ptr=>rfl
theorem ll{h:Ac}{ω:Nat→W}{hd:Hd}{v:PV}{u:V}(ho:v.argok=true)(hs:AZ v u)(hr:∀ p,RC h ω (.at hd p) (v.fcell p) (u.fcell p)):u.ok1=true:=by
 have one:∀ {v:PV} {u:V},v.argc=true→v.sc→AZ v u→(∀ p,RC h ω (.at hd p) (v.fcell p) (u.fcell p))→u.ok1=true:=by
  intro v u ha hsc hs hr
  have hu:(∀ us,u≠.agg us)∧∀ us,u≠.tup us:=by
   cases v with
   |agg cs=>exact absurd rfl (hsc.1 _)
   |tup cs=>exact absurd rfl (hsc.2 _)
   |fl x=>cases x<;>first|exact hs|(simp[PV.argc,V.flat] at ha)
   |_=>exact hs
  have r:=hr [0];rw[Hl hsc.1 hsc.2,FL hu.1 hu.2] at r;have:=ky r ha
  cases u<;>first|exact this|exact absurd rfl (hu.1 _)|exact absurd rfl (hu.2 _)
 cases v with
 | agg cs=>
   obtain⟨ws,rfl,hl⟩:=hs;simp only[V.ok1,CR];intro w hw;obtain⟨c,hc,rfl⟩:=JS hw;have r:=hr [c];have r':RC h ω (.at hd [c]) (Aa cs c) (get ws c):=r;rw[CI,AE hc] at r';rcases ic ho c with h1|h1
   · exact ky r' h1
   · exfalso
     have:c<cs.length:=by omega
     have hin:∀ (cs:List PV) c,c<cs.length→IQ cs=true→(Aa cs c).argc=true:=by
      intro cs
      induction cs with
      |nil=>intro c h;simp at h
      | cons x r ih=>
        intro c h h';simp only[IQ,Af] at h'
        cases c with
        |zero=>exact h'.1
        |succ c=>exact ih c (by simpa using h) h'.2
     have:=hin cs c this ho;rw[h1] at this;simp[PV.argc,V.flat] at this
 |tup vs=>cases ho
 |fl x=>exact one (v:=.fl x) ho ⟨fun _ h=>(by cases h),fun _ h=>(by cases h)⟩ hs hr
 |sl q es=>exact one (v:=.sl q es) ho ⟨fun _ h=>(by cases h),fun _ h=>(by cases h)⟩ hs hr
 |ep q es j o=>exact one (v:=.ep q es j o) ho ⟨fun _ h=>(by cases h),fun _ h=>(by cases h)⟩ hs hr
 |box i o=>exact one (v:=.box i o) ho ⟨fun _ h=>(by cases h),fun _ h=>(by cases h)⟩ hs hr
 |ptr i o=>exact one (v:=.ptr i o) ho ⟨fun _ h=>(by cases h),fun _ h=>(by cases h)⟩ hs hr
theorem PW{as:List PV}(h:Iu as=true)(t:Nat)(ht:t<as.length):(Aa as t).argok=true:=by
 induction as generalizing t with
 |nil=>simp at ht
 | cons x r ih=>
   simp only[Iu,Af] at h
   cases t with
   |zero=>exact h.1
   |succ t=>exact ih h.2 t (by simpa using ht)
theorem Qa(args:List Opnd)(s:List PV)(t:Nat):(t<args.length∧∃ x,args[t]?=some x∧Aa (args.map (·.pev s)) t=x.pev s)∨(args.length≤t∧Aa (args.map (·.pev s)) t= .fl .undef):=by
 rcases Bn t args.length with h|h
 · exact .inl ⟨h,args[t],AE h,by rw[DZ,Ew,AE h];rfl⟩
 · exact .inr ⟨h,FX _ _ (by simpa using h)⟩
theorem UP(args:List Opnd)(s:List V)(t:Nat):(∀ x,args[t]?=some x→get (args.map (·.ev s)) t=x.ev s)∧(args.length≤t→get (args.map (·.ev s)) t= .undef):=by
 refine⟨fun x h=>?_,fun h=>?_⟩
 · rw[CI,Ew,h];rfl
 · rw[CI,Bv (by simpa using h)];rfl
theorem TQ(as:List PV)(t:Nat):Aa (as.map PV.fz) t=(Aa as t).fz:=by
 rw[DZ,DZ,Ew];cases as[t]?<;>rfl
section
variable {h0:Ac} {ω0 ω:Nat→W} {ρ ρ':Nat→Nat} {st st' st1:PS} {us us':St} {X X':Cs}
def ωc(dm:Bool)(ω:Nat→W):Nat→W:=fun l=>match ω l with
 |.frz=>.frz
 |.own _ _=>if dm then .frz else .none
 |_=>.none
theorem RS.enter(R:RS h0 ω0 ω ρ st us X0){args:List Opnd}(hok:Iu (args.map (·.pev st.sl))=true)(hnp:(args.map (·.pev st.sl)).any PV.hasPtr=false)(dm:Bool)(hdm:dm=false→(args.map (·.pev st.sl)).all (fun v=>!v.hold)=true) :
 RS us.hp (ωc dm ω) (ωc dm ω) ρ ⟨(args.map (·.pev st.sl)).map PV.fz,[],[]⟩ ⟨args.map (·.ev us.sl),[],us.hp⟩ X0:=by
 have no:∀ l,ωc dm ω l= .frz∨ωc dm ω l= .none:=by
  intro l;unfold ωc;split
  · exact .inl rfl
  · cases dm<;>simp
  · exact .inr rfl
 have noo:∀ l hd p,ωc dm ω l≠.own hd p:=fun l hd p e=>by rcases no l with h|h<;>rw[h] at e<;>cases e
 have nop:∀ l i,ωc dm ω l≠.ptr i:=fun l i e=>by rcases no l with h|h<;>rw[h] at e<;>cases e
 have cellOk:∀ t p,Ci ((Aa ((args.map (·.pev st.sl)).map PV.fz) t).fcell p)∧RC us.hp (ωc dm ω) (.at (.s t) p) ((Aa ((args.map (·.pev st.sl)).map PV.fz) t).fcell p) ((get (args.map (·.ev us.sl)) t).fcell p):=by
  intro t p;rw[TQ];rcases Qa args st.sl t with⟨ht,x,hx,e⟩|⟨_,e⟩
  · have hao:=PW hok t (by simpa using ht);rw[e] at hao ⊢;rw[(UP args us.sl t).1 x hx];obtain⟨hd,_,_,hr⟩:=R.ev x;obtain⟨g1,g2,g3⟩:=iW hao p
    have hp:(x.pev st.sl).hasPtr=false:=by
     have:=List.any_eq_false.1 hnp (x.pev st.sl) (List.mem_map.2 ⟨x,GL hx,rfl⟩);simpa using this
    rcases Uz (x.pev st.sl) p with h|h
    · rw[h];refine⟨fun i pb tp e'=>?_,(hr p).fzA (g3 hp) (fun l e=>by simp[ωc,e]) ?_⟩
      · generalize (x.pev st.sl).fcell p=w at e';cases w<;>simp[PV.fz,PV.q] at e'
      · cases dm with
        |true=>exact .inr (.inr fun l a q e=>by simp[ωc,e])
        | false=>
          have hh:=CR.1 (hdm rfl) (x.pev st.sl) (List.mem_map.2 ⟨x,GL hx,rfl⟩);rcases g2 (by simpa using hh) with h|h
          · exact .inl h
          · exact .inr (.inl h)
    · rw[h];exact⟨fun i pb tp=>by simp[PV.q],.undef _ _⟩
  · rw[e];show Ci ((PV.fl .undef).fcell p)∧RC _ _ _ ((PV.fl .undef).fcell p) _;rw[AX];exact⟨fun i pb tp=>by simp[PV.q],.undef _ _⟩
 refine⟨⟨fun hd p=>?_,fun l l' hd p e=>absurd e (noo l hd p),fun l l' i e=>absurd e (nop l i),fun l e=>?_,fun l e=>?_⟩,fun t=>?_,fun i=>Bb _,by simp,rfl,fun _=>rfl,fun _ _=>rfl,fun _ _=>rfl,fun i hi=>by simp at hi,fun l i e=>absurd e (nop l i),fun l i p e=>absurd e (noo l _ _),
  ⟨AU _,fun l _ _=>⟨rfl,rfl⟩,fun l _ e=>by rw[e];simp,fun l i e=>e⟩,fun hd p i pb tp=>?_⟩
 · cases hd with
   |s t=>exact(cellOk t p).2
   |x i=>rw[HD];exact .undef _ _
   |b i=>simp only[Ah,Ak];unfold Bd;split<;>exact .undef _ _
   |h i=>simp only[Ah,Ak];unfold Bd;split<;>exact .undef _ _
 · rcases e with⟨hd,p,e⟩|⟨i,e⟩
   · exact absurd e (noo l hd p)
   · exact absurd e (nop l i)
 · refine R.core.notNone l fun h=>?_
   unfold ωc at e;rw[h] at e;cases e
 · simp only
   rw[TQ];rcases Qa args st.sl t with⟨ht,x,hx,e⟩|⟨_,e⟩
   · have hao:=PW hok t (by simpa using ht);rw[e] at hao ⊢;rw[(UP args us.sl t).1 x hx];obtain⟨hd,_,hs,_⟩:=R.ev x;exact fg hs hao
   · rw[e];exact Bb _
 · cases hd with
   |s t=>exact(cellOk t p).1 i pb tp
   |x j=>rw[HD];simp[PV.q]
   |b j=>simp only[Ah,Ak];unfold Bd;split<;>simp[PV.q,Aa]
   |h j=>simp only[Ah,Ak];unfold Bd;split<;>simp[PV.q,Aa]
theorem X9(R:RS h0 ω0 ω ρ st us X0){args:List Opnd}(hok:Iu (args.map (·.pev st.sl))=true):(args.map (·.ev us.sl)).all V.ok1=true:=by
 rw[CR];intro u hu;obtain⟨x,hx,rfl⟩:=List.mem_map.1 hu;obtain⟨t,ht,rfl⟩:=JS hx;obtain⟨hd,_,hs,hr⟩:=R.ev args[t];have hao:=PW hok t (by simpa using ht);rcases Qa args st.sl t with⟨_,x',hx',e⟩|⟨h,_⟩
 · rw[e] at hao;rw[AE ht] at hx';cases hx';exact ll hao hs hr
 · omega
theorem sR{es:List (List PV)}(h:PV.deepE es=true)(k:Nat):(Aa es.flatten k).deep=true:=by
 have app:∀ (a b:List PV),PV.deepL a=true→PV.deepL b=true→PV.deepL (a++b)=true:=by
  intro a b
  induction a with
  |nil=>intro _ h;exact h
  |cons x s ih=>intro h1 h2;simp only[PV.deepL,Af,CK] at h1 ⊢;exact⟨h1.1,ih h1.2 h2⟩
 have fl:PV.deepL es.flatten=true:=by
  induction es with
  |nil=>rfl
  | cons e r ih=>
    simp only[PV.deepE,Af] at h;rw[GK];exact app _ _ h.1 (ih h.2)
 have g:∀ (cs:List PV) c,PV.deepL cs=true→(Aa cs c).deep=true:=by
  intro cs
  induction cs with
  |nil=>intro c _;rfl
  | cons x r ih=>
    intro c hc;simp only[PV.deepL,Af] at hc
    cases c with
    |zero=>exact hc.1
    |succ c=>exact ih c hc.2
 exact g _ _ fl
theorem XM{cs:List PV}(h:PV.deepL cs=true)(c:Nat):(Aa cs c).deep=true:=by
 induction cs generalizing c with
 |nil=>rfl
 | cons x r ih=>
   simp only[PV.deepL,Af] at h
   cases c with
   |zero=>exact h.1
   |succ c=>exact ih h.2 c
theorem th{v:PV}(h:v.deep=true)(p:List Nat):(v.fcell p).deep=true:=by
 unfold PV.fcell;split
 · exact XM h _
 · rfl
 · rename_i vs i c;have:=XM (cs:=vs) h i;generalize Aa vs i=w at this
   cases w with
   |agg cs=>exact XM (cs:=cs) this c
   |_=>cases c<;>first|exact this|rfl
 · rfl
 · exact h
 · rfl
theorem RC.deep{h:Ac}{ω ω1:Nat→W}(ho:∀ l a q,ω l= .own a q→ω1 l= .own a q){m:Md}{v:PV}{u:V}(r:RC h ω m v u):(∃ hd p,m= .at hd p∨m= .inn hd p)→v.deep=true→(∀ i o,v≠.ptr i o)→RC h ω1 m v u:=by
 induction r with
 |undef=>intros;exact .undef _ _
 |v _ x hx=>intros;exact .v _ _ hx
 |nil=>intros;exact .nil _ _
 | sl m q es l o n b h1 hk hc hne hn hw hle hr ih=>
   rintro⟨hd,p,hm⟩ hd' hp
   have hq:q= .own∨∃ w,q= .ownw w:=by cases q<;>first|exact .inl rfl|exact .inr ⟨_,rfl⟩|cases hd'
   have hde:PV.deepE es=true:=by rcases hq with rfl|⟨w,rfl⟩<;>exact hd'
   have hsub:∀ k,∃ hd p,m.sub q k= .at hd p∨m.sub q k= .inn hd p:=by
    intro k;rcases hm with rfl|rfl<;>rcases hq with rfl|⟨w,rfl⟩<;>exact⟨hd,p++[k],.inr rfl⟩
   refine .sl _ _ _ _ _ _ b h1 hk ?_ hne hn hw hle fun k hk=>ih k hk (hsub k) (sR hde k) ?_
   · rcases hm with rfl|rfl<;>rcases hq with rfl|⟨w,rfl⟩<;>exact⟨ho l _ _ hc.1,hc.2⟩
   · intro i o e;have r:=hr k hk;rw[e] at r;rcases hm with rfl|rfl<;>rcases hq with rfl|⟨w,rfl⟩<;>(simp only[Md.sub] at r;cases r)
 |ep=>rintro _ hd' _;cases hd'
 |box=>intros;exact .box _ _ _
 |ptr hd p i o l hl=>rintro _ _ hp;exact absurd rfl (hp i o)
theorem Xc(n:Nat)(v:PV)(p:List Nat):(v.shift n).fcell p=(v.fcell p).shift n:=by
 have gL:∀ (cs:List PV) c,Aa (PV.shiftL n cs) c=(Aa cs c).shift n:=by
  intro cs
  induction cs with
  |nil=>intro c;rfl
  | cons x r ih=>intro c;cases c with
    |zero=>rfl
    |succ c=>exact ih c
 cases v with
 | agg cs=>
   match p with
   |[c]=>exact gL cs c
   |[]=>rfl
   |_::_::_=>rfl
 | tup vs=>
   match p with
   | [i,c]=>
     show Aa (Aa (PV.shiftL n vs) i).cells c=(Aa (Aa vs i).cells c).shift n;rw[gL];generalize Aa vs i=w
     cases w with
     |agg cs=>exact gL cs c
     |_=>cases c<;>rfl
   |[]=>rfl
   |[_]=>rfl
   |_::_::_::_=>rfl
 | _=>
   match p with
   |[0]=>rfl
   |[]=>rfl
   |(_+1)::_=>rfl
   |0::_::_=>rfl
theorem fD(n:Nat)(cs:List PV):(PV.shiftL n cs).length=cs.length:=by
 induction cs with
 |nil=>rfl
 |cons x r ih=>simp[PV.shiftL,ih]
theorem eX{n:Nat}{v:PV}{u:V}(h:Shp1 v u):Shp1 (v.shift n) u:=by
 cases v with
 |agg cs=>obtain⟨ws,h1,h2⟩:=h;exact⟨ws,h1,by rw[fD];exact h2⟩
 |tup cs=>exact h.elim
 |_=>exact h
theorem ve{n:Nat}{v:PV}{u:V}(h:AZ v u):AZ (v.shift n) u:=by
 cases v with
 | tup cs=>
   obtain⟨ws,h1,h2,h3⟩:=h;refine⟨ws,h1,by rw[fD];exact h2,fun i=>?_⟩
   have:Aa (PV.shiftL n cs) i=(Aa cs i).shift n:=by
    clear h2 h3
    induction cs generalizing i with
    |nil=>rfl
    | cons x r ih=>cases i with
      |zero=>rfl
      |succ c=>exact ih c
   rw[this];exact eX (h3 i)
 |agg cs=>exact eX (v:=.agg cs) h
 |_=>exact h
theorem xW(n:Nat)(v:PV):(v.shift n).q=v.q∧(v.shift n).qo=v.qo:=by cases v<;>exact⟨rfl,rfl⟩
section
variable {h0:Ac} {ω0 ω ω':Nat→W} {ρ ρ':Nat→Nat} {st:PS} {us:St}
def H4(N n:Nat)(B:Bool)(ω ω':Nat→W):Nat→W:=fun l=>if l<N then (match ω l with
    |.own (.x _) _=>.frz
    |w=>w) else match ω' l with
 |.own (.x 0) p=>.own (.x 0) p
 |.own (.h i) p=>if B then .own (.h (n+i)) p else .frz
 |.own _ _=>.frz
 |.ptr i=>if B then .ptr (n+i) else .none
 |w=>w
def Ren.cm(n:Nat)(B:Bool):Ren:=fun hd p=>match hd with
 |.x 0=>.own (.x 0) p
 |.h i=>if B then .own (.h (n+i)) p else .frz
 |_=>.frz
def Ren.nox:Ren:=fun hd p=>match hd with
 |.x _=>.frz
 |hd=>.own hd p
theorem Ren.nox_still{hd:Hd}(h:∀ i,hd≠.x i):Ren.nox.still hd:=fun p=>by
 cases hd with
 |x i=>exact absurd rfl (h i)
 |_=>rfl
theorem gC{v:PV}{p:List Nat}{i o:Nat}(h:v.fcell p= .ptr i o):v.hasPtr=true:=by
 have gL:∀ (cs:List PV) c,(Aa cs c).hasPtr=true→PV.hasPtrL cs=true:=by
  intro cs
  induction cs with
  |nil=>intro c h;cases h
  | cons x r ih=>
    intro c h;simp only[PV.hasPtrL,BL]
    cases c with
    |zero=>exact .inl h
    |succ c=>exact .inr (ih c h)
 unfold PV.fcell at h;split at h
 · exact gL _ _ (by rw[h];rfl)
 · cases h
 · rename_i vs i c;refine gL vs i ?_;generalize Aa vs i=w at h
   cases w with
   |agg cs=>exact gL cs c (by rw[show (PV.agg cs).cells=cs from rfl] at h;rw[h];rfl)
   |_=>cases c<;>first|rfl|cases h
 · cases h
 · rw[h];rfl
 · cases h
theorem wW{n:Nat}{c:PV}(h:c.sc)(hp:∀ i o,c≠.ptr i o):c.shift n=c:=by
 cases c with
 |agg cs=>exact absurd rfl (h.1 _)
 |tup cs=>exact absurd rfl (h.2 _)
 |ptr i o=>exact absurd rfl (hp i o)
 |_=>rfl
theorem RS.leave(R:RS h0 ω0 ω ρ st us X0){dm:Bool}{H':List (List PV)}{h':Ac}{r:PV}{u:V}(R':RS us.hp (ωc dm ω) ω' ρ' ⟨[],[],H'⟩ ⟨[],[],h'⟩ (X1 r u))(hnob:r.nob)(hdm:dm=true→r.hasPtr=false∧r.deep=true) :
 ∃ ω'' ρ'',RS h0 ω0 ω'' ρ'' { st with hp:=if r.hasPtr then st.hp++H' else st.hp } { us with hp:=h' } (X1 (if r.hasPtr then r.shift st.hp.length else r) u):=by
 have hN:us.hp.length≤h'.length:=R'.fr.len
 generalize hB:r.hasPtr=B at hdm ⊢
 have cfn:∀ l,ωc dm ω l= .frz∨ωc dm ω l= .none:=fun l=>by
  unfold ωc;split
  · exact .inl rfl
  · cases dm<;>simp
  · exact .inr rfl
 have old:∀ l,l<us.hp.length→h'[l]?=us.hp[l]?∧ω' l=ωc dm ω l:=fun l hl=>R'.fr.old l hl (cfn l)
 have oldn:∀ l,l<us.hp.length→ω' l= .frz∨ω' l= .none:=fun l hl=>by rw[(old l hl).2];exact cfn l
 have newo:∀ l hd p,ω' l= .own hd p→¬ l<us.hp.length:=fun l hd p e hl=>by rcases oldn l hl with h|h<;>rw[h] at e<;>cases e
 have newp:∀ l i,ω' l= .ptr i→¬ l<us.hp.length:=fun l i e hl=>by rcases oldn l hl with h|h<;>rw[h] at e<;>cases e
 have cold:∀ l,l<us.hp.length→H4 us.hp.length st.hp.length B ω ω' l=Ag.ren Ren.nox (ω l):=fun l hl=>by
  simp only[H4,Ab hl]
  cases e:ω l with
  |own a q=>cases a<;>rfl
  |_=>rfl
 have cnew:∀ l,¬ l<us.hp.length→H4 us.hp.length st.hp.length B ω ω' l=(match ω' l with|.own hd p=>Ren.cm st.hp.length B hd p|.ptr i=>if B then .ptr (st.hp.length+i) else .none|w=>w):=fun l hl=>by
  simp only[H4,Ad hl]
  cases e:ω' l with
  |own a q=>cases a<;>first|rfl|(rename_i i;cases i<;>rfl)
  |_=>rfl
 have dec:∀ l hd p,H4 us.hp.length st.hp.length B ω ω' l= .own hd p→(l<us.hp.length∧ω l= .own hd p∧∀ i,hd≠.x i)∨(¬ l<us.hp.length∧((hd= .x 0∧ω' l= .own (.x 0) p)∨∃ i,B=true∧hd= .h (st.hp.length+i)∧ω' l= .own (.h i) p)):=by
  intro l hd p e;by_cases hl:l<us.hp.length
  · rw[cold l hl] at e;obtain⟨a,q,e1,e2⟩:=Df e
    cases a with
    |x i=>cases e2
    |_=>cases e2;exact .inl ⟨hl,e1,by simp⟩
  · rw[cnew l hl] at e
    cases e1:ω' l with
    | own a q=>
      rw[e1] at e
      cases a with
      | x i=>cases i with
        |zero=>cases e;exact .inr ⟨hl,.inl ⟨rfl,rfl⟩⟩
        |succ i=>cases e
      | h i=>
        cases hBb:B with
        |true=>rw[hBb] at e;cases e;exact .inr ⟨hl,.inr ⟨i,rfl,rfl,rfl⟩⟩
        |false=>rw[hBb] at e;cases e
      |_=>cases e
    |ptr i=>rw[e1] at e;(try simp only at e);split at e<;>cases e
    |_=>rw[e1] at e;cases e
 have decp:∀ l i,H4 us.hp.length st.hp.length B ω ω' l= .ptr i→(l<us.hp.length∧ω l= .ptr i)∨(¬ l<us.hp.length∧B=true∧∃ j,i=st.hp.length+j∧ω' l= .ptr j):=by
  intro l i e;by_cases hl:l<us.hp.length
  · rw[cold l hl] at e
    cases e1:ω l with
    |own a q=>rw[e1] at e;cases a<;>cases e
    |ptr j=>rw[e1] at e;cases e;exact .inl ⟨hl,rfl⟩
    |_=>rw[e1] at e;cases e
  · rw[cnew l hl] at e
    cases e1:ω' l with
    | own a q=>
      rw[e1] at e
      cases a with
      |x i=>cases i<;>cases e
      |h i=>simp only[Ren.cm] at e;split at e<;>cases e
      |_=>cases e
    | ptr j=>
      rw[e1] at e;(try simp only at e);split at e
      · rename_i hb;cases e;exact .inr ⟨hl,hb,j,rfl,rfl⟩
      · cases e
    |_=>rw[e1] at e;cases e
 have tA:Tr us.hp ω h' (H4 us.hp.length st.hp.length B ω ω') Ren.nox (fun _=>False):=
  ⟨fun l e=>by
   have hl:=R.core.lt l e
   exact⟨by rw[cold l hl,e];rfl,(old l hl).1⟩,fun l hd p e _=>by
   have hl:=R.core.notNone l (by rw[e];simp)
   exact⟨by rw[cold l hl,e];rfl,(old l hl).1⟩,fun l i e=>by
   have hl:=R.core.notNone l (by rw[e];simp)
   rw[cold l hl,e];rfl⟩
 have mine:∀ hd p,(∀ i,hd≠.x i)→RC h' (H4 us.hp.length st.hp.length B ω ω') (.at hd p) (Ah ρ st us X0 hd p).1 (Ah ρ st us X0 hd p).2:=fun hd p hx=>
  (R.core.rc hd p).tr tA (fun _=>⟨fun _ _ _=>id,fun _=>Ren.nox_still hx _⟩) (fun hb pb tp e=>by
   have:Ren.nox.still hb:=Ren.nox_still fun i h=>by subst h;exact R.nx hd p i pb tp e
   exact⟨fun _ _ _=>id,fun _=>this,this.soft⟩)
 have tB : Tr0 h' (fun l=>if l<us.hp.length∧dm=true then .none else ω' l) h' (H4 us.hp.length st.hp.length B ω ω') (Ren.cm st.hp.length B) (fun _=>False):=
  ⟨fun l e=>by
   refine⟨?_,rfl⟩
   try simp only at e
   split at e
   · cases e
   · rename_i hn;by_cases hl:l<us.hp.length
     · have hd:dm=false:=by cases dm;rfl;exact absurd ⟨hl,rfl⟩ hn
       have h2:=(old l hl).2;rw[e,hd] at h2;rw[cold l hl];unfold ωc at h2;split at h2
       · rename_i h3;rw[h3];rfl
       · simp at h2
       · cases h2
     · rw[cnew l hl,e],fun l hd p e _=>by
   refine⟨?_,rfl⟩
   try simp only at e
   split at e
   · cases e
   · rw[cnew l (newo l hd p e),e]⟩
 have theirs:∀ {hd hd2:Hd} {p:List Nat} {c:PV} {x:V},RC h' ω' (.at hd p) c x→(∀ i o,c≠.ptr i o)→(∀ hb pb tp,c.q≠some (.bor hb pb tp))→(dm=true→c.deep=true)→(∀ r,Ren.cm st.hp.length B hd (p++r)= .own hd2 (p++r))→RC h' (H4 us.hp.length st.hp.length B ω ω') (.at hd2 p) c x:=by
  intro hd hd2 p c x rc hp hb hde hf
  have r1:RC h' (fun l=>if l<us.hp.length∧dm=true then .none else ω' l) (.at hd p) c x:=by
   cases hd':dm with
   | true=>
     refine rc.deep (fun l a q e=>?_) ⟨hd,p,.inl rfl⟩ (hde hd') hp;simp only;rw[Ad (fun h=>newo l a q e h.1)];exact e
   |false=>simpa using rc
  exact r1.tr0 tB (fun _=>⟨fun _ _ _=>id,hf⟩) (fun hb' pb tp e=>absurd e (hb hb' pb tp)) (fun l i o e=>absurd e (hp i o))
 have hρ:∀ k,k<st.hp.length→ρ k<us.hp.length:=fun k hk=>by obtain⟨b,h,_⟩:=R.blk hk;exact BV h
 have hVo:∀ k,k<st.hp.length→AV h' (ρ k)=AV us.hp (ρ k):=fun k hk=>by simp only[AV,(old _ (hρ k hk)).1]
 have hpg:∀ k,Ak (if B=true then st.hp++H' else st.hp) k=if k<st.hp.length then Ak st.hp k else if B=true then Ak H' (k-st.hp.length) else []:=by
  intro k
  cases hBb:B with
  | true=>
    simp only[A4];split
    · rename_i h;rw[Ds,Ds,Bm h]
    · rename_i h;rw[Ds,Ds,CJ (by omega)]
  | false=>
    simp only[AP,A3];split
    · rfl
    · rename_i h;rw[Ds,Bv (by omega)];rfl
 have hlenB:(if B=true then st.hp++H' else st.hp).length=if B=true then st.hp.length+H'.length else st.hp.length:=by split<;>simp
 refine⟨H4 us.hp.length st.hp.length B ω ω',fun i=>if i<st.hp.length then ρ i else ρ' (i-st.hp.length),⟨fun hd p=>?_,fun l l' hd p e e'=>?_,fun l l' i e e'=>?_,fun l e=>?_,fun l e=>?_⟩,R.sh,fun i=>?_,R.lsl,R.lbx,R.lb,R.cb,fun i c=>?_,fun i hi=>?_,fun l i e=>?_,fun l i p e=>?_,⟨?_,fun l hl e=>?_,fun l hl e=>?_,fun l i e=>?_⟩,fun hd p i pb tp=>?_⟩
 · cases hd with
   |s t=>exact mine (.s t) p (by simp)
   |b i=>exact mine (.b i) p (by simp)
   | x i =>
     by_cases hi:i=0
     · subst hi;have rc:=R'.core.rc (.x 0) p;have rc':RC h' ω' (.at (.x 0) p) (r.fcell p) (u.fcell p):=rc;show RC h' _ _ ((if B=true then r.shift st.hp.length else r).fcell p) (u.fcell p);by_cases hptr:∃ i o,r.fcell p= .ptr i o
       · obtain⟨i,o,hp⟩:=hptr
         have hBt:B=true:=by rw[← hB];exact gC hp
         rw[Ab hBt,Xc,hp];rw[hp] at rc';generalize u.fcell p=z at rc'
         cases rc' with
         |ptr _ _ _ _ l hl=>exact .ptr _ _ _ _ _ (by rw[cnew l (newp l i hl),hl];simp[hBt])
       · have hnp:∀ i o,r.fcell p≠.ptr i o:=fun i o h=>hptr ⟨i,o,h⟩
         have hsh:(if B=true then r.shift st.hp.length else r).fcell p=r.fcell p:=by
          split
          · rw[Xc];exact wW rc'.sc hnp
          · rfl
         rw[hsh];exact theirs rc' hnp (hnob p) (fun hd=>th (hdm hd).2 p) (fun _=>rfl)
     · simp only[Ah,DQ _ _ i hi,AX];exact .undef _ _
   | h i =>
     simp only[Ah,hpg];by_cases hi:i<st.hp.length
     · simp only[Ab hi,hVo i hi];exact mine (.h i) p (by simp)
     · simp only[Ad hi]
       cases hBb:B with
       |false=>simp only[AP,A3];unfold Bd;split<;>exact .undef _ _
       | true=>
         simp only[A4];have rc:=R'.core.rc (.h (i-st.hp.length)) p;have rc':RC h' ω' (.at (.h (i-st.hp.length)) p) (Bd (Ak H' (i-st.hp.length)) (AV h' (ρ' (i-st.hp.length))) p).1 (Bd (Ak H' (i-st.hp.length)) (AV h' (ρ' (i-st.hp.length))) p).2:=rc;have hlay:=JD (ws:=AV h' (ρ' (i-st.hp.length))) (R'.ch (i-st.hp.length)) p;have:=theirs (hd2:=.h i) rc' (fun a b h=>by rw[h] at hlay;cases hlay) (fun hb pb tp=>Cr hlay hb pb tp) (fun hd=>by have:=(hdm hd).1;rw[hBb] at this;cases this) (fun r=>by simp only[Ren.cm,hBb,A4];rw[show st.hp.length+(i-st.hp.length)=i by omega]);rw[hBb] at this;exact this
 · rcases dec l hd p e with⟨a1,a2,a3⟩|⟨a1,a2⟩
   · rcases dec l' hd p e' with⟨b1,b2,b3⟩|⟨b1,b2⟩
     · exact R.core.inj l l' hd p a2 b2
     · rcases b2 with⟨rfl,_⟩|⟨i,_,rfl,_⟩
       · exact absurd rfl (a3 0)
       · have:=R.bdh l _ p a2;omega
   · rcases dec l' hd p e' with⟨b1,b2,b3⟩|⟨b1,b2⟩
     · rcases a2 with⟨rfl,_⟩|⟨i,_,rfl,_⟩
       · exact absurd rfl (b3 0)
       · have:=R.bdh l' _ p b2;omega
     · rcases a2 with⟨rfl,c⟩|⟨i,_,rfl,c⟩
       · rcases b2 with⟨_,d⟩|⟨j,_,hh,_⟩
         · exact R'.core.inj l l' _ p c d
         · cases hh
       · rcases b2 with⟨hh,_⟩|⟨j,_,hh,d⟩
         · cases hh
         · have:i=j:=by simp at hh;exact hh
           subst this;exact R'.core.inj l l' _ p c d
 · rcases decp l i e with⟨_,a⟩|⟨_,_,j,hj,a⟩
   · rcases decp l' i e' with⟨_,b⟩|⟨_,_,k,hk,b⟩
     · exact R.core.injp l l' i a b
     · have:=R.bdp l i a;omega
   · rcases decp l' i e' with⟨_,b⟩|⟨_,_,k,hk,b⟩
     · have:=R.bdp l' i b;omega
     · have:j=k:=by omega
       subst this;exact R'.core.injp l l' j a b
 · have hh:(l<us.hp.length∧((∃ hd p,ω l= .own hd p)∨∃ i,ω l= .ptr i))∨((∃ hd p,ω' l= .own hd p)∨∃ i,ω' l= .ptr i):=by
    rcases e with⟨hd,p,e⟩|⟨i,e⟩
    · rcases dec l hd p e with⟨a1,a2,a3⟩|⟨a1,⟨_,c⟩|⟨i,_,_,c⟩⟩
      · exact .inl ⟨a1,.inl ⟨_,_,a2⟩⟩
      · exact .inr (.inl ⟨_,_,c⟩)
      · exact .inr (.inl ⟨_,_,c⟩)
    · rcases decp l i e with⟨a1,a⟩|⟨_,_,j,hj,a⟩
      · exact .inl ⟨a1,.inr ⟨_,a⟩⟩
      · exact .inr (.inr ⟨_,a⟩)
   rcases hh with⟨hl,hh⟩|hh
   · obtain⟨b,h1,h2⟩:=R.core.kind l hh;exact⟨b,by rw[← h1];exact(old l hl).1,h2⟩
   · exact R'.core.kind l hh
 · by_cases hl:l<us.hp.length
   · exact HH hl hN
   · rw[cnew l hl] at e
     have:ω' l≠.none:=by intro h;rw[h] at e;cases e
     exact R'.core.notNone l this
 · by_cases hi:i=0
   · subst hi;have:AZ r u:=R'.shx 0;show AZ (if B=true then r.shift st.hp.length else r) u;split
     · exact ve this
     · exact this
   · rw[DQ _ _ i hi];exact Bb _
 · simp only[hpg]
   split
   · exact R.ch i c
   · split
     · exact R'.ch _ c
     · rfl
 · simp only[hlenB] at hi
   simp only[hpg];by_cases hlt:i<st.hp.length
   · simp only[Ab hlt];rw[cold _ (hρ i hlt),(R.hp i hlt).1,hVo i hlt];exact⟨rfl,(R.hp i hlt).2⟩
   · simp only[Ad hlt];split at hi
     · rename_i hBt;obtain⟨a,b⟩:=R'.hp (i-st.hp.length) (by simp only;omega);rw[Ab hBt,cnew _ (newp _ _ a),a];refine⟨by simp[hBt];omega,b⟩
     · omega
 · simp only[hlenB]
   rcases decp l i e with⟨_,a⟩|⟨_,hBt,j,hj,a⟩
   · have:=R.bdp l i a;split<;>omega
   · have:=R'.bdp l j a;simp only at this;rw[Ab hBt];omega
 · simp only[hlenB]
   rcases dec l (.h i) p e with⟨_,a,_⟩|⟨_,⟨hh,_⟩|⟨j,hBt,hh,a⟩⟩
   · have:=R.bdh l i p a;split<;>omega
   · cases hh
   · have:=R'.bdh l j p a;simp only at this;simp at hh;rw[Ab hBt];omega
 · exact Ey R.fr.len hN
 · obtain⟨a,b⟩:=R.fr.old l hl e
   have hlt:l<us.hp.length:=HH hl R.fr.len;refine⟨by rw[← a];exact(old l hlt).1,?_⟩;rw[cold l hlt,b];rcases e with e|e<;>rw[e]<;>rfl
 · have hlt:l<us.hp.length:=HH hl R.fr.len
   rw[cold l hlt] at e;exact(R.fr.ren Ren.nox).new l hl e
 · have e1:=R.fr.ptr l i e
   have hlt:=R.core.notNone l (by rw[e1];simp);rw[cold l hlt,e1];rfl
 · cases hd with
   |s t=>exact R.nx (.s t) p i pb tp
   |b k=>exact R.nx (.b k) p i pb tp
   | x k=>
     by_cases hk:k=0
     · subst hk;show ((if B=true then r.shift st.hp.length else r).fcell p).q≠_;split
       · rw[Xc,(xW _ _).1];exact hnob p _ _ _
       · exact hnob p _ _ _
     · rw[F2 k hk];simp[PV.q]
   | h k=>
     simp only[Ah,hpg];refine Cr (JD (fun c=>?_) p) _ _ _;split
     · exact R.ch k c
     · split
       · exact R'.ch _ c
       · rfl
end
end
section
variable {h0:Ac} {ω0 ω ω':Nat→W} {ρ ρ':Nat→Nat} {st:PS} {us:St}
def ωp(ω:Nat→W):Nat→W:=fun l=>match ω l with
 |.frz=>.frz
 |.own (.h i) p=>.own (.h i) p
 |.ptr i=>.ptr i
 |_=>.none
theorem ωp_frz{l:Nat}(e:ωp ω l= .frz):ω l= .frz:=by
 unfold ωp at e;split at e<;>first|assumption|cases e
theorem ωp_own{l:Nat}{hd:Hd}{p:List Nat}(e:ωp ω l= .own hd p):ω l= .own hd p∧∃ i,hd= .h i:=by
 unfold ωp at e;split at e
 · cases e
 · rename_i i q h;cases e;exact⟨h,i,rfl⟩
 · cases e
 · cases e
theorem ωp_ptr{l i:Nat}(e:ωp ω l= .ptr i):ω l= .ptr i:=by
 unfold ωp at e;split at e
 · cases e
 · cases e
 · rename_i j h;cases e;exact h
 · cases e
theorem vr{v:PV}(h:v.isH=false)(p:List Nat):∀ i pb tp,(v.fcell p).q≠some (.bor (.h i) pb tp):=by
 have one:∀ {w:PV},w.isH=false→∀ i pb tp,w.q≠some (.bor (.h i) pb tp):=by
  intro w hw i pb tp e
  cases w with
  |sl q es=>cases q<;>simp[PV.q] at e<;>(obtain⟨rfl,_⟩:=e;cases hw)
  |ep q es j o=>cases q<;>simp[PV.q] at e<;>(obtain⟨rfl,_⟩:=e;cases hw)
  |_=>simp[PV.q] at e
 have lst:∀ (cs:List PV) c,PV.isHL cs=false→(Aa cs c).isH=false:=by
  intro cs
  induction cs with
  |nil=>intro c _;rfl
  | cons x r ih=>
    intro c hc;simp only[PV.isHL,Cy] at hc
    cases c with
    |zero=>exact hc.1
    |succ c=>exact ih c hc.2
 unfold PV.fcell;split
 · exact one (lst _ _ h)
 · exact one rfl
 · rename_i vs i c;have:=lst vs i h;generalize Aa vs i=w at this
   cases w with
   |agg cs=>exact one (lst cs c this)
   |_=>cases c<;>first|exact one this|exact one rfl
 · exact one rfl
 · exact one h
 · exact one rfl
theorem XO(s:List PV)(n:Nat):Aa (clrH s) n=if (Aa s n).isH then .fl .undef else Aa s n:=by
 induction s generalizing n with
 |nil=>rfl
 | cons x r ih=>cases n with
   |zero=>rfl
   |succ n=>exact ih n
theorem RS.enterP(R:RS h0 ω0 ω ρ st us X0){args:List Opnd}(hok:Iu (args.map (·.pev st.sl))=true)(hh:(args.map (·.pev st.sl)).all (fun v=>!v.hold)=true) :
 RS us.hp (ωp ω) (ωp ω) ρ ⟨(args.map (·.pev st.sl)).map PV.fz,[],st.hp⟩ ⟨args.map (·.ev us.sl),[],us.hp⟩ X0:=by
 have hf:∀ l,ω l= .frz→ωp ω l= .frz:=fun l e=>by simp[ωp,e]
 have cellOk:∀ t p,Ci ((Aa ((args.map (·.pev st.sl)).map PV.fz) t).fcell p)∧RC us.hp (ωp ω) (.at (.s t) p) ((Aa ((args.map (·.pev st.sl)).map PV.fz) t).fcell p) ((get (args.map (·.ev us.sl)) t).fcell p):=by
  intro t p;rw[TQ];rcases Qa args st.sl t with⟨ht,x,hx,e⟩|⟨_,e⟩
  · have hao:=PW hok t (by simpa using ht);rw[e] at hao ⊢;rw[(UP args us.sl t).1 x hx];obtain⟨hd,_,_,hr⟩:=R.ev x;obtain⟨g1,g2,g3⟩:=iW hao p;rcases Uz (x.pev st.sl) p with h|h
    · rw[h];refine⟨fun i pb tp e'=>?_,?_⟩
      · generalize (x.pev st.sl).fcell p=w at e';cases w<;>simp[PV.fz,PV.q] at e'
      · have hq:((x.pev st.sl).fcell p).q=none∨((x.pev st.sl).fcell p).q=some .frz:=by
         have hh:=CR.1 hh (x.pev st.sl) (List.mem_map.2 ⟨x,GL hx,rfl⟩);exact g2 (by simpa using hh)
        by_cases hp:∃ i o,(x.pev st.sl).fcell p= .ptr i o
        · obtain⟨i,o,hp⟩:=hp;have hr:=hr p;rw[hp] at hr ⊢;generalize (x.ev us.sl).fcell p=z at hr
          cases hr with
          |ptr _ _ _ _ l hl=>exact .ptr _ _ _ _ l (by simp[ωp,hl])
        · refine(hr p).fzA (fun i o h=>hp ⟨i,o,h⟩) hf ?_;rcases hq with h|h
          · exact .inl h
          · exact .inr (.inl h)
    · rw[h];exact⟨fun i pb tp=>by simp[PV.q],.undef _ _⟩
  · rw[e];show Ci ((PV.fl .undef).fcell p)∧RC _ _ _ ((PV.fl .undef).fcell p) _;rw[AX];exact⟨fun i pb tp=>by simp[PV.q],.undef _ _⟩
 have t:Tr0 us.hp ω us.hp (ωp ω) Ren.id (fun l=>∃ hd p,ω l= .own hd p∧∀ i,hd≠.h i):=⟨fun l e=>⟨hf l e,rfl⟩,fun l hd p e hT=>by
  refine⟨?_,rfl⟩
  cases hd with
  |h i=>simp[ωp,e,Ren.id]
  |s i=>exact absurd ⟨_,_,e,by simp⟩ hT
  |b i=>exact absurd ⟨_,_,e,by simp⟩ hT
  |x i=>exact absurd ⟨_,_,e,by simp⟩ hT⟩
 have blk:∀ i p,RC us.hp (ωp ω) (.at (.h i) p) (Bd (Ak st.hp i) (AV us.hp (ρ i)) p).1 (Bd (Ak st.hp i) (AV us.hp (ρ i)) p).2:=by
  intro i p;have r:=R.core.rc (.h i) p;have hlay:=JD (ws:=AV us.hp (ρ i)) (R.ch i) p;refine RC.tr0 t (show RC us.hp ω (.at (.h i) p) _ _ from r) (fun _=>⟨fun l q e=>?_,fun _=>rfl⟩) (fun hb pb tp e=>absurd e (Cr hlay hb pb tp)) (fun l j o e _=>by rw[e] at hlay;cases hlay);rintro⟨hd,p',e',hne⟩;rw[e] at e';cases e';exact hne i rfl
 refine⟨⟨fun hd p=>?_,fun l l' hd p e e'=>R.core.inj l l' hd p (ωp_own e).1 (ωp_own e').1,fun l l' i e e'=>R.core.injp l l' i (ωp_ptr e) (ωp_ptr e'),fun l e=>?_,fun l e=>R.core.lt l (ωp_frz e)⟩,fun t=>?_,fun i=>Bb _,by simp,rfl,fun _=>rfl,fun _ _=>rfl,R.ch,fun i hi=>?_,fun l i e=>R.bdp l i (ωp_ptr e),fun l i p e=>R.bdh l i p (ωp_own e).1,
  ⟨AU _,fun l _ _=>⟨rfl,rfl⟩,fun l _ e=>by rw[e];simp,fun l i e=>e⟩,fun hd p i pb tp=>?_⟩
 · cases hd with
   |s t=>exact(cellOk t p).2
   |x i=>rw[HD];exact .undef _ _
   |b i=>simp only[Ah,Ak];unfold Bd;split<;>exact .undef _ _
   |h i=>exact blk i p
 · rcases e with⟨hd,p,e⟩|⟨i,e⟩
   · exact R.core.kind l (.inl ⟨hd,p,(ωp_own e).1⟩)
   · exact R.core.kind l (.inr ⟨i,ωp_ptr e⟩)
 · simp only
   rw[TQ];rcases Qa args st.sl t with⟨ht,x,hx,e⟩|⟨_,e⟩
   · have hao:=PW hok t (by simpa using ht);rw[e] at hao ⊢;rw[(UP args us.sl t).1 x hx];obtain⟨hd,_,hs,_⟩:=R.ev x;exact fg hs hao
   · rw[e];exact Bb _
 · obtain⟨h1,h2⟩:=R.hp i hi
   exact⟨by simp[ωp,h1],h2⟩
 · cases hd with
   |s t=>exact(cellOk t p).1 i pb tp
   |x j=>rw[HD];simp[PV.q]
   |b j=>simp only[Ah,Ak];unfold Bd;split<;>simp[PV.q,Aa]
   |h j=>exact Cr (JD (ws:=AV us.hp (ρ j)) (R.ch j) p) _ _ _
def lab:W→W
 |.own (.x 0) p=>.own (.x 0) p
 |.own (.h i) p=>.own (.h i) p
 |.own _ _=>.frz
 |w=>w
def Ren.lab:Ren:=fun hd p=>match hd with
 |.x 0=>.own (.x 0) p
 |.h i=>.own (.h i) p
 |_=>.frz
def Cv(N:Nat)(ω ω':Nat→W):Nat→W:=fun l=>if l<N then (match ω l with
    |.own (.s t) p=>.own (.s t) p
    |.own (.b t) p=>.own (.b t) p
    |.own (.x _) _=>.frz
    |.own (.h _) _=>lab (ω' l)
    |.ptr _=>lab (ω' l)
    |w=>w) else lab (ω' l)
theorem Yz{w:W}{hd:Hd}{p:List Nat}(e:lab w= .own hd p):w= .own hd p∧(hd= .x 0∨∃ i,hd= .h i):=by
 unfold lab at e;split at e
 · cases e;exact⟨rfl,.inl rfl⟩
 · rename_i i q;cases e;exact⟨rfl,.inr ⟨i,rfl⟩⟩
 · cases e
 · rename_i h1 h2 h3;subst e;exact absurd rfl (h3 _ _)
theorem YO{w:W}{i:Nat}(e:lab w= .ptr i):w= .ptr i:=by
 unfold lab at e
 split at e<;>first|(cases e;done)|exact e
theorem xy{hd:Hd}{p:List Nat}:lab (.own hd p)=Ren.lab hd p:=by
 cases hd with
 |x i=>cases i<;>rfl
 |_=>rfl
theorem RS.leaveP(R:RS h0 ω0 ω ρ st us X0){H':List (List PV)}{h':Ac}{r:PV}{u:V}(R':RS us.hp (ωp ω) ω' ρ' ⟨[],[],H'⟩ ⟨[],[],h'⟩ (X1 r u))(hnob:r.nob)(hnp:r.hasPtr=false)(_hl:st.hp.length≤H'.length) :
 ∃ ω'' ρ'',RS h0 ω0 ω'' ρ'' { st with sl:=clrH st.sl,hp:=H' } { us with hp:=h' } (X1 r u):=by
 have hN:us.hp.length≤h'.length:=R'.fr.len
 have old:∀ l,l<us.hp.length→(ωp ω l= .frz∨ωp ω l= .none)→h'[l]?=us.hp[l]?∧ω' l=ωp ω l:=fun l hl e=>R'.fr.old l hl e
 have lt:∀ l,ω l≠.none→l<us.hp.length:=fun l h=>R.core.notNone l h
 have cF:∀ l,ω l= .frz→Cv us.hp.length ω ω' l= .frz∧h'[l]?=us.hp[l]?:=fun l e=>by
  have hl:=lt l (by rw[e];simp);exact⟨by simp[Cv,hl,e],(old l hl (.inl (by simp[ωp,e]))).1⟩
 have cS:∀ l t p,ω l= .own (.s t) p→Cv us.hp.length ω ω' l= .own (.s t) p∧h'[l]?=us.hp[l]?:=fun l t p e=>by
  have hl:=lt l (by rw[e];simp);exact⟨by simp[Cv,hl,e],(old l hl (.inr (by simp[ωp,e]))).1⟩
 have cB:∀ l t p,ω l= .own (.b t) p→Cv us.hp.length ω ω' l= .own (.b t) p∧h'[l]?=us.hp[l]?:=fun l t p e=>by
  have hl:=lt l (by rw[e];simp);exact⟨by simp[Cv,hl,e],(old l hl (.inr (by simp[ωp,e]))).1⟩
 have cX:∀ l t p,ω l= .own (.x t) p→Cv us.hp.length ω ω' l= .frz∧h'[l]?=us.hp[l]?:=fun l t p e=>by
  have hl:=lt l (by rw[e];simp);exact⟨by simp[Cv,hl,e],(old l hl (.inr (by simp[ωp,e]))).1⟩
 have cP:∀ l i,ω l= .ptr i→Cv us.hp.length ω ω' l= .ptr i:=fun l i e=>by
  have hl:=lt l (by rw[e];simp);have:=R'.fr.ptr l i (by simp[ωp,e]);simp[Cv,hl,e,this,lab]
 have theirs:∀ l,ω' l≠.none→ω' l= .frz∧Cv us.hp.length ω ω' l= .frz∨Cv us.hp.length ω ω' l=lab (ω' l):=fun l hne=>by
  by_cases hl:l<us.hp.length
  · cases e:ω l with
    |none=>exact absurd (by rw[(old l hl (.inr (by simp[ωp,e]))).2];simp[ωp,e]) hne
    |frz=>exact .inl ⟨by rw[(old l hl (.inl (by simp[ωp,e]))).2];simp[ωp,e],(cF l e).1⟩
    |ptr i=>exact .inr (by simp[Cv,hl,e])
    | own hd p=>
      cases hd with
      |h i=>exact .inr (by simp[Cv,hl,e])
      |s i=>exact absurd (by rw[(old l hl (.inr (by simp[ωp,e]))).2];simp[ωp,e]) hne
      |b i=>exact absurd (by rw[(old l hl (.inr (by simp[ωp,e]))).2];simp[ωp,e]) hne
      |x i=>exact absurd (by rw[(old l hl (.inr (by simp[ωp,e]))).2];simp[ωp,e]) hne
  · exact .inr (by simp[Cv,hl])
 have dec:∀ l hd p,Cv us.hp.length ω ω' l= .own hd p→(ω l= .own hd p∧(∃ t,hd= .s t∨hd= .b t))∨(ω' l= .own hd p∧(hd= .x 0∨∃ i,hd= .h i)):=by
  intro l hd p e;unfold Cv at e;split at e
  · split at e
    · rename_i t q h;cases e;exact .inl ⟨h,t,.inl rfl⟩
    · rename_i t q h;cases e;exact .inl ⟨h,t,.inr rfl⟩
    · cases e
    · exact .inr (Yz e)
    · exact .inr (Yz e)
    · rename_i h1 h2 h3 h4 h5;exfalso;rw[e] at h1 h2 h3 h4
      cases hd with
      |s t=>exact h1 _ _ rfl
      |b t=>exact h2 _ _ rfl
      |x t=>exact h3 _ _ rfl
      |h t=>exact h4 _ _ rfl
  · exact .inr (Yz e)
 have decp:∀ l i,Cv us.hp.length ω ω' l= .ptr i→ω' l= .ptr i:=by
  intro l i e;unfold Cv at e;split at e
  · split at e
    · cases e
    · cases e
    · cases e
    · exact YO e
    · exact YO e
    · rename_i h1 h2 h3 h4 h5;exact absurd e (h5 i)
  · exact YO e
 have decf:∀ l,Cv us.hp.length ω ω' l= .frz→l<h'.length:=by
  intro l e;by_cases hl:l<us.hp.length
  · omega
  · have:ω' l≠.none:=by intro h;simp[Cv,hl,h,lab] at e
    exact R'.core.notNone l this
 have tA:Tr0 us.hp ω h' (Cv us.hp.length ω ω') Ren.nox (fun l=>∃ i p,ω l= .own (.h i) p):=
  ⟨cF,fun l hd p e hT=>by
   cases hd with
   |s t=>exact cS l t p e
   |b t=>exact cB l t p e
   |x t=>exact cX l t p e
   |h t=>exact absurd ⟨t,p,e⟩ hT⟩
 have mine:∀ {hd:Hd} {p:List Nat} {v:PV} {z:V},(∃ t,hd= .s t∨hd= .b t)→RC us.hp ω (.at hd p) v z→(∀ i pb tp,v.q≠some (.bor (.x i) pb tp))→(∀ i pb tp,v.q≠some (.bor (.h i) pb tp))→RC h' (Cv us.hp.length ω ω') (.at hd p) v z:=by
  intro hd p v z hhd rc h1 h2;refine rc.tr0 tA (fun _=>⟨fun l q e=>?_,fun q=>?_⟩) (fun hb pb tp e=>⟨fun l q e'=>?_,fun _=>?_,?_⟩) (fun l i o _ e=>cP l i e)
  · rintro⟨i,q',e'⟩;rw[e] at e';cases e';obtain⟨t,h|h⟩:=hhd<;>cases h
  · obtain⟨t,rfl|rfl⟩:=hhd<;>rfl
  · rintro⟨i,q',e2⟩;rw[e'] at e2;cases e2;exact h2 _ _ _ e
  · exact Ren.nox_still fun i h=>by subst h;exact h1 _ _ _ e
  · exact(Ren.nox_still fun i h=>by subst h;exact h1 _ _ _ e).soft
 have tB:Tr0 h' ω' h' (Cv us.hp.length ω ω') Ren.lab (fun _=>False):=
  ⟨fun l e=>by
   refine⟨?_,rfl⟩;rcases theirs l (by rw[e];simp) with⟨_,h⟩|h
   · exact h
   · rw[h,e];rfl,fun l hd p e _=>by
   refine⟨?_,rfl⟩;rcases theirs l (by rw[e];simp) with⟨h,_⟩|h
   · rw[h] at e;cases e
   · rw[h,e,xy]⟩
 have his:∀ {hd:Hd} {p:List Nat} {v:PV} {z:V},(hd= .x 0∨∃ i,hd= .h i)→RC h' ω' (.at hd p) v z→(∀ i o,v≠.ptr i o)→(∀ hb pb tp,v.q≠some (.bor hb pb tp))→RC h' (Cv us.hp.length ω ω') (.at hd p) v z:=by
  intro hd p v z hhd rc hp hb;refine rc.tr0 tB (fun _=>⟨fun _ _ _=>id,fun q=>?_⟩) (fun hb' pb tp e=>absurd e (hb hb' pb tp)) (fun l i o e=>absurd e (hp i o))
  obtain rfl|⟨i,rfl⟩:=hhd<;>rfl
 refine⟨Cv us.hp.length ω ω',ρ',⟨fun hd p=>?_,fun l l' hd p e e'=>?_,fun l l' i e e'=>R'.core.injp l l' i (decp l i e) (decp l' i e'),fun l e=>?_,decf⟩,fun t=>?_,fun i=>?_,by simpa [wE] using R.lsl,R.lbx,R.lb,R.cb,R'.ch,fun i hi=>?_,fun l i e=>R'.bdp l i (decp l i e),fun l i p e=>?_,⟨?_,fun l hl e=>?_,fun l hl e=>?_,fun l i e=>?_⟩,fun hd p i pb tp=>?_⟩
 · cases hd with
   | s t=>
     show RC h' _ _ ((Aa (clrH st.sl) t).fcell p) _;rw[XO];split
     · rw[AX];exact .undef _ _
     · rename_i hh;exact mine ⟨t,.inl rfl⟩ (R.core.rc (.s t) p) (fun i pb tp=>R.nx (.s t) p i pb tp) (vr (by simpa using hh) p)
   | b t=>
     have hlay:=JD (ws:=A6 us.bx t) (R.cb t) p;exact mine ⟨t,.inr rfl⟩ (R.core.rc (.b t) p) (fun i pb tp=>Cr hlay _ _ _) (fun i pb tp=>Cr hlay _ _ _)
   | x i=>
     by_cases hi:i=0
     · subst hi;exact his (.inl rfl) (R'.core.rc (.x 0) p) (fun i o h=>by have:=gC (v:=r) (p:=p) h;rw[hnp] at this;cases this) (fun hb pb tp=>hnob p hb pb tp)
     · simp only[Ah,DQ _ _ i hi,AX];exact .undef _ _
   | h i=>
     have hlay:(Bd (Ak H' i) (AV h' (ρ' i)) p).1.lay=true:=JD (ws:=AV h' (ρ' i)) (R'.ch i) p
     exact his (.inr ⟨i,rfl⟩) (R'.core.rc (.h i) p) (fun a b h=>by
      have h:(Bd (Ak H' i) (AV h' (ρ' i)) p).1= .ptr a b:=h
      rw[h] at hlay;cases hlay) (fun hb pb tp=>Cr hlay hb pb tp)
 · rcases dec l hd p e with⟨a,t,ht⟩|⟨a,ht⟩
   · rcases dec l' hd p e' with⟨b,_⟩|⟨b,hb⟩
     · exact R.core.inj l l' hd p a b
     · rcases ht with rfl|rfl<;>rcases hb with hb|⟨i,hb⟩<;>cases hb
   · rcases dec l' hd p e' with⟨b,t,hb⟩|⟨b,_⟩
     · rcases hb with rfl|rfl<;>rcases ht with ht|⟨i,ht⟩<;>cases ht
     · exact R'.core.inj l l' hd p a b
 · rcases e with⟨hd,p,e⟩|⟨i,e⟩
   · rcases dec l hd p e with⟨a,t,ht⟩|⟨a,_⟩
     · obtain⟨b,h1,h2⟩:=R.core.kind l (.inl ⟨hd,p,a⟩);refine⟨b,?_,h2⟩;rcases ht with rfl|rfl
       · rw[(cS l t p a).2];exact h1
       · rw[(cB l t p a).2];exact h1
     · exact R'.core.kind l (.inl ⟨hd,p,a⟩)
   · exact R'.core.kind l (.inr ⟨i,decp l i e⟩)
 · show AZ (Aa (clrH st.sl) t) (get us.sl t)
   rw[XO];split
   · exact Bb _
   · exact R.sh t
 · by_cases hi:i=0
   · subst hi;exact R'.shx 0
   · rw[DQ _ _ i hi];exact Bb _
 · obtain⟨a,b⟩:=R'.hp i hi
   refine⟨?_,b⟩;rcases theirs (ρ' i) (by rw[a];simp) with⟨h,_⟩|h
   · rw[h] at a;cases a
   · rw[h,a];rfl
 · rcases dec l (.h i) p e with⟨_,t,h|h⟩|⟨a,_⟩
   · cases h
   · cases h
   · exact R'.bdh l i p a
 · exact Ey R.fr.len hN
 · obtain⟨a,b⟩:=R.fr.old l hl e
   have hlt:l<us.hp.length:=HH hl R.fr.len;rcases e with e|e
   · rw[e] at b;obtain⟨c1,c2⟩:=cF l b;exact⟨by rw[c2];exact a,by rw[c1,e]⟩
   · rw[e] at b;refine⟨by rw[(old l hlt (.inr (by simp[ωp,b]))).1];exact a,?_⟩;rw[e];simp[Cv,hlt,b]
 · intro h0e
   obtain⟨a,b⟩:=R.fr.old l hl (.inr h0e);have hlt:l<us.hp.length:=HH hl R.fr.len;rw[h0e] at b;simp[Cv,hlt,b] at e
 · exact cP l i (R.fr.ptr l i e)
 · cases hd with
   | s t=>
     show ((Aa (clrH st.sl) t).fcell p).q≠_;rw[XO];split
     · rw[AX];simp[PV.q]
     · exact R.nx (.s t) p i pb tp
   |b k=>exact R.nx (.b k) p i pb tp
   | x k=>
     by_cases hk:k=0
     · subst hk;exact hnob p _ _ _
     · rw[F2 k hk];simp[PV.q]
   |h k=>exact Cr (JD (ws:=AV h' (ρ' k)) (R'.ch k) p) _ _ _
end
structure Only (S:Nat→Prop) (h h':Ac):Prop where
 len:h'.length=h.length
 off:∀ l,¬ S l→h'[l]?=h[l]?
 blk:∀ (l:Nat) (b:Blk),h[l]?=some b→∃ b':Blk,h'[l]?=some b'∧b'.k=b.k∧b'.w=b.w∧b'.cs.length=b.cs.length
theorem Only.refl(S:Nat→Prop)(h:Ac):Only S h h:=⟨rfl,fun _ _=>rfl,fun _ b hb=>⟨b,hb,rfl,rfl,rfl⟩⟩
theorem Only.mono{S T:Nat→Prop}{h h':Ac}(o:Only S h h')(hs:∀ l,S l→T l):Only T h h':=⟨o.len,fun l hl=>o.off l fun h=>hl (hs l h),o.blk⟩
theorem Only.trans{S:Nat→Prop}{h h' h'':Ac}(o:Only S h h')(o':Only S h' h''):Only S h h'':=
 ⟨o'.len.trans o.len,fun l hl=>(o'.off l hl).trans (o.off l hl),fun l b hb=>by
  obtain⟨b1,h1,k1,w1,c1⟩:=o.blk l b hb
  obtain⟨b2,h2,k2,w2,c2⟩:=o'.blk l b1 h1
  exact⟨b2,h2,k2.trans k1,w2.trans w1,c2.trans c1⟩⟩
theorem vW:X1 (.fl .undef) .undef=X0:=by funext i;unfold X1 X0;split<;>rfl
def PMk.as(M:PMk)(u:V)(m:Int):List V:=match M.vd with|true=>[u]|false=>[u,.int .i64 m]
def PMk.rv(M:PMk)(m:Int):V:=match M.vd with|true=>.undef|false=>.int .i64 m
def VA(f:A8)(M:PMk):Prop:=∀ (h:Ac) (ω:Nat→W) (hd:Hd) (P:List Nat) (b:Nat) (A5:List PV) (us:List V) (u:V) (m:Int) (K:List PV→Int→Prop) (Q:V→Ac→Prop),
 (∀ l l' a q,ω l= .own a q→ω l'= .own a q→l=l')→(if M.agg then u= .agg us else us=[u])→us.length=A5.length →
 (∀ c,c<A5.length→RC h ω (.inn hd (P++[b+c])) (Aa A5 c) (get us c))→M.f A5 m K →
 (∀ news m' h',K news m'→news.length=A5.length→Only (fun l=>∃ c es r,c<A5.length∧Aa A5 c= .sl .own es∧ω l= .own hd (P++(b+c)::r)) h h' →
  (∀ c,c<A5.length→RC h' ω (.inn hd (P++[b+c])) (Aa news c) (get us c))→Q (M.rv m') h')→f (M.as u m) h Q
open Classical in
def mix(S:Nat→Prop)(h h':Ac):Ac:=h.mapIdx fun l b=>if S l then (h'[l]?).getD b else b
theorem xX(S:Nat→Prop)(h h':Ac):(mix S h h').length=h.length:=by simp[mix]
theorem Vv{S:Nat→Prop}{h h':Ac}(hl:h'.length=h.length){l:Nat}(hs:S l):(mix S h h')[l]?=h'[l]?:=by
 unfold mix;rw[ZP];rcases Bn l h.length with hh|hh
 · rw[AE hh,AE (by omega)];simp[hs]
 · rw[Bv hh,Bv (by omega)];rfl
theorem Od{S:Nat→Prop}{h h':Ac}{l:Nat}(hs:¬ S l):(mix S h h')[l]?=h[l]?:=by
 unfold mix;rw[ZP];rcases Bn l h.length with hh|hh
 · rw[AE hh];simp[hs]
 · rw[Bv hh];rfl
theorem RC.own_at{H:Ac}{ω:Nat→W}{hd:Hd}{p:List Nat}{es:List (List PV)}{u:V}(r:RC H ω (.inn hd p) (.sl .own es) u):RC H ω (.at hd p) (.sl .own es) u:=by
 cases r with
 |nil=>exact .nil _ _
 |sl _ _ _ l o n b h1 hk hc hne hn hw hle hr=>exact .sl _ _ _ _ _ _ b h1 hk hc hne hn hw hle hr
section
variable {h0:Ac} {ω0 ω:Nat→W} {ρ ρ':Nat→Nat} {st st' st1:PS} {us us':St} {X X':Cs}
theorem Tr.only{S:Nat→Prop}{h h':Ac}(o:Only S h h')(hS:∀ l,S l→∃ a q,ω l= .own a q):Tr h ω h' ω Ren.id S:=
 ⟨fun l e=>⟨e,o.off l fun hs=>by obtain⟨a,q,e'⟩:=hS l hs;rw[e] at e';cases e'⟩,fun l hd p e hn=>⟨by rw[e];rfl,o.off l hn⟩,fun l i e=>e⟩
theorem RS.mark1 (R:RS h0 ω0 ω ρ st us X0) {hd:Hd} {c:Nat} {es es':List (List PV)} (hg:CV st hd [c]= .sl .own es) {H:Ac} (hO:Only (fun l=>∃ r,ω l= .own hd (c::r)) us.hp H)
 (hr:RC H ω (.at hd [c]) (.sl .own es') (Ah ρ st us X0 hd [c]).2):RS h0 ω0 ω ρ (setK st (.sl .own es') hd [c]) { us with hp:=H } X0:=by
 obtain⟨a1,a2,a3,a4,a5,a6,a7,a8,a9,a10,a11,a12⟩:=LS (X':=X0) (v:=.sl .own es') R hg (.inr ⟨_,_,rfl⟩) rfl
 have t:=Tr.only (ω:=ω) hO (fun l ⟨r,e⟩=>⟨_,_,e⟩)
 have hV:∀ k,k<st.hp.length→AV H (ρ k)=AV us.hp (ρ k):=by
  intro k hk
  have:¬ ∃ r,ω (ρ k)= .own hd (c::r):=by rintro⟨r,e⟩;rw[(R.hp k hk).1] at e;cases e
  simp only[AV,hO.off _ this]
 have hfam:∀ hd' q,Ah ρ (setK st (.sl .own es') hd [c]) { us with hp:=H } X0 hd' q=Ah ρ (setK st (.sl .own es') hd [c]) us X0 hd' q∨(Ah ρ (setK st (.sl .own es') hd [c]) { us with hp:=H } X0 hd' q).1= .fl .undef:=by
  intro hd' q
  cases hd' with
  | h i=>
    rcases Bn i st.hp.length with hi|hi
    · left;simp only[Ah,hV i hi]
    · right
      have hz:Ak (setK st (.sl .own es') hd [c]).hp i=[]:=by rw[Ds,Bv (by rw[a8];exact hi)];rfl
      simp only[Ah,hz];unfold Bd;split<;>rfl
  |_=>left;rfl
 have key:∀ hd' q,Ci (Ah ρ (setK st (.sl .own es') hd [c]) { us with hp:=H } X0 hd' q).1∧RC H ω (.at hd' q) (Ah ρ (setK st (.sl .own es') hd [c]) { us with hp:=H } X0 hd' q).1 (Ah ρ (setK st (.sl .own es') hd [c]) { us with hp:=H } X0 hd' q).2:=by
  intro hd' q;rcases hfam hd' q with hf|hf
  · rw[hf];by_cases hxx:∃ i,hd'= .x i
    · obtain⟨i,rfl⟩:=hxx;exact AJ (HD i q)
    · rcases a1 hd' q (fun i h=>hxx ⟨i,h⟩) with h|⟨rfl,rfl,h3⟩|⟨e1,e2,e3⟩
      · exact AJ h
      · rw[h3];exact⟨fun i pb tp=>by simp[PV.q],hr⟩
      · rw[e1];refine⟨fun i pb tp e=>R.nx hd' q i pb tp e,(R.core.rc hd' q).tr t (fun hown=>⟨fun l r e=>?_,fun r=>rfl⟩) (fun hb pb tp e'=>⟨fun l q' e=>?_,fun _ _=>rfl,Ren.still.soft fun _=>rfl⟩)⟩
        · rintro⟨r',e4⟩;rw[e] at e4;simp only[W.own.injEq] at e4;obtain⟨rfl,e5⟩:=e4;rcases a12 q with h|⟨c',rfl⟩
          · rw[h] at hown;cases hown
          · simp only[CK,Cq,FZ] at e5;exact e2 ⟨rfl,by rw[e5.1]⟩
        · rintro⟨r',e4⟩;rw[e] at e4;cases e4;exact e3 _ pb tp e' rfl
  · exact AJ hf
 refine⟨⟨fun hd' p=>(key hd' p).2,R.core.inj,R.core.injp,fun l e=>?_,fun l e=>by rw[hO.len];exact R.core.lt l e⟩,a2,fun i=>Bb _,by rw[a3];exact R.lsl,by rw[a4];exact R.lbx,fun i=>by rw[a5];exact R.lb i,a6,a7,fun i hi=>?_,fun l i e=>by rw[a8];exact R.bdp l i e,fun l i p e=>by rw[a8];exact R.bdh l i p e,⟨by rw[hO.len];exact R.fr.len,fun l hl e=>?_,R.fr.new,R.fr.ptr⟩,fun hd' p i pb tp=>(key hd' p).1 i pb tp⟩
 · obtain⟨b,h1,h2⟩:=R.core.kind l e
   obtain⟨b',h3,h4,_⟩:=hO.blk l b h1;exact⟨b',h3,by rw[h4,h2]⟩
 · rw[a8] at hi
   simp only[hV i hi,a9];exact R.hp i hi
 · obtain⟨x,y⟩:=R.fr.old l hl e
   refine⟨?_,y⟩;rw[← x];refine hO.off l ?_;rintro⟨r,e'⟩;rw[y] at e';rcases e with e|e<;>rw[e] at e'<;>cases e'
theorem RS.markL{hd:Hd}(hsb:hd.sb=true){Z:Prop}{K:PS→Prop}:∀ (news A5:List PV) (c:Nat) (st:PS) (us:St) (H':Ac) (A:Nat→V),RS h0 ω0 ω ρ st us X0→Ll A5 news →
 Only (fun l=>∃ i es r,i<A5.length∧Aa A5 i= .sl .own es∧ω l= .own hd ((c+i)::r)) us.hp H' →
 (∀ i,i<A5.length→RC H' ω (.inn hd [c+i]) (Aa news i) (A (c+i)))→(∀ i es,i<A5.length→Aa A5 i= .sl .own es→A (c+i)=(Ah ρ st us X0 hd [c+i]).2) →
 ML hd c news K st→(∀ st',RS h0 ω0 ω ρ st' { us with hp:=H' } X0→K st'→Z)→Z
 | [],[],c,st,us,H',A,R,_,hO,_,_,hS,hK=>by
   have:H'=us.hp:=HK fun l=>hO.off l (by rintro⟨i,es,r,hi,_⟩;simp at hi)
   subst this;exact hK st R hS
 |[],_::_,c,st,us,H',A,R,hN,hO,hr,hA,hS,hK=>by unfold Ll at hN;split at hN<;>simp_all
 |_::_,[],c,st,us,H',A,R,hN,hO,hr,hA,hS,hK=>hN.elim
 | n :: ns,o::os,c,st,us,H',A,R,hN,hO,hr,hA,hS,hK=>by
   by_cases ho:∃ es,o= .sl .own es
   · obtain⟨es0,rfl⟩:=ho;obtain⟨⟨es,rfl⟩,hN⟩:=hN;obtain⟨⟨e0,hg⟩,hS⟩:=hS;have hlen:=xX (fun l=>∃ r,ω l= .own hd (c::r)) us.hp H'
     have hO1:Only (fun l=>∃ r,ω l= .own hd (c::r)) us.hp (mix (fun l=>∃ r,ω l= .own hd (c::r)) us.hp H'):=by
      refine⟨hlen,fun l hl=>Od hl,fun l b hb=>?_⟩;by_cases hs:∃ r,ω l= .own hd (c::r)
      · rw[Vv (h:=us.hp) hO.len hs];exact hO.blk l b hb
      · rw[Od hs];exact⟨b,hb,rfl,rfl,rfl⟩
     have hO2:Only (fun l=>∃ i es r,i<os.length∧Aa os i= .sl .own es∧ω l= .own hd ((c+1+i)::r)) (mix (fun l=>∃ r,ω l= .own hd (c::r)) us.hp H') H':=by
      refine⟨by rw[hlen];exact hO.len,fun l hl=>?_,fun l b hb=>?_⟩
      · by_cases hs:∃ r,ω l= .own hd (c::r)
        · rw[Vv (h:=us.hp) hO.len hs]
        · rw[Od hs];refine hO.off l ?_;rintro⟨i,es1,r,hi,e1,e2⟩
          cases i with
          |zero=>exact hs ⟨r,e2⟩
          |succ i=>exact hl ⟨i,es1,r,by simpa using hi,e1,by rw[e2,show c+(i+1)=c+1+i by omega]⟩
      · by_cases hs:∃ r,ω l= .own hd (c::r)
        · rw[Vv (h:=us.hp) hO.len hs] at hb;exact⟨b,hb,rfl,rfl,rfl⟩
        · rw[Od hs] at hb;exact hO.blk l b hb
     have hz:A (c+0)=(Ah ρ st us X0 hd [c+0]).2:=hA 0 es0 (by simp) rfl
     have hrc:RC H' ω (.inn hd [c]) (.sl .own es) (Ah ρ st us X0 hd [c]).2:=by
      have:=hr 0 (by simp);rw[hz] at this;exact this
     have tr:Tr0 H' ω (mix (fun l=>∃ r,ω l= .own hd (c::r)) us.hp H') ω Ren.id (fun l=>¬ ∃ r,ω l= .own hd (c::r)):=by
      refine⟨fun l e=>⟨e,?_⟩,fun l a p e hn=>⟨by rw[e];rfl,?_⟩⟩
      · rw[Od (fun⟨r,e'⟩=>by rw[e] at e';cases e')];exact(hO.off l (fun⟨i,es1,r,_,_,e'⟩=>by rw[e] at e';cases e')).symm
      · exact Vv (h:=us.hp) hO.len (Classical.not_not.1 hn)
     have hrc1:=(hrc.inn0 (hd':=hd) (p':=[c]) tr (fun l r e hn=>hn ⟨r,e⟩) (fun r=>rfl)).own_at;have R1:=R.mark1 hg hO1 hrc1;refine RS.markL hsb ns os (c+1) _ { us with hp:=mix (fun l=>∃ r,ω l= .own hd (c::r)) us.hp H' } H' A R1 hN hO2 (fun i hi=>?_) (fun i es1 hi e1=>?_) hS hK
     · have:=hr (i+1) (by simpa using hi);rw[show c+(i+1)=c+1+i by omega] at this;exact this
     · have:=hA (i+1) es1 (by simpa using hi) e1;rw[show c+(i+1)=c+1+i by omega] at this;rw[this]
       cases hd with
       |s t=>rfl
       |b i=>rfl
       |x i=>cases hsb
       | h j=>
         have hj:j<st.hp.length:=by
          refine Classical.byContradiction fun hn=>?_
          have:Ak st.hp j=[]:=by rw[Ds,Bv (by omega)];rfl
          have hg':Aa (Ak st.hp j) c= .sl .own e0:=hg;rw[this] at hg';cases hg'
         have hp:=(R.hp j hj).1;show get (AV us.hp (ρ j)) _=get (AV (mix _ us.hp H') (ρ j)) _;unfold AV;rw[Od (by rintro⟨r,e⟩;rw[hp] at e;cases e)]
   · have hN':(∀ q es,n≠.sl q es)∧Ll os ns:=by
      unfold Ll at hN;split at hN
      · simp_all
      · rename_i h1 _;cases h1;exact absurd ⟨_,rfl⟩ ho
      · rename_i h1 h2;cases h1;cases h2;exact hN
      · simp_all
     have hS':ML hd (c+1) ns K st:=by
      unfold ML at hS;split at hS
      · simp_all
      · rename_i h1;cases h1;exact absurd rfl (hN'.1 _ _)
      · rename_i h1;cases h1;exact hS
     refine RS.markL hsb ns os (c+1) st us H' A R hN'.2 (hO.mono ?_) (fun i hi=>?_) (fun i es1 hi e1=>?_) hS' hK
     · rintro l ⟨i,es1,r,hi,e1,e2⟩
       cases i with
       |zero=>exact absurd ⟨es1,e1⟩ ho
       |succ i=>exact⟨i,es1,r,by simpa using hi,e1,by rw[e2,show c+(i+1)=c+1+i by omega]⟩
     · have:=hr (i+1) (by simpa using hi);rw[show c+(i+1)=c+1+i by omega] at this;exact this
     · have:=hA (i+1) es1 (by simpa using hi) e1;rw[show c+(i+1)=c+1+i by omega] at this;exact this
theorem Ym{st:PS}{hd:Hd}:∀ {A5 as:List PV} {b:Nat},IU st hd b A5 as→A5.length=as.length∧∀ i,i<A5.length →
 (∃ es es',Aa A5 i= .sl .own es∧CV st hd [b+i]= .sl .own es∧Aa as i= .sl (.bor hd [b+i] true) es'∧es'.length=es.length)∨(Aa as i=Aa A5 i∧(Aa A5 i).flatc=true)
 |[],[],b,_=>⟨rfl,fun i hi=>by simp at hi⟩
 |[],_::_,b,h=>h.elim
 |_::_,[],b,h=>by unfold IU at h;split at h<;>simp_all
 | o :: os,a::as,b,h=>by
   have step:∀ {i:Nat} {P:Nat→Prop},P (b+1+i)→P (b+(i+1)):=fun {i P} h=>by rw[show b+(i+1)=b+1+i by omega];exact h
   cases o with
   | sl q es=>
     obtain⟨rfl,h3,⟨es',rfl,h4⟩,h5⟩:=h
     obtain⟨h6,h7⟩:=Ym h5
     refine⟨by simp[h6],fun i hi=>?_⟩
     cases i with
     |zero=>exact .inl ⟨es,es',rfl,h3,rfl,h4⟩
     |succ i=>exact step (P:=fun n=>(∃ es1 es',Aa os i= .sl .own es1∧CV st hd [n]= .sl .own es1∧Aa as i= .sl (.bor hd [n] true) es'∧es'.length=es1.length)∨(Aa as i=Aa os i∧(Aa os i).flatc=true)) (h7 i (by simpa using hi))
   | _ =>
     all_goals
      obtain⟨h3,h4,h5⟩:=h
      obtain⟨h6,h7⟩:=Ym h5
      refine⟨by simp[h6],fun i hi=>?_⟩
      cases i with
      |zero=>exact .inr ⟨h3,h4⟩
      |succ i=>exact step (P:=fun n=>(∃ es1 es',Aa os i= .sl .own es1∧CV st hd [n]= .sl .own es1∧Aa as i= .sl (.bor hd [n] true) es'∧es'.length=es1.length)∨(Aa as i=Aa os i∧(Aa os i).flatc=true)) (h7 i (by simpa using hi))
theorem wP(R:RS h0 ω0 ω ρ st us X0){hd:Hd}{c:Nat}{es:List (List PV)}(hg:CV st hd [c]= .sl .own es):RC us.hp ω (.at hd [c]) (.sl .own es) (Ah ρ st us X0 hd [c]).2:=by
 obtain⟨_,_,_,_,_,_,_,_,_,_,a11,_⟩:=LS (X':=X0) (v:=.fl .undef) R hg (.inl rfl) rfl;have:=R.core.rc hd [c];rw[a11] at this;exact this
theorem sg{f:A8}{M:PMk}(hs:VA f M)(R:RS h0 ω0 ω ρ st us X0){x y:Opnd}{d:Option Nat}{k:PS→Prop}{K:St→Prop}(hk:∀ st us ω ρ,RS h0 ω0 ω ρ st us X0→k st→K us)(e:Z7 M x y d k st) :
 (((match M.vd with|true=>[x]|false=>[x,y]):List Opnd).map (·.ev us.sl)).all V.ok1=true∧f (((match M.vd with|true=>[x]|false=>[x,y]):List Opnd).map (·.ev us.sl)) us.hp fun r h=>K (St.put { us with hp:=h } d r):=by
 obtain⟨m,hd,b,A5,ey,eag,hsb,hok,hC,hM⟩:=e
 obtain⟨ey1,_⟩:=R.ev_fl ey (by simp)
 have hvd:M.vd=true∨M.vd=false:=by cases M.vd<;>simp
 refine⟨X9 R (by rcases hvd with h|h<;>rw[h]<;>simp only[Cd,Mt,Iu,Af]<;>first|exact⟨hok,trivial⟩|exact⟨hok,by rw[ey];rfl,trivial⟩),?_⟩
 obtain⟨hl,hC⟩:=Ym hC
 obtain⟨hdx,_,hshx,hrx⟩:=R.ev x
 have hcs:(if M.agg then x.ev us.sl= .agg (x.ev us.sl).cells else (x.ev us.sl).cells=[x.ev us.sl])∧(x.ev us.sl).cells.length=(x.pev st.sl).cells.length ∧
  ∀ i,i<A5.length→∃ q,RC us.hp ω (.at hdx q) (Aa (x.pev st.sl).cells i) (get (x.ev us.sl).cells i):=by
  generalize x.pev st.sl=v at eag hok hl hshx hrx
  generalize x.ev us.sl=u at hshx hrx
  cases v with
  | agg cs=>
    obtain⟨ws,rfl,h2⟩:=hshx;refine⟨by rw[← eag];simp[PV.isAgg,V.cells],h2,fun i hi=>⟨[i],?_⟩⟩;exact hrx [i]
  |tup vs=>cases hok
  | _ =>
    all_goals
     have hu:(∀ us,u≠.agg us)∧∀ us,u≠.tup us:=by
      first
      |exact hshx
      |(rename_i z;cases z<;>first|exact hshx|(simp[PV.argok,PV.argc,V.flat] at hok))
     have hc:u.cells=[u]:=by cases u<;>first|rfl|exact absurd rfl (hu.1 _)
     refine⟨by rw[← eag,hc];simp[PV.isAgg],by rw[hc];rfl,fun i hi=>⟨[0],?_⟩⟩
     have hi0:i=0:=by rw[hl] at hi;simp[PV.cells] at hi;exact hi
     subst hi0
     have:=hrx [0]
     rw[FL hu.1 hu.2] at this
     rw[hc]
     exact this
 obtain⟨hag,hcl,hcr⟩:=hcs
 have cells:∀ i,i<A5.length→RC us.hp ω (.inn hd ([]++[b+i])) (Aa A5 i) (get (x.ev us.sl).cells i)∧∀ es,Aa A5 i= .sl .own es→get (x.ev us.sl).cells i=(Ah ρ st us X0 hd [b+i]).2:=by
  intro i hi;obtain⟨q,rc⟩:=hcr i hi;rcases hC i hi with⟨es,es',h1,h2,h3,h4⟩|⟨h1,h2⟩
  · have rk:=wP R h2;rw[h3] at rc;rw[h1]
    have same:get (x.ev us.sl).cells i=(Ah ρ st us X0 hd [b+i]).2:=by
     generalize get (x.ev us.sl).cells i=u1 at rc;generalize (Ah ρ st us X0 hd [b+i]).2=u2 at rk
     cases rc with
     | nil=>
       have:es=[]:=D2 (by rw[← h4];rfl);subst this
       cases rk with
       |nil=>rfl
       |sl _ _ _ l o n b' hb hk hc hne=>exact absurd rfl (hne rfl (.inl rfl))
     | sl _ _ _ l o n b1 hb hk hc hne hn hw hle hr=>
       have hne':es'≠[]:=hne rfl (.inr ⟨_,_,rfl⟩);obtain⟨hl1,rfl⟩:=hc.2 rfl
       cases rk with
       |nil=>exact absurd (D2 h4) hne'
       | sl _ _ _ l' o' n' b2 hb2 hk2 hc2 hne2 hn2 hw2 hle2 hr2=>
         obtain⟨hl2,rfl,_⟩:=hc2;have:=R.core.inj l l' _ _ hl1 hl2;subst this;rw[hn,hn2,h4]
    refine⟨?_,fun _ _=>same⟩;rw[same];exact rk.lay_inn rfl
  · rw[h1] at rc;generalize hz:Aa A5 i=o at rc h2;refine⟨?_,fun es e=>by rw[e] at h2;cases h2⟩
    cases o with
    | fl z=>
      cases rc with
      |undef=>simp[PV.flatc,V.flat] at h2
      |v _ _ hx=>exact .v _ _ hx
    |_=>cases h2
 have ho:=hs us.hp ω hd [] b A5 (x.ev us.sl).cells (x.ev us.sl) m _ (fun r h=>K (St.put { us with hp:=h } d r)) R.core.inj hag (by rw[hcl,hl]) (fun i hi=>(cells i hi).1) hM fun news m' h' hK hnl hO hr=>?_
 · unfold PMk.as at ho
   rcases hvd with h|h<;>rw[h] at ho ⊢
   · exact ho
   · simp only[Cd,Mt,ey1];exact ho
 · obtain⟨hN,hS⟩:=hK
   refine RS.markL hsb news A5 b st us h' (fun j=>get (x.ev us.sl).cells (j-b)) R hN hO (fun i hi=>?_) (fun i es hi e=>?_) hS fun st' R' hk'=>?_
   · rw[show b+i-b=i by omega];exact hr i hi
   · rw[show b+i-b=i by omega];exact(cells i hi).2 es e
   · unfold PMk.rv;rcases hvd with h|h<;>rw[h] at hk' ⊢
     · obtain⟨ω2,R2⟩:=(show RS _ _ _ _ _ _ (X1 (.fl .undef) .undef) by rw[vW];exact R').put d;exact hk _ _ _ _ R2 hk'
     · obtain⟨ω2,R2⟩:=(R'.flat (x:=.int .i64 m') rfl).put d;exact hk _ _ _ _ R2 hk'
end
theorem yo{l l':List PV}(hl:l.length=l'.length)(h:∀ t,Aa l t=Aa l' t):l=l':=by
 apply List.ext_getElem hl;intro t h1 h2;have:=h t;rwa [DZ,DZ,AE h1,AE h2] at this
def cS(d:Nat)(v:PV):PV:=if v.bor (.s d) then .fl .undef else v
def Gf(d:Nat)(v:PV)(l:List PV):List PV:=clr (.s d) (BF l d v)
theorem Yb(d:Nat)(v:PV)(l:List PV):(Gf d v l).length=l.length:=by simp[Gf,FV,FR]
theorem L0{d:Nat}{v:PV}(hv:v.bor (.s d)=false)(l:List PV)(t:Nat):Aa (Gf d v l) t=if t=d∧d<l.length then v else cS d (Aa l t):=by
 unfold Gf cS;rw[FW,DW];split
 · rw[hv];rfl
 · rfl
theorem ir(d:Nat):cS d (.fl .undef)= .fl .undef:=by unfold cS;split<;>rfl
theorem E7(a b:Nat)(v:PV):cS a (cS b v)=cS b (cS a v):=by
 unfold cS;by_cases h1:v.bor (.s a)=true<;>by_cases h2:v.bor (.s b)=true<;>simp[h1,h2,PV.bor]
theorem QZ{d:Nat}{v:PV}(h:v.bor (.s d)=false):cS d v=v:=by unfold cS;rw[h];rfl
def GS(s:Nat)(l:List PV):List PV:=if (Aa l s).own then Gf s (.fl .undef) l else l
theorem Y3(s:Nat)(l:List PV):(GS s l).length=l.length:=by unfold GS;split;exact Yb _ _ _;rfl
theorem UN(s:Nat)(l:List PV)(t:Nat):Aa (GS s l) t=if (Aa l s).own then (if t=s∧s<l.length then .fl .undef else cS s (Aa l t)) else Aa l t:=by
 unfold GS;split
 · rw[L0 rfl]
 · rfl
theorem Xr{v:PV}(h:Bj v.cells=true)(hd:Hd):v.bor hd=false:=by
 have one:∀ {x:PV},x.cell=true→x.bor hd=false:=by
  intro x hx
  cases x with
  |sl q es=>cases q<;>first|rfl|cases hx
  |fl a=>rfl
  |_=>cases hx
 have lst:∀ {cs:List PV},Bj cs=true→PV.borL hd cs=false:=by
  intro cs
  induction cs with
  |nil=>intro _;rfl
  | cons x r ih=>
    intro h;simp only[Bj,Af] at h;simp only[PV.borL,one h.1,ih h.2,Bool.or_false]
 cases v with
 |agg cs=>exact lst h
 |tup vs=>simp[PV.cells,Bj,PV.cell] at h
 |_=>simp only[PV.cells,Bj,Af] at h;exact one h.1
theorem ZW{s:Nat}{st:PS}(h:(Aa st.sl s).bor (.s s)=false):Ag.mvOut (.t s) st=(Aa st.sl s,{ st with sl:=GS s st.sl }):=by
 simp only[Ag.mvOut,EO,GS,Gf];split
 · rw[h];rfl
 · rfl
theorem wq{cs cs':List PV}{off sz s:Nat}{st st':PS}(h:D7 cs [(off,sz,.t s)] st=some (cs',st')) :
 (Aa st.sl s).cells.length=sz∧off+sz≤cs.length∧Bj (Aa st.sl s).cells=true∧cs'=Au cs off (Aa st.sl s).cells∧st'={ st with sl:=GS s st.sl }:=by
 unfold D7 at h
 split at h
 · rename_i hc
   obtain⟨h1,h2,h3⟩:=hc
   have hb:(Aa st.sl s).bor (.s s)=false:=by
    cases hb:(Aa st.sl s).bor (.s s) with
    |false=>rfl
    | true=>
      simp only[Ag.mvOut,EO] at h3;split at h3
      · simp[PV.cells,Bj,PV.cell,V.flat] at h3
      · have:=Xr h3 (.s s);rw[hb] at this;cases this
   rw[ZW hb] at h1 h3 h;simp only[D7,Ai,Aj] at h;exact⟨h1,h2,h3,h.1.symm,h.2.symm⟩
 · cases h
theorem xE{cs:List PV}{off sz s:Nat}{st:PS}(h1:(Aa st.sl s).cells.length=sz)(h2:off+sz≤cs.length)(h3:Bj (Aa st.sl s).cells=true) :
 D7 cs [(off,sz,.t s)] st=some (Au cs off (Aa st.sl s).cells,{ st with sl:=GS s st.sl }):=by
 have hb:=Xr h3 (.s s)
 unfold D7
 rw[ZW hb]
 simp only
 rw[Ab ⟨h1,h2,h3⟩]
 rfl
def Gk(y:Nat)(l:List PV):List PV:=match Aa l y with
 |.sl .own _=>GS y l
 |_=>l
theorem zd{w y:Nat}{st st':PS}{new:List (List PV)}(h:EE w (.t y) st=some (new,st')) :
 st'={ st with sl:=Gk y st.sl }∧Aa st.sl y≠.fl .undef∧∀ st2:PS,Aa st2.sl y=Aa st.sl y→EE w (.t y) st2=some (new,{ st2 with sl:=Gk y st2.sl }):=by
 unfold EE at h
 simp only[Opnd.pev] at h
 have hsrc:∀ (st2:PS) (v:PV),Aa st2.sl y=v→(∀ es,v≠.sl .own es)→Gk y st2.sl=st2.sl:=by
  intro st2 v hv hn;unfold Gk;rw[hv]
  cases v with
  |sl q es=>cases q<;>first|rfl|exact absurd rfl (hn es)
  |_=>rfl
 split at h
 · rename_i s hv
   split at h
   · rename_i hw;simp only[Ai,Aj] at h;obtain⟨rfl,rfl⟩:=h;refine⟨by rw[hsrc _ _ hv (by simp)],by rw[hv];simp,fun st2 h2=>?_⟩;rw[hv] at h2;unfold EE;simp only[Opnd.pev,h2,Ab hw,hsrc _ _ h2 (by simp)]
   · cases h
 · rename_i es hv
   split at h
   · rename_i hw;simp only[Ai,Aj] at h;obtain⟨rfl,rfl⟩:=h;refine⟨by rw[hsrc _ _ hv (by simp)],by rw[hv];simp,fun st2 h2=>?_⟩;rw[hv] at h2;unfold EE;simp only[Opnd.pev,h2,Ab hw,hsrc _ _ h2 (by simp)]
   · cases h
 · rename_i hv
   split at h
   · rename_i hw;simp only[Ai,Aj] at h;obtain⟨rfl,rfl⟩:=h;refine⟨by rw[hsrc _ _ hv (by simp)],by rw[hv];simp,fun st2 h2=>?_⟩;rw[hv] at h2;unfold EE;simp only[Opnd.pev,h2,Ab hw,hsrc _ _ h2 (by simp)]
   · cases h
 · rename_i hv
   split at h
   · rename_i hw;simp only[Ai,Aj] at h;obtain⟨rfl,rfl⟩:=h;refine⟨by rw[hsrc _ _ hv (by simp)],by rw[hv];simp,fun st2 h2=>?_⟩;rw[hv] at h2;unfold EE;simp only[Opnd.pev,h2,Ab hw,hsrc _ _ h2 (by simp)]
   · cases h
 · rename_i es hv
   split at h
   · rename_i hw
     have hm:∀ st2:PS,Aa st2.sl y= .sl .own es→(Ag.mvOut (.t y) st2).2={ st2 with sl:=Gk y st2.sl }:=by
      intro st2 h2;rw[ZW (by rw[h2];rfl)];unfold Gk;rw[h2]
     simp only[Ai,Aj] at h;obtain⟨rfl,rfl⟩:=h;refine⟨hm _ hv,by rw[hv];simp,fun st2 h2=>?_⟩;rw[hv] at h2;unfold EE;simp only[Opnd.pev,h2,Ab hw];rw[hm st2 h2]
   · cases h
 · rename_i hv
   simp only[Ai,Aj] at h;obtain⟨rfl,rfl⟩:=h;refine⟨by rw[hsrc _ _ hv (by simp)],by rw[hv];simp,fun st2 h2=>?_⟩;rw[hv] at h2;unfold EE;simp only[Opnd.pev,h2,hsrc _ _ h2 (by simp)]
 · cases h
theorem iJ(y:Nat)(l:List PV):(Gk y l).length=l.length:=by unfold Gk;split;exact Y3 _ _;rfl
def k9(v:PV):Bool:=match v with
 |.sl .own _=>true
 |_=>false
theorem Yo(y:Nat)(l:List PV)(t:Nat):Aa (Gk y l) t=if k9 (Aa l y) then (if t=y∧y<l.length then .fl .undef else cS y (Aa l t)) else Aa l t:=by
 unfold Gk
 cases hv:Aa l y with
 | sl q es=>
   cases q with
   |own=>simp only;rw[UN,hv];rfl
   |_=>rfl
 |_=>rfl
theorem tJ {p q : POper} (hp:p.canU q=true) {k:PS→Prop} {st:PS} (e:GO p (GO q k) st):GO q (GO p k) st:=by
 unfold POper.canU at hp;split at hp
 · rename_i m w n zs off sz s m' w' y da db hpo hqo hpd hqd hpg hqg;simp only[Af,Qr,GF] at hp;obtain⟨⟨⟨⟨hn,hab⟩,hsb⟩,hya⟩,hsy⟩:=hp;unfold GO at e ⊢;rw[hpg,hpo,hpd,hqg,hqo,hqd] at e ⊢;simp only[Dl] at e ⊢;split at e
   · rename_i va sa hA;split at e
     · rename_i vb sb hB
       simp only[Bs,Ad hn] at hA;split at hA
       · rename_i hz;simp only[BH,Prod.exists,Aj] at hA;obtain⟨cs,sa',hf,rfl,rfl⟩:=hA;obtain⟨f1,f2,f3,rfl,rfl⟩:=wq hf
         simp only[Bs,Opnd.pev,Bo] at hB;split at hB
         · rename_i new s1 hs;obtain⟨rfl,hy0,hsrc⟩:=zd hs;simp only[HP,Opnd.pev,Bo,Ag.mvOut,AD,Br,Cq,Ct] at hB;split at hB
           · rename_i hc;simp only[Ai,Aj] at hB;obtain⟨rfl,rfl⟩:=hB
             have hput:∀ (st:PS) (d:Nat) (es:List (List PV)),st.put (some d) (.sl .own es)={ st with sl:=Gf d (.sl .own es) st.sl }:=fun _ _ _=>rfl
             rw[hput] at hy0 hsrc e;rw[hput] at e;simp only at hy0 hsrc e
             have vs_nb:=fun hd=>Xr f3 hd
             have gy:Aa (Gf da (.sl .own (D1 w n (Au (zs.map Bo) off (Aa st.sl s).cells))) (GS s st.sl)) y=Aa st.sl y:=by
              rw[L0 rfl] at hy0 ⊢;rw[Ad (fun h=>hya h.1)] at hy0 ⊢;rw[UN] at hy0 ⊢;split at hy0
              · rename_i ho;rw[Ab ho];rw[Ad (fun h=>hsy h.1.symm)] at hy0 ⊢;unfold cS at hy0 ⊢;split at hy0
                · exact absurd rfl hy0
                · rename_i h2;rw[Ad h2];split at hy0
                  · exact absurd rfl hy0
                  · rename_i h3;rw[Ad h3]
              · rename_i ho;rw[Ad ho];unfold cS at hy0 ⊢;split at hy0
                · exact absurd rfl hy0
                · rename_i h2;rw[Ad h2]
             have hs2:=hsrc st gy.symm;simp only[Bs,Opnd.pev,Bo,hs2,HP,Ag.mvOut,AD,Br,Cq,Ct];rw[Ab hc];simp only[hput]
             have gs:Aa (Gf db (.sl .own new) (Gk y st.sl)) s=Aa st.sl s:=by
              rw[L0 rfl,Ad (fun h=>hsb h.1),Yo];split
              · rw[Ad (fun h=>hsy h.1),QZ (vs_nb _),QZ (vs_nb _)]
              · rw[QZ (vs_nb _)]
             simp only[Bs,Ad hn,Ab hz];rw[xE (by simp only[gs];exact f1) f2 (by simp only[gs];exact f3)];simp only[Cc,gs,hput]
             have fin:Gf da (.sl .own (D1 w n (Au (zs.map Bo) off (Aa st.sl s).cells))) (GS s (Gf db (.sl .own new) (Gk y st.sl)))=Gf db (.sl .own new) (Gk y (Gf da (.sl .own (D1 w n (Au (zs.map Bo) off (Aa st.sl s).cells))) (GS s st.sl))):=by
              generalize hva:PV.sl .own (D1 w n (Au (zs.map Bo) off (Aa st.sl s).cells))=va;rw[hva] at gy;generalize hvb:PV.sl .own new=vb;rw[hvb] at gs
              have ba:∀ hd,va.bor hd=false:=fun hd=>by rw[← hva];rfl
              have bb:∀ hd,vb.bor hd=false:=fun hd=>by rw[← hvb];rfl
              refine yo (by simp only[Yb,Y3,iJ]) fun t=>?_
              rw[L0 (ba _),UN,gs,L0 (bb _),Yo,L0 (bb _),Yo,gy,L0 (ba _),UN];simp only[Yb,Y3,iJ];generalize (Aa st.sl s).own=os;generalize k9 (Aa st.sl y)=oy;generalize Aa st.sl t=V
              have cva:∀ d,cS d va=va:=fun d=>QZ (ba _)
              have cvb:∀ d,cS d vb=vb:=fun d=>QZ (bb _)
              by_cases hA:t=da∧da<st.sl.length
              · have hB:¬ (t=db∧db<st.sl.length):=fun h=>hab (hA.1.symm.trans h.1)
                have hY:¬ (t=y∧y<st.sl.length):=fun h=>hya (h.1.symm.trans hA.1)
                cases os<;>cases oy<;>simp only[Ab hA,Ad hB,Ad hY,cva,A4,A3,AP]
              · by_cases hB:t=db∧db<st.sl.length
                · have hS:¬ (t=s∧s<st.sl.length):=fun h=>hsb (h.1.symm.trans hB.1)
                  cases os<;>cases oy<;>simp only[Ad hA,Ab hB,Ad hS,cvb,A4,A3,AP]
                · by_cases hS:t=s∧s<st.sl.length
                  · have hY:¬ (t=y∧y<st.sl.length):=fun h=>hsy (hS.1.symm.trans h.1)
                    cases os<;>cases oy<;>simp only[Ad hA,Ad hB,Ab hS,Ad hY,ir,A4,A3,AP]
                    · exact E7 _ _ _
                    · rw[E7 da db,E7 da y]
                  · by_cases hY:t=y∧y<st.sl.length
                    · cases os<;>cases oy<;>simp only[Ad hA,Ad hB,Ad hS,Ab hY,ir,A4,A3,AP]
                      · exact E7 _ _ _
                      · rw[E7 s db,E7 da db]
                    · cases os<;>cases oy<;>simp only[Ad hA,Ad hB,Ad hS,Ad hY,A4,A3,AP]
                      · exact E7 _ _ _
                      · rw[E7 da db,E7 da y]
                      · rw[E7 s db,E7 da db]
                      · rw[E7 s db,E7 da db,E7 s y,E7 da y]
             rw[fin];exact e
           · cases hB
         · cases hB
       · cases hA
     · exact e.elim
   · exact e.elim
 · cases hp
section
variable {h0:Ac} {ω0 ω:Nat→W} {ρ ρ':Nat→Nat} {st st' st1:PS} {us us':St} {X X':Cs}
theorem RS.fzArgs:∀ (args:List Opnd) {ω:Nat→W} {st:PS},RS h0 ω0 ω ρ st us X0→∃ ω',RS h0 ω0 ω' ρ (Ag.fzArgs args st) us X0
 |[],ω,st,R=>⟨ω,R⟩
 | x::r,ω,st,R=>by
   obtain⟨ω1,R1⟩:=R.fz0 x
   obtain⟨ω2,R2⟩:=R1.put none
   exact RS.fzArgs r R2
theorem RS.tup0(R:RS h0 ω0 ω ρ st us X0):RS h0 ω0 ω ρ st us (X1 (.tup []) (.tup [])):=by
 have e:∀ p,(PV.tup []).fcell p= .fl .undef:=by
  intro p
  match p with
  |[]=>rfl
  |[_]=>rfl
  |[i,c]=>cases c<;>rfl
  |_::_::_::_=>rfl
 exact R.handx ⟨[],rfl,rfl,fun i=>by simp[Aa,Shp1]⟩ (fun p=>by rw[e];exact .undef _ _) (fun p i pb tp=>by rw[e];simp[PV.q])
theorem sF{f:A8}{p:B3}(hs:Dh f p)(R:RS h0 ω0 ω ρ st us X0){args:List Opnd}{d:Option Nat}{k:PS→Prop}{K:St→Prop}(hk:∀ st us ω ρ,RS h0 ω0 ω ρ st us X0→k st→K us)(e:VR p args d k st) :
 (args.map (·.ev us.sl)).all V.ok1=true∧f (args.map (·.ev us.sl)) us.hp fun r h=>K (St.put { us with hp:=h } d r):=by
 obtain⟨hok,e⟩:=e
 refine⟨X9 R hok,?_⟩
 split at e
 · obtain⟨hh,e⟩:=e
   refine hs us.hp _ ρ _ _ st.hp _ _ (R.enterP hok hh) (fun l hd p e=>?_) e fun u h' r H' ω' ρ' hQ R' hnob=>?_
   · unfold ωp at e;split at e
     · cases e
     · rename_i i q _;cases e;exact⟨i,rfl⟩
     · cases e
     · cases e
   · obtain⟨hl,hnp,hk'⟩:=hQ;obtain⟨ω'',ρ'',R2⟩:=R.leaveP R' hnob hnp hl;obtain⟨ω3,R3⟩:=R2.put d;exact hk _ _ _ _ R3 hk'
 · rename_i hnp
   have hnp:(args.map (·.pev st.sl)).any PV.hasPtr=false:=by simpa using hnp
   have ent:=R.enter hok hnp (!((args.map (·.pev st.sl)).all fun v=>!v.hold)) (fun h=>by simpa using h)
   refine hs us.hp _ ρ _ _ [] _ _ ent (fun l hd p e=>?_) e fun u h' r H' ω' ρ' hQ R' hnob=>?_
   · exfalso;unfold ωc at e;split at e
     · cases e
     · split at e<;>cases e
     · cases e
   · obtain⟨hc,hk'⟩:=hQ
     obtain⟨ω'',ρ'',R2⟩:=R.leave R' hnob (fun hd=>by
      have:((args.map (·.pev st.sl)).all fun v=>!v.hold)=false:=by simpa using hd
      rw[this] at hc
      simpa using hc)
     obtain⟨ω3,R3⟩:=R2.put d;exact hk _ _ _ _ R3 hk'
theorem rB{f:A8}{p:B3}(hs:Dh f p)(R:RS h0 ω0 ω ρ st us X0){args:List Opnd}{d:Option Nat}{k:PS→Prop}{K:St→Prop}(hk:∀ st us ω ρ,RS h0 ω0 ω ρ st us X0→k st→K us)(e:Zy p args d k st) :
 (args.map (·.ev us.sl)).all V.ok1=true∧VK true f (args.map (·.ev us.sl)) us.hp fun r h=>K (St.put { us with hp:=h } d r):=by
 obtain⟨hnp,hok,e⟩:=e
 refine⟨X9 R hok,_,?_,fun r h' hq=>hq⟩
 rw[Ad (by simp[hnp])] at e
 have ent:=R.enter hok hnp (!((args.map (·.pev st.sl)).all fun v=>!v.hold)) (fun h=>by simpa using h)
 refine hs us.hp _ ρ _ _ [] _ _ ent (fun l hd p e=>?_) e fun u h' r H' ω' ρ' hQ R' hnob=>?_
 · exfalso
   unfold ωc at e;split at e
   · cases e
   · split at e<;>cases e
   · cases e
 · obtain⟨hc,hk'⟩:=hQ
   obtain⟨ω'',ρ'',R2⟩:=R.leave R' hnob (fun hd=>by
    have:((args.map (·.pev st.sl)).all fun v=>!v.hold)=false:=by simpa using hd
    rw[this] at hc
    simpa using hc)
   obtain⟨ω3,R3⟩:=R2.put d;refine⟨fun l hl=>(R'.fr.old l hl ?_).1,hk _ _ _ _ R3 hk'⟩;unfold ωc;split
   · exact .inl rfl
   · split<;>simp
   · exact .inr rfl
inductive Ob where
 |c (f:A8) (p:B3)
 |m (f:A8) (M:PMk)
def Ob.sound:Ob→Prop
 |.c f p=>Dh f p
 |.m f M=>VA f M
def POp.obs:POp→List Ob
 |.a _ _=>[]
 |.aw _ _ _=>[]
 |.call _ f p _=>[.c f p]
 |.callk _ f p _=>[.c f p]
 |.mark f M _ _=>[.m f M]
def Mg:List POper→List Ob
 |[]=>[]
 |o::r=>o.op.obs++Mg r
def PCode.obs:PCode→List Ob
 |.skip=>[]
 |.region ops=>Mg ops
 |.regionU ops=>Mg ops
 |.seq _ a b=>a.obs++b.obs
 |.cond _ a b=>a.obs++b.obs
 |.block _ a=>a.obs
 |.loop _ a=>a.obs
 |.exit _=>[]
 |.ret=>[]
def AllP:List Ob→Prop
 |[]=>True
 |o::r=>o.sound∧AllP r
theorem AllP.app:∀ {a b:List Ob},AllP (a++b)→AllP a∧AllP b
 |[],b,h=>⟨trivial,h⟩
 |_::_,b,⟨h1,h2⟩=>⟨⟨h1,(AllP.app h2).1⟩,(AllP.app h2).2⟩
theorem kG{H:Ac}{w:Nat}{v v':PV}(e:Fj w v=some v'){hd:Hd}{p:List Nat}{u:V}(r:RC H ω (.at hd p) v u):RC H ω (.at hd p) v' u:=by
 unfold Fj at e;split at e
 · rename_i es;split at e
   · rename_i hw;cases e
     cases r with
     |nil=>exact .nil _ _
     | sl _ _ _ l o n b h1 hk hc hne hn hw' hle hr=>
       obtain⟨e0,he0⟩:=Mu _ (hne rfl (.inl rfl))
       have hbw:b.w=w:=by rw[← hw' e0 he0];exact(JI w es).1 hw e0 he0
       exact .sl _ _ _ _ _ _ b h1 hk ⟨hc.1,hc.2.1,hc.2.2,hbw⟩ (fun _ h=>by simp at h) hn hw' hle hr
   · cases e
 · split at e
   · rename_i hw;subst hw;cases e;exact r
   · cases e
 · cases e
theorem kr{w:Nat}{v v':PV}(e:Fj w v=some v'):(∃ q es,v= .sl q es)∧∃ w es,v'= .sl (.ownw w) es:=by
 unfold Fj at e;split at e
 · split at e
   · cases e;exact⟨⟨_,_,rfl⟩,⟨_,_,rfl⟩⟩
   · cases e
 · split at e
   · cases e;exact⟨⟨_,_,rfl⟩,⟨_,_,rfl⟩⟩
   · cases e
 · cases e
theorem kA{H:Ac}:∀ (ws:List (Nat×Nat)) {l l':List PV},MP ws l=some l'→l'.length=l.length∧(∀ hd c u,RC H ω (.at hd [c]) (Aa l c) u→RC H ω (.at hd [c]) (Aa l' c) u)∧∀ c,(∀ i pb tp,(Aa l c).q≠some (.bor (.x i) pb tp))→∀ i pb tp,(Aa l' c).q≠some (.bor (.x i) pb tp)
 |[],l,l',e=>by cases e;exact⟨rfl,fun _ _ _ h=>h,fun _ h=>h⟩
 | (c0,w)::r,l,l',e=>by
   unfold MP at e
   split at e
   · rename_i v hv
     obtain⟨h1,h2,h3⟩:=kA r e
     refine⟨by rw[h1,FR],fun hd c u h=>h2 hd c u ?_,fun c h=>h3 c ?_⟩
     · rw[DW];split
       · rename_i hc;rw[hc.1] at h;rw[hc.1];exact kG hv h
       · exact h
     · rw[DW];split
       · obtain⟨_,w,es,e2⟩:=kr hv
         rw[e2];intro i pb tp;simp[PV.q]
       · exact h
   · cases e
theorem RS.wk{v v':PV}{u:V}(R:RS h0 ω0 ω ρ st us (X1 v u)){ws:List (Nat×Nat)}(e:El ws v=some v'):∃ ω',RS h0 ω0 ω' ρ st us (X1 v' u):=by
 have hs:AZ v u:=R.shx 0
 have hr:∀ p,RC us.hp ω (.at (.x 0) p) (v.fcell p) (u.fcell p):=fun p=>R.core.rc (.x 0) p
 have hx:∀ p i pb tp,(v.fcell p).q≠some (.bor (.x i) pb tp):=fun p i pb tp=>R.nx (.x 0) p i pb tp
 have key:AZ v' u∧(∀ p,RC us.hp ω (.at (.x 0) p) (v'.fcell p) (u.fcell p))∧∀ p,Ci (v'.fcell p):=by
  have one:∀ {w:Nat},Fj w v=some v'→AZ v' u∧(∀ p,RC us.hp ω (.at (.x 0) p) (v'.fcell p) (u.fcell p))∧∀ p,Ci (v'.fcell p):=by
   intro w e;obtain⟨⟨q,es,e1⟩,w2,es2,e2⟩:=kr e;have h0:=hr [0];have hs':=hs;subst e1;have hsc:(∀ us,u≠.agg us)∧∀ us,u≠.tup us:=hs';have h0:RC us.hp ω (.at (.x 0) [0]) (.sl q es) (u.fcell [0]):=h0;have h1:=kG e h0;subst e2;refine⟨hsc,fun p=>?_,fun p=>?_⟩
   · match p with
     |[0]=>exact h1
     |[]=>exact .undef _ _
     |(_+1)::_=>exact .undef _ _
     |0::_::_=>exact .undef _ _
   · intro i pb tp
     match p with
     |[0]=>simp[PV.fcell,PV.q]
     |[]=>simp[PV.fcell,PV.q]
     |(_+1)::_=>simp[PV.fcell,PV.q]
     |0::_::_=>simp[PV.fcell,PV.q]
  cases v with
  | agg cs=>
    simp only[El,BH] at e;obtain⟨l',e,rfl⟩:=e;obtain⟨us',h1,h2⟩:=hs;subst h1;obtain⟨g1,g2,g3⟩:=kA (H:=us.hp) (ω:=ω) ws e;refine⟨⟨us',rfl,by rw[h2,g1]⟩,fun p=>?_,fun p=>?_⟩
    · match p with
      |[c]=>exact g2 _ c _ (hr [c])
      |[]=>exact .undef _ _
      |_::_::_=>exact .undef _ _
    · match p with
      |[c]=>exact g3 c (hx [c])
      |[]=>intro i pb tp;simp[PV.fcell,PV.q]
      |_::_::_=>intro i pb tp;simp[PV.fcell,PV.q]
  |tup vs=>simp[El] at e
  |fl x=>simp only[El] at e;split at e<;>first|exact one e|cases e
  |sl q es=>simp only[El] at e;split at e<;>first|exact one e|cases e
  |ep q es j o=>simp only[El] at e;split at e<;>first|exact one e|cases e
  |box i o=>simp only[El] at e;split at e<;>first|exact one e|cases e
  |ptr i o=>simp only[El] at e;split at e<;>first|exact one e|cases e
 refine⟨ω,?_⟩;have:=RS.ren (st':=st) (us':=us) (X':=X1 v' u) R Ren.id_ok (fun hd p i q e=>by simp[Ren.id] at e;exact e.1) (fun hd' p=>?_) rfl R.sh (fun i=>?_) R.lsl R.lbx R.lb R.cb R.ch rfl (fun _=>rfl)
 · rwa [Eg] at this
 · cases hd' with
   | x i=>
     by_cases hi:i=0
     · subst hi;refine .inr ?_;rw[Eg];exact⟨key.2.2 p,key.2.1 p⟩
     · exact .inl (BA (by simp[Ah,X1,hi]))
   |s t=>exact .inl (BA rfl)
   |b t=>exact .inl (BA rfl)
   |h t=>exact .inl (BA rfl)
 · by_cases hi:i=0
   · subst hi;exact key.1
   · rw[DQ _ _ i hi];exact Bb _
theorem gp(R:RS h0 ω0 ω ρ st us X0){o:POp}(ho:AllP o.obs){d:Option Nat}{k:PS→Prop}{K:St→Prop}(hk:∀ st us ω ρ,RS h0 ω0 ω ρ st us X0→k st→K us)(e:Dl o d k st):Bf o.er d K us:=by
 cases o with
 | a m o=>
   simp only[Dl] at e
   cases hs:Bs m o st with
   |none=>rw[hs] at e;exact e.elim
   | some r=>
     obtain⟨v,s1⟩:=r;rw[hs] at e;obtain⟨u,bx,hp,ω',ρ',h1,h2⟩:=eC R hs;obtain⟨ω2,h3⟩:=h2.put d;have:=hk _ _ _ _ h3 e;simp only[POp.er]
     cases o<;>first|(simp only[Bf,h1];exact this)|(simp[Ae] at h1)
 | aw ws m o=>
   simp only[Dl] at e
   cases hs:Bs m o st with
   |none=>rw[hs] at e;exact e.elim
   | some r=>
     obtain⟨v,s1⟩:=r;rw[hs] at e;simp only at e
     cases hw:El ws v with
     |none=>rw[hw] at e;exact e.elim
     | some v'=>
       rw[hw] at e;obtain⟨u,bx,hp,ω',ρ',h1,h2⟩:=eC R hs;obtain⟨ω1,h2⟩:=h2.wk hw;obtain⟨ω2,h3⟩:=h2.put d;have:=hk _ _ _ _ h3 e;simp only[POp.er]
       cases o<;>first|(simp only[Bf,h1];exact this)|(simp[Ae] at h1)
 | call m f p args=>
   simp only[Dl] at e;simp only[POp.er,Bf]
   have hR:∃ ω',RS h0 ω0 ω' ρ (if m then Ag.fzArgs args st else st) us X0:=by
    cases m with
    |true=>exact RS.fzArgs args R
    |false=>exact⟨ω,R⟩
   obtain⟨ω1,R1⟩:=hR;exact sF ho.1 R1 hk e
 | callk m f p args=>
   simp only[Dl] at e;simp only[POp.er,Bf]
   have hR:∃ ω',RS h0 ω0 ω' ρ (if m then Ag.fzArgs args st else st) us X0:=by
    cases m with
    |true=>exact RS.fzArgs args R
    |false=>exact⟨ω,R⟩
   obtain⟨ω1,R1⟩:=hR;exact rB ho.1 R1 hk e
 | mark f M x y=>
   simp only[Dl] at e;simp only[POp.er,Bf];exact sg ho.1 R hk e
theorem T4:∀ (ops:List POper) {ω:Nat→W} {ρ:Nat→Nat} {st:PS} {us:St},AllP (Mg ops)→RS h0 ω0 ω ρ st us X0→∀ {k:PS→Prop} {K:St→Prop},(∀ st us ω ρ,RS h0 ω0 ω ρ st us X0→k st→K us)→IW ops k st→CM (ops.map POper.er) K us
 |[],ω,ρ,st,us,_,R,k,K,hk,e=>hk _ _ _ _ R e
 | o :: r,ω,ρ,st,us,ho,R,k,K,hk,e=>by
   obtain⟨ho1,ho2⟩:=ho.app
   have rest:∀ st us ω ρ,RS h0 ω0 ω ρ st us X0→IW r k st→CM (r.map POper.er) K us:=fun st us ω ρ R e=>T4 r ho2 R hk e
   simp only[Cd,CM,IW] at e ⊢
   unfold GO at e
   unfold Cf
   simp only[POper.er]
   cases hg:o.guard with
   |none=>rw[hg] at e;exact gp R ho1 rest e
   | some g=>
     obtain⟨g,want⟩:=g
     rw[hg] at e
     simp only at e ⊢
     have skip:IW r k (st.put o.dst (.tup []))→CM (r.map POper.er) K (us.put o.dst (.tup [])):=fun e=>by
      obtain⟨ω2,R2⟩:=R.tup0.put o.dst
      exact rest _ _ _ _ R2 e
     split at e
     · rename_i b hb
       have:=(R.ev_fl (x:=.t g) hb (by simp)).1
       simp only[Opnd.ev] at this
       rw[this]
       simp only
       split at e
       · rename_i hbw;rw[Ab hbw];exact gp R ho1 rest e
       · rename_i hbw;rw[Ad hbw];exact skip e
     · rename_i hb
       obtain⟨ws,h1,h2,_⟩:=R.ev_tup hb
       have:ws=[]:=D2 (by simpa using h2)
       subst this
       rw[h1];exact skip e
     · exact e.elim
theorem ew{n:PS→Prop}{N:St→Prop}{k:Fy}{K:Fi}(hn:∀ st us ω ρ,RS h0 ω0 ω ρ st us X0→n st→N us)(hk:∀ e st us ω ρ,RS h0 ω0 ω ρ st us X0→k e st→K e us) :
 ∀ e st us ω ρ,RS h0 ω0 ω ρ st us X0→ZU n k e st→MJ N K e us:=by
 intro e st us ω ρ R h
 cases e with
 |normal=>exact hn _ _ _ _ R h
 |exit i=>exact hk _ _ _ _ _ R h
 |ret=>exact hk _ _ _ _ _ R h
theorem sH{p:POper}(hp:p.plain=true){K K':PS→Prop}(h:∀ st,K st→K' st){st:PS}(e:GO p K st):GO p K' st:=by
 have key:∀ {st:PS},Dl p.op p.dst K st→Dl p.op p.dst K' st:=by
  intro st;unfold POper.plain at hp;split at hp
  · rename_i m o ho;rw[ho];simp only[Dl];split
    · exact h _
    · exact id
  · rename_i ws m o ho;rw[ho];simp only[Dl];split
    · split
      · exact h _
      · exact id
    · exact id
  · cases hp
 unfold GO at *;split at e
 · exact key e
 · split at e
   · split at e
     · rename_i hw;rw[Ab hw];exact key e
     · rename_i hw;rw[Ad hw];exact h _ e
   · exact h _ e
   · exact e.elim
theorem AllP.cat:∀ {a b:List Ob},AllP a→AllP b→AllP (a++b)
 |[],_,_,h=>h
 |_::_,_,h,h'=>⟨h.1,AllP.cat h.2 h'⟩
theorem vM{p q:POper}(h:p.canU q=true):p.op.obs=[]∧q.op.obs=[]:=by
 unfold POper.canU at h;split at h
 · rename_i h1 h2 _ _ _ _;rw[h1,h2];exact⟨rfl,rfl⟩
 · cases h
theorem iS:∀ {ops:List POper},Q4 ops=true→AllP (Mg ops)→∀ {l2:List AOper},MB (ops.map POper.er)=some l2→∃ ops2,ops2.map POper.er=l2∧AllP (Mg ops2)∧∀ st (k:PS→Prop),IW ops k st→IW ops2 k st
 |[],_,_,_,h=>by cases h
 |[_],_,_,_,h=>by cases h
 | p :: q::r,hp,ho,l2,h=>by
   unfold Q4 at hp
   simp only[Cd] at h
   unfold MB at h
   split at hp
   · rename_i hu
     rw[Ab hu] at h
     cases h
     refine⟨q::p::r,rfl,?_,fun st k e=>tJ hp e⟩
     obtain⟨h1,h2⟩:=vM hp
     simp only[Mg,h1,h2,Cq] at ho ⊢
     exact ho
   · rename_i hu
     rw[Ad hu] at h
     rw[Af] at hp
     simp only[BH] at h
     obtain⟨l',h1,rfl⟩:=h
     have ho':=ho.app
     obtain⟨o2,rfl,m1,m2⟩:=iS (ops:=q::r) hp.2 ho'.2 h1
     exact⟨p::o2,rfl,AllP.cat ho'.1 m1,fun st k e=>sH hp.1 (fun st' e'=>m2 st' k e') e⟩
theorem LV:∀ (c:PCode),AllP c.obs→∀ {k:Fy} {K:Fi},(∀ e st us ω ρ,RS h0 ω0 ω ρ st us X0→k e st→K e us)→∀ {st:PS} {us:St} {ω:Nat→W} {ρ:Nat→Nat},RS h0 ω0 ω ρ st us X0→Gp c k st→D8 c.er K us
 |.skip,_,k,K,hk,st,us,ω,ρ,R,e=>hk _ _ _ _ _ R e
 |.region ops,ho,k,K,hk,st,us,ω,ρ,R,e=>T4 ops ho R (fun st us ω ρ R e=>hk .normal _ _ _ _ R e) e
 | .regionU ops,ho,k,K,hk,st,us,ω,ρ,R,e=>by
   refine⟨T4 ops ho R (fun st us ω ρ R e=>hk .normal _ _ _ _ R e) e.2,fun l2 h2=>?_⟩;obtain⟨o2,rfl,m1,m2⟩:=iS e.1 ho h2;exact T4 o2 m1 R (fun st us ω ρ R e=>hk .normal _ _ _ _ R e) (m2 _ _ e.2)
 | .seq l a b,ho,k,K,hk,st,us,ω,ρ,R,e=>by
   obtain⟨h1,h2⟩:=ho.app;exact LV a h1 (ew (fun st us ω ρ R e=>LV b h2 hk (R.trim l) e) hk) R e
 | .cond c a b,ho,k,K,hk,st,us,ω,ρ,R,e=>by
   obtain⟨h1,h2⟩:=ho.app;simp only[Gp] at e;simp only[PCode.er,D8];split at e
   · rename_i t hc;rw[(R.ev_fl hc (by simp)).1];simp only;split at e
     · rename_i ht;rw[Ab ht];exact LV a h1 hk R e
     · rename_i ht;rw[Ad ht];exact LV b h2 hk R e
   · exact e.elim
 | .block i a,ho,k,K,hk,st,us,ω,ρ,R,e=>by
   refine LV a ho (fun e st us ω ρ R h=>?_) R e
   cases e with
   |normal=>exact hk _ _ _ _ _ R h
   |ret=>exact hk _ _ _ _ _ R h
   | exit j=>
     simp only[YJ] at h;simp only[Oi];split at h
     · rename_i hj;rw[Ab hj];exact hk _ _ _ _ _ R h
     · rename_i hj;rw[Ad hj];exact hk _ _ _ _ _ R h
 | .loop live a,ho,k,K,hk,st,us,ω,ρ,R,e=>by
   obtain⟨n,e⟩:=e;refine⟨n,?_⟩
   have go:∀ (n:Nat) (st:PS) (us:St) (ω:Nat→W) (ρ:Nat→Nat),RS h0 ω0 ω ρ st us X0→QY (Gp a) live k n st→ON (D8 a.er) live K n us:=by
    intro n
    induction n with
    |zero=>intro st us ω ρ _ h;exact h.elim
    | succ n ih=>
      intro st us ω ρ R h;obtain⟨ω1,R1⟩:=R.kp live;exact LV a ho (ew (fun st us ω ρ R e=>ih st us ω ρ R e) hk) R1 h
   exact go n st us ω ρ R e
 |.exit i,_,k,K,hk,st,us,ω,ρ,R,e=>hk _ _ _ _ _ R e
 |.ret,_,k,K,hk,st,us,ω,ρ,R,e=>hk _ _ _ _ _ R e
end
theorem NU{v:PV}(h:v.retc=true):v.argc=true:=by
 cases v with
 |sl q es=>rfl
 |ep=>cases h
 |fl x=>exact h
 |ptr=>rfl
 |_=>cases h
theorem uo{cs:List PV}(h:EK cs=true):IQ cs=true:=by
 induction cs with
 |nil=>rfl
 |cons x r ih=>simp only[EK,IQ,Af] at h ⊢;exact⟨NU h.1,ih h.2⟩
theorem rR{v:PV}(h:v.retok=true):v.argok=true:=by
 cases v with
 |agg cs=>exact uo (cs:=cs) h
 |tup vs=>cases h
 |fl x=>exact NU (v:=.fl x) h
 |sl q es=>exact NU (v:=.sl q es) h
 |ep q es j o=>exact NU (v:=.ep q es j o) h
 |box i o=>exact NU (v:=.box i o) h
 |ptr i o=>exact NU (v:=.ptr i o) h
theorem N6{v:PV}(h:v.retc=true)(hd:Hd):v.bor hd=false:=by
 cases v with
 |sl q es=>cases q<;>first|rfl|(simp[PV.retc,PV.cell] at h)
 |fl=>rfl
 |ptr=>rfl
 |ep=>cases h
 |box=>cases h
 |agg=>cases h
 |tup=>cases h
theorem wg{cs:List PV}(h:EK cs=true)(hd:Hd):PV.borL hd cs=false:=by
 induction cs with
 |nil=>rfl
 |cons x r ih=>simp only[EK,PV.borL,Af,Cy] at h ⊢;exact⟨N6 h.1 hd,ih h.2⟩
theorem gB{v:PV}(h:v.retok=true)(hd:Hd):v.bor hd=false:=by
 cases v with
 |agg cs=>exact wg (cs:=cs) h hd
 |tup vs=>cases h
 |fl x=>exact N6 (v:=.fl x) h hd
 |sl q es=>exact N6 (v:=.sl q es) h hd
 |ep q es j o=>exact N6 (v:=.ep q es j o) h hd
 |box i o=>exact N6 (v:=.box i o) h hd
 |ptr i o=>exact N6 (v:=.ptr i o) h hd
theorem eV{n:Option Nat}{cs:List PV}{v:PV}(e:DM n cs=some v)(h:EK cs=true):v.retok=true:=by
 cases n with
 |some n=>simp[DM] at e;subst e;exact h
 | none=>
   match cs with
   | [x]=>
     simp[DM] at e;subst e;simp only[EK,Mz] at h
     cases x with
     |agg=>cases h
     |tup=>cases h
     |_=>exact h
   |[]=>simp[DM] at e
   |_::_::_=>simp[DM] at e
section
variable {h0:Ac} {ω0 ω:Nat→W} {ρ ρ':Nat→Nat} {st st' st1:PS} {us us':St} {X X':Cs}
theorem ia (R : RS h0 ω0 ω ρ st us X) (hX0:∀ p,(X 0).1.fcell p= .fl .undef) (hXb:∀ j hd,(X j).1.bor hd=false) {r:ARes} {v:PV} (e:IB st r=some (v,st1)) :
 ∃ u ω',GP us r=some u∧RS h0 ω0 ω' ρ st1 us (Xs X 0 v u)∧v.retok=true:=by
 cases r with
 | tmp t=>
   simp only[IB] at e;split at e
   · rename_i hr;simp only[Ai] at e;obtain⟨ω',R1⟩:=R.take t 0 hX0 (fun j=>hXb j _)
     have hv:(EO (Aa st.sl t) t st).1=Aa st.sl t:=by
      simp only[EO];split
      · rw[Ad (by rw[gB hr];simp)]
      · rfl
     rw[hv,e] at R1
     have h1:Aa st.sl t=v:=by rw[← hv,e]
     rw[h1] at R1 hr;refine⟨get us.sl t,ω',?_,R1,hr⟩;have:=ll (rR hr) (by rw[← h1];exact R.sh t) (hd:=.s t) (fun p=>by rw[← h1];exact R.core.rc (.s t) p);simp only[GP,this,A4]
   · cases e
 | cell t n=>
   simp only[IB] at e;split at e
   · rename_i i o hx;have hev:get us.sl t= .box i o:=R.ev_box (x:=.t t) hx;split at e
     · rename_i hc;obtain⟨hle,hret⟩:=hc;simp only[Ma,JN,Ab hle,A4,BH] at e;obtain⟨v',e,he⟩:=e;cases he
       have hB:∀ k,Ak (BR st.bx i (Au (Ak st.bx i) o (CL (segm (Ak st.bx i) o (n.getD 1))))) k=if k=i then Au (Ak st.bx i) o (CL (segm (Ak st.bx i) o (n.getD 1))) else Ak st.bx k:=by
        intro k;rw[JG];by_cases hk:k=i
        · subst hk;rcases Bn k st.bx.length with h|h
          · simp[h]
          · rw[Ad (by omega),Ab rfl]
            have:Ak st.bx k=[]:=by rw[Ds,Bv h];rfl
            rw[this];generalize CL (segm [] o (n.getD 1))=q;cases q<;>rfl
        · simp[hk]
       obtain⟨u,ω',h1,h2⟩:=R.loadmv hX0 hXb (st':={ st with sl:=clr (.b i) st.sl,bx:=BR st.bx i (Au (Ak st.bx i) o (CL (segm (Ak st.bx i) o (n.getD 1)))) }) (hd:=.b i) (cs:=Ak st.bx i) (ws:=A6 us.bx i) (by simp) (by simp)
        (fun p => rfl) (fun p=>by simp only[Ah,hB,Ab]) (fun hd' p h h'=>by
         cases hd' with
         |b k=>simp only[Ah,hB];rw[Ad (fun h2=>h (by rw[h2]))]
         |s t=>exact absurd rfl (h' t)
         | _ => rfl) rfl (R.lb i).symm hle (R.cb i) (by rw[Ij];exact R.lbx) (fun k=>by
           simp only[hB];split
           · rename_i hk;rw[hk,FN];exact R.lb i
           · exact R.lb k) (fun k c=>by
           simp only[hB];split
           · rw[Hm _ _ _ _ (by rw[KQ,FQ hle];exact hle)];split
             · rw[N5];split
               · rfl
               · rw[Dr];split
                 · exact R.cb i _
                 · rfl
             · exact R.cb i c
           · exact R.cb k c) R.ch rfl (fun _=>rfl) e
       exact⟨u,ω',by simp only[GP,hev];rw[Ab (by rw[← R.lb i];exact hle)];exact h1,h2,eV e hret⟩
     · cases e
   · rename_i i o hx;obtain⟨hev,_⟩:=R.ev_ptr (x:=.t t) hx;simp only[Opnd.ev] at hev;split at e
     · rename_i hc;obtain⟨hi,hle,hret⟩:=hc;have hc':i<st.hp.length∧o+n.getD 1≤(Ak st.hp i).length:=⟨hi,hle⟩;simp only[KT,Ab hc',A4,BH] at e;obtain⟨v',e,he⟩:=e;cases he;obtain⟨b,hb1,hb2,hb3⟩:=R.blk hi;have hlen:(AV us.hp (ρ i)).length=(Ak st.hp i).length:=(R.hp i hi).2
       have hrd:rd us.hp (ρ i) o (n.getD 1)=some (((AV us.hp (ρ i)).drop o).take (n.getD 1)):=by
        simp[rd,hb1,hb2,hb3];rw[← hb3,hlen];exact hle
       have hB:∀ k,Ak (BR st.hp i (Au (Ak st.hp i) o (CL (segm (Ak st.hp i) o (n.getD 1))))) k=if k=i then Au (Ak st.hp i) o (CL (segm (Ak st.hp i) o (n.getD 1))) else Ak st.hp k:=by
        intro k;rw[JG];simp[hi]
       obtain⟨u,ω',h1,h2⟩:=R.loadmv hX0 hXb (st':={ st with sl:=clr (.h i) st.sl,hp:=BR st.hp i (Au (Ak st.hp i) o (CL (segm (Ak st.hp i) o (n.getD 1)))) }) (hd:=.h i) (cs:=Ak st.hp i) (ws:=AV us.hp (ρ i)) (by simp) (by simp)
        (fun p => rfl) (fun p=>by simp only[Ah,hB,Ab]) (fun hd' p h h'=>by
         cases hd' with
         |h k=>simp only[Ah,hB];rw[Ad (fun h2=>h (by rw[h2]))]
         |s t=>exact absurd rfl (h' t)
         | _ => rfl) rfl hlen hle (R.ch i) R.lbx R.lb R.cb (fun k c=>by
           simp only[hB];split
           · rw[Hm _ _ _ _ (by rw[KQ,FQ hle];exact hle)];split
             · rw[N5];split
               · rfl
               · rw[Dr];split
                 · exact R.ch i _
                 · rfl
             · exact R.ch i c
           · exact R.ch k c) (by simp[Ij]) (fun k=>by
           simp only[hB];split
           · rename_i hk;rw[hk,FN]
           · rfl) e
       exact⟨u,ω',by simp only[GP,hev,hrd,Fu,h1],h2,eV e hret⟩
     · cases e
   · cases e
def HX(l:List (PV×V)):Cs:=fun i=>match i with
 |0=>(.fl .undef,.undef)
 |i+1=>l[i]?.getD (.fl .undef,.undef)
theorem kB(l:List (PV×V))(x:PV×V)(i:Nat):HX (l++[x]) i=if i=l.length+1 then x else HX l i:=by
 cases i with
 |zero=>rfl
 | succ i=>
   simp only[HX,Nat.add_right_cancel_iff];by_cases h:i=l.length
   · subst h;simp
   · rw[Ad h];rcases Bn i l.length with h1|h1
     · rw[Bm h1]
     · rw[Bv (by simp;omega),Bv h1]
theorem j8{l:List (PV×V)}(h:∀ x∈l,x.1.retok=true)(j:Nat)(hd:Hd):(HX l j).1.bor hd=false:=by
 cases j with
 |zero=>rfl
 | succ i=>
   simp only[HX]
   cases e:l[i]? with
   |none=>rfl
   |some x=>exact gB (h x (GL e)) hd
theorem RS.stash{l:List (PV×V)}{v:PV}{u:V}(hl:∀ x∈l,x.1.retok=true)(R:RS h0 ω0 ω ρ st us (Xs (HX l) 0 v u))(hv:v.retok=true):∃ ω',RS h0 ω0 ω' ρ st us (HX (l++[(v,u)])):=by
 refine⟨_,RS.ren (st':=st) (us':=us) (X':=HX (l++[(v,u)])) R (Ren.mv_ok (.x 0) (.x (l.length+1))) (VH (by simp)) (fun hd' p=>?_) rfl R.sh (fun i=>?_) R.lsl R.lbx R.lb R.cb R.ch rfl (fun _=>rfl)⟩
 · cases hd' with
   | x i =>
     simp only[Ah,kB];by_cases hi:i=l.length+1
     · subst hi;simp only[Ab];exact .inl ⟨.x 0,p,rfl,fun _ r=>by simp[Ren.mv],fun hb pb tp e=>absurd e ((PT hv p).1 hb pb tp)⟩
     · simp only[Ad hi]
       cases i with
       |zero=>exact .inr (Dp (AX p))
       | succ i=>
         refine .inl ⟨.x (i+1),p,rfl,fun _ r=>Ren.mv_still (by simp) (by simpa using hi) _,fun hb pb tp e=>?_⟩;exfalso;have:=DJ (j8 hl (i+1) hb) e;exact this rfl
   |s t=>exact .inl (Bg rfl (fun _=>Ren.mv_still (by simp) (by simp)) fun hb pb tp _ h=>Ren.mv_still (h 0) (h _))
   |b t=>exact .inl (Bg rfl (fun _=>Ren.mv_still (by simp) (by simp)) fun hb pb tp _ h=>Ren.mv_still (h 0) (h _))
   |h t=>exact .inl (Bg rfl (fun _=>Ren.mv_still (by simp) (by simp)) fun hb pb tp _ h=>Ren.mv_still (h 0) (h _))
 · rw[kB];split
   · exact R.shx 0
   · cases i with
     |zero=>exact Bb _
     |succ i=>exact R.shx (i+1)
theorem dK:∀ (rs:List ARes) {ω:Nat→W} {st st1:PS} {l:List (PV×V)} {vs:List PV},(∀ x∈l,x.1.retok=true)→RS h0 ω0 ω ρ st us (HX l)→Hx st rs=some (vs,st1) →
 ∃ ws ω',Ex us rs=some ws∧ws.length=vs.length∧RS h0 ω0 ω' ρ st1 us (HX (l++vs.zip ws))∧∀ v∈vs,v.retok=true
 | [],ω,st,st1,l,vs,hl,R,e=>by
   simp only[Hx,Ai,Aj] at e
   obtain⟨rfl,rfl⟩:=e
   exact⟨[],ω,rfl,rfl,by simpa using R,by simp⟩
 | r :: rs,ω,st,st1,l,vs,hl,R,e=>by
   simp only[Hx] at e
   cases e1:IB st r with
   |none=>rw[e1] at e;cases e
   | some x=>
     obtain⟨v,s1⟩:=x
     rw[e1] at e
     simp only at e
     cases e2:Hx s1 rs with
     |none=>rw[e2] at e;cases e
     | some y=>
       obtain⟨vs',s2⟩:=y
       rw[e2] at e
       cases e
       obtain⟨u,ω1,h1,R1,hv⟩:=ia R (fun p=>AX p) (j8 hl) e1
       obtain⟨ω2,R2⟩:=RS.stash hl R1 hv
       obtain⟨ws,ω3,h2,h3,R3,h4⟩:=dK rs (l:=l++[(v,u)]) (fun x hx=>by
        rcases B0.1 hx with hx|hx
        · exact hl x hx
        · simp at hx;rw[hx];exact hv) R2 e2
       refine⟨u::ws,ω3,by simp only[Ex,h1,h2],by simp[h3],by simpa using R3,?_⟩
       simp only[BE]
       rintro x (rfl|hx)
       · exact hv
       · exact h4 x hx
def Ren.tupl:Ren:=fun hd p=>match hd with
 |.x 0=>.frz
 |.x (j+1)=>.own (.x 0) (j::p)
 |hd=>.own hd p
theorem Ren.tupl_ok:Ren.tupl.Ok:=by
 refine⟨fun hd p hd' p' x c e e'=>?_,fun hd p=>?_⟩
 · cases hd with
   | x j => cases j with
     |zero=>cases e
     | succ j=>
       cases e
       cases hd' with
       | x k=>cases k with
         |zero=>cases e'
         |succ k=>simp[Ren.tupl] at e';exact⟨by rw[e'.1],e'.2.symm⟩
       |_=>simp[Ren.tupl] at e'
   | _=>
     cases e
     cases hd' with
     |x k=>cases k<;>simp[Ren.tupl] at e'
     |_=>simp[Ren.tupl] at e';first|exact⟨by rw[e'.1],e'.2.symm⟩|skip
 · cases hd with
   | x j=>cases j with
     |zero=>exact .inl rfl
     |succ j=>exact .inr ⟨_,_,rfl⟩
   |_=>exact .inr ⟨_,_,rfl⟩
theorem Ren.tupl_still{hd:Hd}(h:∀ i,hd≠.x i):Ren.tupl.still hd:=fun p=>by
 cases hd with
 |x i=>exact absurd rfl (h i)
 |_=>rfl
theorem ya(hd:Hd)(p:List Nat)(i:Nat)(q:List Nat)(e:Ren.tupl hd p= .own (.h i) q):hd= .h i:=by
 cases hd with
 |x j=>cases j<;>cases e
 |_=>first|(cases e;done)|(cases e;rfl)
theorem jO{vs:List PV}{ws:List V}(hl:ws.length=vs.length)(i:Nat):HX (vs.zip ws) (i+1)=(Aa vs i,get ws i):=by
 simp only[HX,DZ,CI];rcases Bn i vs.length with h|h
 · have h2:i<ws.length:=by omega
   rw[AE (by simp;omega),AE h,AE h2];simp
 · rw[Bv (by simp;omega),Bv h,Bv (by omega)];rfl
theorem Xa{v:PV}(h:v.retok=true∨v= .fl .undef):∀ vs,v≠.tup vs:=by
 rintro vs rfl;rcases h with h|h<;>cases h
theorem XX{vs:List PV}(h:∀ v∈vs,v.retok=true)(i:Nat):(Aa vs i).retok=true∨Aa vs i= .fl .undef:=by
 rw[DZ]
 cases e:vs[i]? with
 |none=>exact .inr rfl
 |some v=>exact .inl (h v (GL e))
theorem RS.tupl{vs:List PV}{ws:List V}(R:RS h0 ω0 ω ρ st us (HX (vs.zip ws)))(hl:ws.length=vs.length)(hv:∀ v∈vs,v.retok=true):∃ ω',RS h0 ω0 ω' ρ st us (X1 (.tup vs) (.tup ws)):=by
 have hshx:∀ i,AZ (Aa vs i) (get ws i):=fun i=>by have:=R.shx (i+1);rw[jO hl] at this;exact this
 refine⟨_,RS.ren (st':=st) (us':=us) (X':=X1 (.tup vs) (.tup ws)) R Ren.tupl_ok ya (fun hd' p=>?_) rfl R.sh (fun i=>?_) R.lsl R.lbx R.lb R.cb R.ch rfl (fun _=>rfl)⟩
 · cases hd' with
   | x i =>
     by_cases hi:i=0
     · subst hi
       match p with
       |[]=>exact .inr (AJ rfl)
       |[_]=>exact .inr (AJ rfl)
       |_::_::_::_=>exact .inr (AJ rfl)
       | [k, c]=>
         have hfx:Ah ρ st us (X1 (.tup vs) (.tup ws)) (.x 0) [k,c]=(Aa (Aa vs k).cells c,get (get ws k).cells c):=rfl;rw[hfx];rcases XX hv k with hr|hr
         · have hnt:=Xa (.inl hr)
           have hs:Shp1 (Aa vs k) (get ws k):=by
            have:=hshx k;generalize Aa vs k=w at this hnt
            cases w with
            |tup vs=>exact absurd rfl (hnt _)
            |_=>exact this
           have hne:Aa vs k≠.fl .undef:=by intro h;rw[h] at hr;cases hr
           have e1:=LO hnt c;have e2:=PJ (hs.notup hne) c;refine .inl ⟨.x (k+1),[c],?_,fun _ r=>rfl,fun hb pb tp e=>?_⟩
           · simp only[Ah,jO hl];rw[e1,e2]
           · rw[← e1] at e;exact absurd e ((PT hr [c]).1 hb pb tp)
         · refine .inr (Dp ?_);rw[hr];cases c<;>rfl
     · exact .inr (AJ (F2 i hi p))
   |s t=>exact .inl (Bg rfl (fun _=>Ren.tupl_still (by simp)) fun hb pb tp _ h=>Ren.tupl_still h)
   |b t=>exact .inl (Bg rfl (fun _=>Ren.tupl_still (by simp)) fun hb pb tp _ h=>Ren.tupl_still h)
   |h t=>exact .inl (Bg rfl (fun _=>Ren.tupl_still (by simp)) fun hb pb tp _ h=>Ren.tupl_still h)
 · by_cases hi:i=0
   · subst hi;refine⟨ws,rfl,hl,fun i=>?_⟩;have hnt:=Xa (XX hv i);have:=hshx i;generalize Aa vs i=w at this hnt
     cases w with
     |tup vs=>exact absurd rfl (hnt _)
     |_=>exact this
   · rw[DQ _ _ i hi];exact Bb _
theorem sk(R:RS h0 ω0 ω ρ st us X0){rs:List ARes}{v:PV}(e:IJ st rs=some (v,st1)):∃ u ω',FB us rs=some u∧RS h0 ω0 ω' ρ st1 us (X1 v u)∧v.nob:=by
 have many:(Hx st rs).map (fun(vs,st)=>(PV.tup vs,st))=some (v,st1)→(∀ r,rs≠[r])→∃ u ω',FB us rs=some u∧RS h0 ω0 ω' ρ st1 us (X1 v u)∧v.nob:=by
  intro e hr;simp only[BH] at e;obtain⟨⟨vs,s⟩,e1,e2⟩:=e;cases e2
  have hX:(HX []:Cs)=X0:=by funext i;cases i<;>rfl
  obtain⟨ws,ω1,h1,h2,R1,h3⟩:=dK rs (l:=[]) (by simp) (by rw[hX];exact R) e1;rw[Cq] at R1;obtain⟨ω2,R2⟩:=R1.tupl h2 h3;refine⟨.tup ws,ω2,?_,R2,fun p hb pb tp e=>?_⟩
  · match rs,hr with
    |[],_=>simp only[FB,h1];rfl
    |[r],hr=>exact absurd rfl (hr r)
    |_::_::_,_=>simp only[FB,h1];rfl
  · match p with
    |[]=>cases e
    |[_]=>cases e
    |_::_::_::_=>cases e
    | [k,c]=>
      have e':(Aa (Aa vs k).cells c).q=some (.bor hb pb tp):=e;rcases XX h3 k with hr|hr
      · rw[← LO (Xa (.inl hr)) c] at e';exact(PT hr [c]).1 hb pb tp e'
      · rw[hr] at e';cases c<;>cases e'
 match rs,e,many with
 | [r],e,_=>
   obtain⟨u,ω',h1,h2,h3⟩:=ia R (fun p=>AX p) (fun _ _=>rfl) e;exact⟨u,ω',h1,h2,fun p=>(PT h3 p).1⟩
 |[],e,many=>exact many e (by simp)
 |_::_::_,e,many=>exact many e (by simp)
theorem RS.forget(R:RS h0 ω0 ω ρ st us X):RS h0 ω0 ω ρ ⟨[],[],st.hp⟩ ⟨[],[],us.hp⟩ X:=by
 have:=RS.ren (st':=⟨[],[],st.hp⟩) (us':=⟨[],[],us.hp⟩) (X':=X) R Ren.id_ok (fun hd p i q e=>by simp[Ren.id] at e;exact e.1) (fun hd' p=>?_) rfl (fun t=>Bb _) R.shx rfl rfl (fun _=>rfl) (fun _ _=>rfl) R.ch rfl (fun _=>rfl)
 · rwa [Eg] at this
 · cases hd' with
   |x i=>exact .inl (BA rfl)
   |h i=>exact .inl (BA rfl)
   |s t=>exact .inr (AJ (AX p))
   |b t=>refine .inr (AJ ?_);simp only[Ah,Ak];unfold Bd;split<;>rfl
theorem u4(n i:Nat):Aa (HO n) i= .fl .undef:=by
 induction n generalizing i with
 |zero=>rfl
 | succ n ih=>cases i with
   |zero=>rfl
   |succ i=>exact ih i
theorem tO(n:Nat):(HO n).length=n:=by
 induction n with
 |zero=>rfl
 |succ n ih=>simp[HO,ih]
theorem XE(n i:Nat):Ak (J0 n) i=[]:=by
 induction n generalizing i with
 |zero=>rfl
 | succ n ih=>cases i with
   |zero=>rfl
   |succ i=>exact ih i
theorem tY(n i:Nat):A6 (HU n) i=[]:=by
 induction n generalizing i with
 |zero=>rfl
 | succ n ih=>cases i with
   |zero=>rfl
   |succ i=>exact ih i
theorem vc(n:Nat):(J0 n).length=n:=by
 induction n with
 |zero=>rfl
 |succ n ih=>simp[J0,ih]
theorem wK(n:Nat):(HU n).length=n:=by
 induction n with
 |zero=>rfl
 |succ n ih=>simp[HU,ih]
theorem RS.start{args:List PV}{ws:List V}{H:List (List PV)}{h:Ac}(R:RS h0 ω0 ω ρ ⟨args,[],H⟩ ⟨ws,[],h⟩ X0)(n m:Nat):RS h0 ω0 ω ρ ⟨args++HO n,J0 m,H⟩ ⟨ws++J5 n,HU m,h⟩ X0:=by
 have hl:args.length=ws.length:=R.lsl
 have sl:∀ t,(t<args.length∧Aa (args++HO n) t=Aa args t∧get (ws++J5 n) t=get ws t)∨Aa (args++HO n) t= .fl .undef:=by
  intro t;rcases Bn t args.length with h|h
  · exact .inl ⟨h,Ww _ _ _ h,bQ _ _ _ (by omega)⟩
  · exact .inr (by rw[Wj _ _ _ h,u4])
 have:=RS.ren (st':=⟨args++HO n,J0 m,H⟩) (us':=⟨ws++J5 n,HU m,h⟩) (X':=X0) R Ren.id_ok (fun hd p i q e=>by simp[Ren.id] at e;exact e.1) (fun hd' p=>?_) rfl (fun t=>?_) R.shx (by simp[tO,iK,hl]) (by simp[vc,wK]) (fun i=>by simp[XE,tY]) (fun i c=>by simp[XE,Aa,PV.lay]) R.ch rfl (fun _=>rfl)
 · rwa [Eg] at this
 · cases hd' with
   |x i=>exact .inl (BA rfl)
   |h i=>exact .inl (BA rfl)
   | s t=>
     simp only[Ah];rcases sl t with⟨_,h1,h2⟩|h1
     · rw[h1,h2];exact .inl (BA (hd:=.s t) rfl)
     · rw[h1];exact .inr (Dp (AX p))
   |b t=>refine .inr (AJ ?_);simp only[Ah,XE];unfold Bd;split<;>rfl
 · simp only;rcases sl t with⟨_,h1,h2⟩|h1
   · rw[h1,h2];exact R.sh t
   · rw[h1];exact Bb _
theorem XZ{cs:List PV}(h:PV.fltL cs=true)(c:Nat)(hc:c<cs.length):(Aa cs c).flt=true:=by
 induction cs generalizing c with
 |nil=>simp at hc
 | cons x r ih=>
   simp only[PV.fltL,Af] at h
   cases c with
   |zero=>exact h.1
   |succ c=>exact ih h.2 c (by simpa using hc)
theorem Ys{H:Ac}{m:Md}{v:PV}{u:V}(r:RC H ω m v u)(h:v.flt=true):u.flat=true∧v= .fl u:=by
 cases r with
 |undef=>cases h
 |v _ _ hx=>exact⟨hx,rfl⟩
 |nil=>cases h
 |sl=>cases h
 |ep=>cases h
 |box=>cases h
 |ptr=>cases h
theorem gb{H:Ac}{hd:Hd}{p:List Nat}{v:PV}{u:V}(h:v.flt=true)(hs:Shp1 v u)(hr:∀ c,RC H ω (.at hd (p++[c])) (Aa v.cells c) (get u.cells c)):u.flat1=true:=by
 cases v with
 | agg cs=>
   obtain⟨ws,rfl,hl⟩:=hs;simp only[V.flat1,CR];intro w hw;obtain⟨c,hc,rfl⟩:=JS hw;have r:RC H ω (.at hd (p++[c])) (Aa cs c) (get ws c):=hr c;rw[CI,AE hc] at r;exact(Ys r (XZ h c (by omega))).1
 |tup vs=>exact hs.elim
 | fl x=>
   have hx:x≠.undef:=by rintro rfl;cases h
   have hu:(∀ us,u≠.agg us)∧∀ us,u≠.tup us:=by cases x<;>first|exact hs|exact absurd rfl hx
   have r:RC H ω (.at hd (p++[0])) (.fl x) (get u.cells 0):=hr 0
   have e:get u.cells 0=u:=by cases u<;>first|rfl|exact absurd rfl (hu.1 _)
   rw[e] at r;have:=(Ys r h).1
   cases u<;>first|exact this|exact absurd rfl (hu.1 _)
 |_=>cases h
theorem tL{v:PV}{u:V}(R:RS h0 ω0 ω ρ st us (X1 v u))(h:v.flt=true):u.flat2=true:=by
 have hs:AZ v u:=R.shx 0
 have hr:∀ p,RC us.hp ω (.at (.x 0) p) (v.fcell p) (u.fcell p):=fun p=>R.core.rc (.x 0) p
 have one:(∀ vs,v≠.tup vs)→u.flat2=true:=by
  intro hnt
  have hs1:Shp1 v u:=by cases v<;>first|exact hs|exact absurd rfl (hnt _)
  have hne:v≠.fl .undef:=by rintro rfl;cases h
  have:=gb (p:=[]) h hs1 (fun c=>by have:=hr [c];rw[LO hnt,PJ (hs1.notup hne)] at this;exact this);have hut:=hs1.notup hne
  cases u<;>first|exact this|exact absurd rfl (hut _)
 cases v with
 | tup vs=>
   obtain⟨ws,rfl,hl,h3⟩:=hs;simp only[V.flat2,CR];intro w hw;obtain⟨i,hi,rfl⟩:=JS hw;have hh:=XZ (cs:=vs) h i (by omega);have:=gb (hd:=.x 0) (p:=[i]) hh (h3 i) (fun c=>hr [i,c]);rw[CI,AE hi] at this;exact this
 |_=>exact one (by simp)
theorem Ii{f:PFun}(ho:AllP f.body.obs):Dh (F4 f.er) (DH f):=by
 intro h ω0 ρ args ws H Q K R hloc ⟨hlen,hpu,hb⟩ hK;refine⟨by rw[← R.lsl];exact hlen,?_⟩;have R1:=R.start (f.nslots-f.nparams) f.nbox;have hlen0:h.length≤h.length:=AU _;refine LV f.body ho (k:=lE f.pure f.res Q) (K:=VY f.er h K) (fun e st us ω ρ2 R2 hk=>?_) R1 hb
 have fin:(match IJ st f.res with|some (v,st)=>if f.pure then v.flt=true∧Q v [] else Q v st.hp|none=>False)→(match FB us f.res with|some v=>if f.pure then v.flat2=true∧us.hp.take h.length=h∧K v h else K v us.hp|none=>False):=by
  intro hk
  cases hp:IJ st f.res with
  |none=>rw[hp] at hk;exact hk.elim
  | some x=>
    obtain⟨v,s1⟩:=x;rw[hp] at hk;simp only at hk;obtain⟨u,ω',h1,R3,hnob⟩:=sk R2 hp;rw[h1];simp only
    cases hpure:f.pure with
    | false=>
      rw[hpure] at hk;simp only[AP,A3] at hk ⊢;exact hK _ _ _ _ _ _ hk R3.forget hnob
    | true=>
      rw[hpure] at hk;simp only[A4] at hk ⊢;have hH:=hpu hpure;subst hH
      have hold:∀ l,l<h.length→us.hp[l]?=h[l]?:=by
       intro l hl;refine(R3.fr.old l hl ?_).1
       cases e:ω0 l with
       |frz=>exact .inl rfl
       |none=>exact .inr rfl
       | own hd p=>
         obtain⟨i,rfl⟩:=hloc l hd p e;have:=R.bdh l i p e;simp at this
       |ptr i=>have:=R.bdp l i e;simp at this
      have hf2:=tL R3 hk.1;refine⟨hf2,?_,?_⟩
      · refine HK fun l=>?_
        by_cases hl:l<h.length
        · rw[QX hl,hold l hl]
        · rw[Bv (by simp;omega),Bv (by omega)]
      ·
       have hs:AZ v u:=R3.shx 0
       have hcell:∀ p,RC h ω0 (.at (.x 0) p) (v.fcell p) (u.fcell p):=by
        intro p;have r:RC us.hp ω' (.at (.x 0) p) (v.fcell p) (u.fcell p):=R3.core.rc (.x 0) p
        have hfc:(v.fcell p).flt=true∨v.fcell p= .fl .undef:=by
         have hL:∀ (cs:List PV) c,PV.fltL cs=true→(Aa cs c).flt=true∨Aa cs c= .fl .undef:=by
          intro cs c h;rcases Bn c cs.length with hc|hc
          · exact .inl (XZ h c hc)
          · exact .inr (FX _ _ hc)
         have hkf:=hk.1;unfold PV.fcell;split
         · exact hL _ _ hkf
         · exact .inr rfl
         · rename_i vs i c;rcases hL vs i hkf with h|h
           · generalize Aa vs i=w at h
             cases w with
             |agg cs=>exact hL cs c h
             |_=>cases c<;>first|exact .inl h|exact .inr rfl
           · rw[h];cases c<;>exact .inr rfl
         · exact .inr rfl
         · exact .inl hkf
         · exact .inr rfl
        rcases hfc with h|h
        · obtain⟨a,b⟩:=Ys r h;rw[b];exact .v _ _ a
        · rw[h];exact .undef _ _
       have R0:RS h ω0 ω0 ρ ⟨[],[],[]⟩ ⟨[],[],h⟩ X0:=R.forget
       exact hK u h v [] ω0 ρ hk.2 (R0.handx hs hcell (fun p=>by
        intro i pb tp e;exact hnob p _ _ _ e)) hnob
 cases e with
 |normal=>exact fin hk
 |ret=>exact fin hk
 |exit i=>exact hk.elim
end
end
end Go.Ag
