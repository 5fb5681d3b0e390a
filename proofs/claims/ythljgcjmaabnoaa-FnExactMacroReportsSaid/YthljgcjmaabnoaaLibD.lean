/- Part 4 of what FnExactMacroReports needs. No conditions. -/
import Derived.Test.YthljgcjmaabnoaaLibC
namespace Go.Ag
set_option linter.unusedSimpArgs false
set_option linter.unusedVariables false
noncomputable section
theorem ZjA{v:PV}(h:v.retc=true):v.argc=true:=by
 cases v with
 |sl q es=>rfl
 |ep=>cases h
 |fl x=>exact h
 |ptr=>rfl
 |_=>cases h
theorem Zz4{cs:List PV}(h:ZuX cs=true):ZBK cs=true:=by
 induction cs with
 |nil=>rfl
 |cons x r ih=>simp only[ZuX,ZBK,Bool.and_eq_true] at h ⊢;exact⟨ZjA h.1,ih h.2⟩
theorem Zvn{v:PV}(h:v.retok=true):v.argok=true:=by
 cases v with
 |agg cs=>exact Zz4 (cs:=cs) h
 |tup vs=>cases h
 |fl x=>exact ZjA (v:=.fl x) h
 |sl q es=>exact ZjA (v:=.sl q es) h
 |ep q es j o=>exact ZjA (v:=.ep q es j o) h
 |box i o=>exact ZjA (v:=.box i o) h
 |ptr i o=>exact ZjA (v:=.ptr i o) h
theorem Zlw{v:PV}(h:v.retc=true)(hd:Hd):v.bor hd=false:=by
 cases v with
 |sl q es=>cases q<;>first|rfl|(simp[PV.retc,PV.cell] at h)
 |fl=>rfl
 |ptr=>rfl
 |ep=>cases h
 |box=>cases h
 |agg=>cases h
 |tup=>cases h
theorem ZCB{cs:List PV}(h:ZuX cs=true)(hd:Hd):PV.borL hd cs=false:=by
 induction cs with
 |nil=>rfl
 |cons x r ih=>simp only[ZuX,PV.borL,Bool.and_eq_true,Bool.or_eq_false_iff] at h ⊢;exact⟨Zlw h.1 hd,ih h.2⟩
theorem Zur{v:PV}(h:v.retok=true)(hd:Hd):v.bor hd=false:=by
 cases v with
 |agg cs=>exact ZCB (cs:=cs) h hd
 |tup vs=>cases h
 |fl x=>exact Zlw (v:=.fl x) h hd
 |sl q es=>exact Zlw (v:=.sl q es) h hd
 |ep q es j o=>exact Zlw (v:=.ep q es j o) h hd
 |box i o=>exact Zlw (v:=.box i o) h hd
 |ptr i o=>exact Zlw (v:=.ptr i o) h hd
theorem Zsi{n:Option Nat}{cs:List PV}{v:PV}(e:Zf5 n cs=some v)(h:ZuX cs=true):v.retok=true:=by
 cases n with
 |some n=>simp[Zf5] at e;subst e;exact h
 | none=>
   match cs with
   | [x]=>
     simp[Zf5] at e;subst e
     simp only[ZuX,Bool.and_true] at h
     cases x with
     |agg=>cases h
     |tup=>cases h
     |_=>exact h
   |[]=>simp[Zf5] at e
   |_::_::_=>simp[Zf5] at e
section
variable {h0:Zax} {ω0 ω:Nat→W} {ρ ρ':Nat→Nat} {st st' st1:PS} {us us':St} {X X':ZgB}
theorem ZwS (R : RS h0 ω0 ω ρ st us X) (hX0:∀ p,(X 0).1.fcell p= .fl .undef) (hXb:∀ j hd,(X j).1.bor hd=false) {r:Zki} {v:PV} (e:ZlO st r=some (v,st1)) :
 ∃ u ω',Zm7 us r=some u∧RS h0 ω0 ω' ρ st1 us (Xs X 0 v u)∧v.retok=true:=by
 cases r with
 | tmp t=>
   simp only[ZlO] at e
   split at e
   · rename_i hr
     simp only[Option.some.injEq] at e
     obtain⟨ω',R1⟩:=R.take t 0 hX0 (fun j=>hXb j _)
     have hv:(mvS (Zag st.sl t) t st).1=Zag st.sl t:=by
      simp only[mvS]
      split
      · rw[if_neg (by rw[Zur hr];simp)]
      · rfl
     rw[hv,e] at R1
     have h1:Zag st.sl t=v:=by rw[← hv,e]
     rw[h1] at R1 hr
     refine⟨get us.sl t,ω',?_,R1,hr⟩
     have:=ZGG (Zvn hr) (by rw[← h1];exact R.sh t) (hd:=.s t) (fun p=>by rw[← h1];exact R.core.rc (.s t) p)
     simp only[Zm7,this,if_true]
   · cases e
 | cell t n=>
   simp only[ZlO] at e
   split at e
   · rename_i i o hx
     have hev:get us.sl t= .box i o:=R.ev_box (x:=.t t) hx
     split at e
     · rename_i hc
       obtain⟨hle,hret⟩:=hc
       simp only[Zme,true_and,if_pos hle,if_true,Option.map_eq_some_iff] at e
       obtain⟨v',e,he⟩:=e
       cases he
       have hB:∀ k,Zaq (Zet st.bx i (Zap (Zaq st.bx i) o (ZoD (segm (Zaq st.bx i) o (n.getD 1))))) k=if k=i then Zap (Zaq st.bx i) o (ZoD (segm (Zaq st.bx i) o (n.getD 1))) else Zaq st.bx k:=by
        intro k
        rw[Zge]
        by_cases hk:k=i
        · subst hk
          rcases Nat.lt_or_ge k st.bx.length with h|h
          · simp[h]
          · rw[if_neg (by omega),if_pos rfl]
            have:Zaq st.bx k=[]:=by rw[Zcn,List.getElem?_eq_none h];rfl
            rw[this]
            generalize ZoD (segm [] o (n.getD 1))=q
            cases q<;>rfl
        · simp[hk]
       obtain⟨u,ω',h1,h2⟩:=R.loadmv hX0 hXb (st':={ st with sl:=clr (.b i) st.sl,bx:=Zet st.bx i (Zap (Zaq st.bx i) o (ZoD (segm (Zaq st.bx i) o (n.getD 1)))) }) (hd:=.b i) (cs:=Zaq st.bx i) (ws:=ZfO us.bx i) (by simp) (by simp)
        (fun p => rfl) (fun p=>by simp only[fam,hB,if_pos]) (fun hd' p h h'=>by
         cases hd' with
         |b k=>simp only[fam,hB];rw[if_neg (fun h2=>h (by rw[h2]))]
         |s t=>exact absurd rfl (h' t)
         | _ => rfl) rfl (R.lb i).symm hle (R.cb i) (by rw[Zfn];exact R.lbx) (fun k=>by
           simp only[hB];split
           · rename_i hk;rw[hk,Zb9];exact R.lb i
           · exact R.lb k) (fun k c=>by
           simp only[hB];split
           · rw[ZcR _ _ _ _ (by rw[Zi6,Zfb hle];exact hle)]
             split
             · rw[Zlq];split
               · rfl
               · rw[Zcs];split
                 · exact R.cb i _
                 · rfl
             · exact R.cb i c
           · exact R.cb k c) R.ch rfl (fun _=>rfl) e
       exact⟨u,ω',by simp only[Zm7,hev];rw[if_pos (by rw[← R.lb i];exact hle)];exact h1,h2,Zsi e hret⟩
     · cases e
   · rename_i i o hx
     obtain⟨hev,_⟩:=R.ev_ptr (x:=.t t) hx
     simp only[Opnd.ev] at hev
     split at e
     · rename_i hc
       obtain⟨hi,hle,hret⟩:=hc
       have hc':i<st.hp.length∧o+n.getD 1≤(Zaq st.hp i).length:=⟨hi,hle⟩
       simp only[ZkP,if_pos hc',if_true,Option.map_eq_some_iff] at e
       obtain⟨v',e,he⟩:=e
       cases he
       obtain⟨b,hb1,hb2,hb3⟩:=R.blk hi
       have hlen:(ZbU us.hp (ρ i)).length=(Zaq st.hp i).length:=(R.hp i hi).2
       have hrd:rd us.hp (ρ i) o (n.getD 1)=some (((ZbU us.hp (ρ i)).drop o).take (n.getD 1)):=by
        simp[rd,hb1,hb2,hb3]
        rw[← hb3,hlen];exact hle
       have hB:∀ k,Zaq (Zet st.hp i (Zap (Zaq st.hp i) o (ZoD (segm (Zaq st.hp i) o (n.getD 1))))) k=if k=i then Zap (Zaq st.hp i) o (ZoD (segm (Zaq st.hp i) o (n.getD 1))) else Zaq st.hp k:=by
        intro k;rw[Zge];simp[hi]
       obtain⟨u,ω',h1,h2⟩:=R.loadmv hX0 hXb (st':={ st with sl:=clr (.h i) st.sl,hp:=Zet st.hp i (Zap (Zaq st.hp i) o (ZoD (segm (Zaq st.hp i) o (n.getD 1)))) }) (hd:=.h i) (cs:=Zaq st.hp i) (ws:=ZbU us.hp (ρ i)) (by simp) (by simp)
        (fun p => rfl) (fun p=>by simp only[fam,hB,if_pos]) (fun hd' p h h'=>by
         cases hd' with
         |h k=>simp only[fam,hB];rw[if_neg (fun h2=>h (by rw[h2]))]
         |s t=>exact absurd rfl (h' t)
         | _ => rfl) rfl hlen hle (R.ch i) R.lbx R.lb R.cb (fun k c=>by
           simp only[hB];split
           · rw[ZcR _ _ _ _ (by rw[Zi6,Zfb hle];exact hle)]
             split
             · rw[Zlq];split
               · rfl
               · rw[Zcs];split
                 · exact R.ch i _
                 · rfl
             · exact R.ch i c
           · exact R.ch k c) (by simp[Zfn]) (fun k=>by
           simp only[hB];split
           · rename_i hk;rw[hk,Zb9]
           · rfl) e
       exact⟨u,ω',by simp only[Zm7,hev,hrd,Option.bind_some,h1],h2,Zsi e hret⟩
     · cases e
   · cases e
def HX(l:List (PV×V)):ZgB:=fun i=>match i with
 |0=>(.fl .undef,.undef)
 |i+1=>l[i]?.getD (.fl .undef,.undef)
theorem ZDK(l:List (PV×V))(x:PV×V)(i:Nat):HX (l++[x]) i=if i=l.length+1 then x else HX l i:=by
 cases i with
 |zero=>rfl
 | succ i=>
   simp only[HX,Nat.add_right_cancel_iff]
   by_cases h:i=l.length
   · subst h;simp
   · rw[if_neg h]
     rcases Nat.lt_or_ge i l.length with h1|h1
     · rw[List.getElem?_append_left h1]
     · rw[List.getElem?_eq_none (by simp;omega),List.getElem?_eq_none h1]
theorem ZDt{l:List (PV×V)}(h:∀ x∈l,x.1.retok=true)(j:Nat)(hd:Hd):(HX l j).1.bor hd=false:=by
 cases j with
 |zero=>rfl
 | succ i=>
   simp only[HX]
   cases e:l[i]? with
   |none=>rfl
   |some x=>exact Zur (h x (List.mem_of_getElem? e)) hd
theorem RS.stash{l:List (PV×V)}{v:PV}{u:V}(hl:∀ x∈l,x.1.retok=true)(R:RS h0 ω0 ω ρ st us (Xs (HX l) 0 v u))(hv:v.retok=true):∃ ω',RS h0 ω0 ω' ρ st us (HX (l++[(v,u)])):=by
 refine⟨_,RS.ren (st':=st) (us':=us) (X':=HX (l++[(v,u)])) R (Ren.mv_ok (.x 0) (.x (l.length+1))) (ZCS (by simp)) (fun hd' p=>?_) rfl R.sh (fun i=>?_) R.lsl R.lbx R.lb R.cb R.ch rfl (fun _=>rfl)⟩
 · cases hd' with
   | x i =>
     simp only[fam,ZDK]
     by_cases hi:i=l.length+1
     · subst hi
       simp only[if_pos]
       exact .inl ⟨.x 0,p,rfl,fun _ r=>by simp[Ren.mv],fun hb pb tp e=>absurd e ((ZiH hv p).1 hb pb tp)⟩
     · simp only[if_neg hi]
       cases i with
       |zero=>exact .inr (ZbL (Zah p))
       | succ i=>
         refine .inl ⟨.x (i+1),p,rfl,fun _ r=>Ren.mv_still (by simp) (by simpa using hi) _,fun hb pb tp e=>?_⟩
         exfalso
         have:=Zgd (ZDt hl (i+1) hb) e
         exact this rfl
   |s t=>exact .inl (Zam rfl (fun _=>Ren.mv_still (by simp) (by simp)) fun hb pb tp _ h=>Ren.mv_still (h 0) (h _))
   |b t=>exact .inl (Zam rfl (fun _=>Ren.mv_still (by simp) (by simp)) fun hb pb tp _ h=>Ren.mv_still (h 0) (h _))
   |h t=>exact .inl (Zam rfl (fun _=>Ren.mv_still (by simp) (by simp)) fun hb pb tp _ h=>Ren.mv_still (h 0) (h _))
 · rw[ZDK]
   split
   · exact R.shx 0
   · cases i with
     |zero=>exact Zaw _
     |succ i=>exact R.shx (i+1)
theorem ZmC:∀ (rs:List Zki) {ω:Nat→W} {st st1:PS} {l:List (PV×V)} {vs:List PV},(∀ x∈l,x.1.retok=true)→RS h0 ω0 ω ρ st us (HX l)→Zji st rs=some (vs,st1) →
 ∃ ws ω',Zhj us rs=some ws∧ws.length=vs.length∧RS h0 ω0 ω' ρ st1 us (HX (l++vs.zip ws))∧∀ v∈vs,v.retok=true
 | [],ω,st,st1,l,vs,hl,R,e=>by
   simp only[Zji,Option.some.injEq,Prod.mk.injEq] at e
   obtain⟨rfl,rfl⟩:=e
   exact⟨[],ω,rfl,rfl,by simpa using R,by simp⟩
 | r :: rs,ω,st,st1,l,vs,hl,R,e=>by
   simp only[Zji] at e
   cases e1:ZlO st r with
   |none=>rw[e1] at e;cases e
   | some x=>
     obtain⟨v,s1⟩:=x
     rw[e1] at e
     simp only at e
     cases e2:Zji s1 rs with
     |none=>rw[e2] at e;cases e
     | some y=>
       obtain⟨vs',s2⟩:=y
       rw[e2] at e
       cases e
       obtain⟨u,ω1,h1,R1,hv⟩:=ZwS R (fun p=>Zah p) (ZDt hl) e1
       obtain⟨ω2,R2⟩:=RS.stash hl R1 hv
       obtain⟨ws,ω3,h2,h3,R3,h4⟩:=ZmC rs (l:=l++[(v,u)]) (fun x hx=>by
        rcases List.mem_append.1 hx with hx|hx
        · exact hl x hx
        · simp at hx;rw[hx];exact hv) R2 e2
       refine⟨u::ws,ω3,by simp only[Zhj,h1,h2],by simp[h3],by simpa using R3,?_⟩
       simp only[List.mem_cons]
       rintro x (rfl|hx)
       · exact hv
       · exact h4 x hx
def Ren.tupl:Ren:=fun hd p=>match hd with
 |.x 0=>.frz
 |.x (j+1)=>.own (.x 0) (j::p)
 |hd=>.own hd p
theorem Ren.tupl_ok:Ren.tupl.Ok:=by
 refine⟨fun hd p hd' p' x c e e'=>?_,fun hd p=>?_⟩
 · cases hd with
   | x j => cases j with
     |zero=>cases e
     | succ j=>
       cases e
       cases hd' with
       | x k=>cases k with
         |zero=>cases e'
         |succ k=>simp[Ren.tupl] at e';exact⟨by rw[e'.1],e'.2.symm⟩
       |_=>simp[Ren.tupl] at e'
   | _=>
     cases e
     cases hd' with
     |x k=>cases k<;>simp[Ren.tupl] at e'
     |_=>simp[Ren.tupl] at e';first|exact⟨by rw[e'.1],e'.2.symm⟩|skip
 · cases hd with
   | x j=>cases j with
     |zero=>exact .inl rfl
     |succ j=>exact .inr ⟨_,_,rfl⟩
   |_=>exact .inr ⟨_,_,rfl⟩
theorem Ren.tupl_still{hd:Hd}(h:∀ i,hd≠.x i):Ren.tupl.still hd:=fun p=>by
 cases hd with
 |x i=>exact absurd rfl (h i)
 |_=>rfl
theorem ZD9(hd:Hd)(p:List Nat)(i:Nat)(q:List Nat)(e:Ren.tupl hd p= .own (.h i) q):hd= .h i:=by
 cases hd with
 |x j=>cases j<;>cases e
 |_=>first|(cases e;done)|(cases e;rfl)
theorem ZA9{vs:List PV}{ws:List V}(hl:ws.length=vs.length)(i:Nat):HX (vs.zip ws) (i+1)=(Zag vs i,get ws i):=by
 simp only[HX,ZeO,Zex]
 rcases Nat.lt_or_ge i vs.length with h|h
 · have h2:i<ws.length:=by omega
   rw[List.getElem?_eq_getElem (by simp;omega),List.getElem?_eq_getElem h,List.getElem?_eq_getElem h2]
   simp
 · rw[List.getElem?_eq_none (by simp;omega),List.getElem?_eq_none h,List.getElem?_eq_none (by omega)];rfl
theorem Zmk{v:PV}(h:v.retok=true∨v= .fl .undef):∀ vs,v≠.tup vs:=by
 rintro vs rfl
 rcases h with h|h<;>cases h
theorem Ztq{vs:List PV}(h:∀ v∈vs,v.retok=true)(i:Nat):(Zag vs i).retok=true∨Zag vs i= .fl .undef:=by
 rw[ZeO]
 cases e:vs[i]? with
 |none=>exact .inr rfl
 |some v=>exact .inl (h v (List.mem_of_getElem? e))
theorem RS.tupl{vs:List PV}{ws:List V}(R:RS h0 ω0 ω ρ st us (HX (vs.zip ws)))(hl:ws.length=vs.length)(hv:∀ v∈vs,v.retok=true):∃ ω',RS h0 ω0 ω' ρ st us (X1 (.tup vs) (.tup ws)):=by
 have hshx:∀ i,Shp (Zag vs i) (get ws i):=fun i=>by have:=R.shx (i+1);rw[ZA9 hl] at this;exact this
 refine⟨_,RS.ren (st':=st) (us':=us) (X':=X1 (.tup vs) (.tup ws)) R Ren.tupl_ok ZD9 (fun hd' p=>?_) rfl R.sh (fun i=>?_) R.lsl R.lbx R.lb R.cb R.ch rfl (fun _=>rfl)⟩
 · cases hd' with
   | x i =>
     by_cases hi:i=0
     · subst hi
       match p with
       |[]=>exact .inr (Zat rfl)
       |[_]=>exact .inr (Zat rfl)
       |_::_::_::_=>exact .inr (Zat rfl)
       | [k, c]=>
         have hfx:fam ρ st us (X1 (.tup vs) (.tup ws)) (.x 0) [k,c]=(Zag (Zag vs k).cells c,get (get ws k).cells c):=rfl
         rw[hfx]
         rcases Ztq hv k with hr|hr
         · have hnt:=Zmk (.inl hr)
           have hs:Shp1 (Zag vs k) (get ws k):=by
            have:=hshx k
            generalize Zag vs k=w at this hnt
            cases w with
            |tup vs=>exact absurd rfl (hnt _)
            |_=>exact this
           have hne:Zag vs k≠.fl .undef:=by intro h;rw[h] at hr;cases hr
           have e1:=ZfH hnt c
           have e2:=Zhi (hs.notup hne) c
           refine .inl ⟨.x (k+1),[c],?_,fun _ r=>rfl,fun hb pb tp e=>?_⟩
           · simp only[fam,ZA9 hl];rw[e1,e2]
           · rw[← e1] at e
             exact absurd e ((ZiH hr [c]).1 hb pb tp)
         · refine .inr (ZbL ?_)
           rw[hr];cases c<;>rfl
     · exact .inr (Zat (Zjq i hi p))
   |s t=>exact .inl (Zam rfl (fun _=>Ren.tupl_still (by simp)) fun hb pb tp _ h=>Ren.tupl_still h)
   |b t=>exact .inl (Zam rfl (fun _=>Ren.tupl_still (by simp)) fun hb pb tp _ h=>Ren.tupl_still h)
   |h t=>exact .inl (Zam rfl (fun _=>Ren.tupl_still (by simp)) fun hb pb tp _ h=>Ren.tupl_still h)
 · by_cases hi:i=0
   · subst hi
     refine⟨ws,rfl,hl,fun i=>?_⟩
     have hnt:=Zmk (Ztq hv i)
     have:=hshx i
     generalize Zag vs i=w at this hnt
     cases w with
     |tup vs=>exact absurd rfl (hnt _)
     |_=>exact this
   · rw[Zs6 _ _ i hi];exact Zaw _
theorem Zu1(R:RS h0 ω0 ω ρ st us X0){rs:List Zki}{v:PV}(e:Zvl st rs=some (v,st1)):∃ u ω',ZuQ us rs=some u∧RS h0 ω0 ω' ρ st1 us (X1 v u)∧v.nob:=by
 have many:(Zji st rs).map (fun(vs,st)=>(PV.tup vs,st))=some (v,st1)→(∀ r,rs≠[r])→∃ u ω',ZuQ us rs=some u∧RS h0 ω0 ω' ρ st1 us (X1 v u)∧v.nob:=by
  intro e hr
  simp only[Option.map_eq_some_iff] at e
  obtain⟨⟨vs,s⟩,e1,e2⟩:=e
  cases e2
  have hX:(HX []:ZgB)=X0:=by funext i;cases i<;>rfl
  obtain⟨ws,ω1,h1,h2,R1,h3⟩:=ZmC rs (l:=[]) (by simp) (by rw[hX];exact R) e1
  rw[List.nil_append] at R1
  obtain⟨ω2,R2⟩:=R1.tupl h2 h3
  refine⟨.tup ws,ω2,?_,R2,fun p hb pb tp e=>?_⟩
  · match rs,hr with
    |[],_=>simp only[ZuQ,h1];rfl
    |[r],hr=>exact absurd rfl (hr r)
    |_::_::_,_=>simp only[ZuQ,h1];rfl
  · match p with
    |[]=>cases e
    |[_]=>cases e
    |_::_::_::_=>cases e
    | [k,c]=>
      have e':(Zag (Zag vs k).cells c).q=some (.bor hb pb tp):=e
      rcases Ztq h3 k with hr|hr
      · rw[← ZfH (Zmk (.inl hr)) c] at e'
        exact(ZiH hr [c]).1 hb pb tp e'
      · rw[hr] at e';cases c<;>cases e'
 match rs,e,many with
 | [r],e,_=>
   obtain⟨u,ω',h1,h2,h3⟩:=ZwS R (fun p=>Zah p) (fun _ _=>rfl) e
   exact⟨u,ω',h1,h2,fun p=>(ZiH h3 p).1⟩
 |[],e,many=>exact many e (by simp)
 |_::_::_,e,many=>exact many e (by simp)
theorem RS.forget(R:RS h0 ω0 ω ρ st us X):RS h0 ω0 ω ρ ⟨[],[],st.hp⟩ ⟨[],[],us.hp⟩ X:=by
 have:=RS.ren (st':=⟨[],[],st.hp⟩) (us':=⟨[],[],us.hp⟩) (X':=X) R Ren.id_ok (fun hd p i q e=>by simp[Ren.id] at e;exact e.1) (fun hd' p=>?_) rfl (fun t=>Zaw _) R.shx rfl rfl (fun _=>rfl) (fun _ _=>rfl) R.ch rfl (fun _=>rfl)
 · rwa [Zhf] at this
 · cases hd' with
   |x i=>exact .inl (ZaM rfl)
   |h i=>exact .inl (ZaM rfl)
   |s t=>exact .inr (Zat (Zah p))
   |b t=>refine .inr (Zat ?_);simp only[fam,Zaq];unfold Za7;split<;>rfl
theorem ZyY(n i:Nat):Zag (ZrC n) i= .fl .undef:=by
 induction n generalizing i with
 |zero=>rfl
 | succ n ih=>cases i with
   |zero=>rfl
   |succ i=>exact ih i
theorem ZA5(n:Nat):(ZrC n).length=n:=by
 induction n with
 |zero=>rfl
 |succ n ih=>simp[ZrC,ih]
theorem ZqP(n i:Nat):Zaq (Zt3 n) i=[]:=by
 induction n generalizing i with
 |zero=>rfl
 | succ n ih=>cases i with
   |zero=>rfl
   |succ i=>exact ih i
theorem ZAM(n i:Nat):ZfO (Zyr n) i=[]:=by
 induction n generalizing i with
 |zero=>rfl
 | succ n ih=>cases i with
   |zero=>rfl
   |succ i=>exact ih i
theorem ZBn(n:Nat):(Zt3 n).length=n:=by
 induction n with
 |zero=>rfl
 |succ n ih=>simp[Zt3,ih]
theorem ZCW(n:Nat):(Zyr n).length=n:=by
 induction n with
 |zero=>rfl
 |succ n ih=>simp[Zyr,ih]
theorem RS.start{args:List PV}{ws:List V}{H:List (List PV)}{h:Zax}(R:RS h0 ω0 ω ρ ⟨args,[],H⟩ ⟨ws,[],h⟩ X0)(n m:Nat):RS h0 ω0 ω ρ ⟨args++ZrC n,Zt3 m,H⟩ ⟨ws++ZvZ n,Zyr m,h⟩ X0:=by
 have hl:args.length=ws.length:=R.lsl
 have sl:∀ t,(t<args.length∧Zag (args++ZrC n) t=Zag args t∧get (ws++ZvZ n) t=get ws t)∨Zag (args++ZrC n) t= .fl .undef:=by
  intro t
  rcases Nat.lt_or_ge t args.length with h|h
  · exact .inl ⟨h,Zhq _ _ _ h,Zkv _ _ _ (by omega)⟩
  · exact .inr (by rw[ZgJ _ _ _ h,ZyY])
 have:=RS.ren (st':=⟨args++ZrC n,Zt3 m,H⟩) (us':=⟨ws++ZvZ n,Zyr m,h⟩) (X':=X0) R Ren.id_ok (fun hd p i q e=>by simp[Ren.id] at e;exact e.1) (fun hd' p=>?_) rfl (fun t=>?_) R.shx (by simp[ZA5,ZwC,hl]) (by simp[ZBn,ZCW]) (fun i=>by simp[ZqP,ZAM]) (fun i c=>by simp[ZqP,Zag,PV.lay]) R.ch rfl (fun _=>rfl)
 · rwa [Zhf] at this
 · cases hd' with
   |x i=>exact .inl (ZaM rfl)
   |h i=>exact .inl (ZaM rfl)
   | s t=>
     simp only[fam]
     rcases sl t with⟨_,h1,h2⟩|h1
     · rw[h1,h2];exact .inl (ZaM (hd:=.s t) rfl)
     · rw[h1];exact .inr (ZbL (Zah p))
   |b t=>refine .inr (Zat ?_);simp only[fam,ZqP];unfold Za7;split<;>rfl
 · simp only
   rcases sl t with⟨_,h1,h2⟩|h1
   · rw[h1,h2];exact R.sh t
   · rw[h1];exact Zaw _
theorem ZsV{cs:List PV}(h:PV.fltL cs=true)(c:Nat)(hc:c<cs.length):(Zag cs c).flt=true:=by
 induction cs generalizing c with
 |nil=>simp at hc
 | cons x r ih=>
   simp only[PV.fltL,Bool.and_eq_true] at h
   cases c with
   |zero=>exact h.1
   |succ c=>exact ih h.2 c (by simpa using hc)
theorem ZsF{H:Zax}{m:Md}{v:PV}{u:V}(r:RC H ω m v u)(h:v.flt=true):u.flat=true∧v= .fl u:=by
 cases r with
 |undef=>cases h
 |v _ _ hx=>exact⟨hx,rfl⟩
 |nil=>cases h
 |sl=>cases h
 |ep=>cases h
 |box=>cases h
 |ptr=>cases h
theorem Zuh{H:Zax}{hd:Hd}{p:List Nat}{v:PV}{u:V}(h:v.flt=true)(hs:Shp1 v u)(hr:∀ c,RC H ω (.at hd (p++[c])) (Zag v.cells c) (get u.cells c)):u.flat1=true:=by
 cases v with
 | agg cs=>
   obtain⟨ws,rfl,hl⟩:=hs
   simp only[V.flat1,List.all_eq_true]
   intro w hw
   obtain⟨c,hc,rfl⟩:=List.getElem_of_mem hw
   have r:RC H ω (.at hd (p++[c])) (Zag cs c) (get ws c):=hr c
   rw[Zex,List.getElem?_eq_getElem hc] at r
   exact(ZsF r (ZsV h c (by omega))).1
 |tup vs=>exact hs.elim
 | fl x=>
   have hx:x≠.undef:=by rintro rfl;cases h
   have hu:(∀ us,u≠.agg us)∧∀ us,u≠.tup us:=by cases x<;>first|exact hs|exact absurd rfl hx
   have r:RC H ω (.at hd (p++[0])) (.fl x) (get u.cells 0):=hr 0
   have e:get u.cells 0=u:=by cases u<;>first|rfl|exact absurd rfl (hu.1 _)
   rw[e] at r
   have:=(ZsF r h).1
   cases u<;>first|exact this|exact absurd rfl (hu.1 _)
 |_=>cases h
theorem ZzF{v:PV}{u:V}(R:RS h0 ω0 ω ρ st us (X1 v u))(h:v.flt=true):u.flat2=true:=by
 have hs:Shp v u:=R.shx 0
 have hr:∀ p,RC us.hp ω (.at (.x 0) p) (v.fcell p) (u.fcell p):=fun p=>R.core.rc (.x 0) p
 have one:(∀ vs,v≠.tup vs)→u.flat2=true:=by
  intro hnt
  have hs1:Shp1 v u:=by cases v<;>first|exact hs|exact absurd rfl (hnt _)
  have hne:v≠.fl .undef:=by rintro rfl;cases h
  have:=Zuh (p:=[]) h hs1 (fun c=>by have:=hr [c];rw[ZfH hnt,Zhi (hs1.notup hne)] at this;exact this)
  have hut:=hs1.notup hne
  cases u<;>first|exact this|exact absurd rfl (hut _)
 cases v with
 | tup vs=>
   obtain⟨ws,rfl,hl,h3⟩:=hs
   simp only[V.flat2,List.all_eq_true]
   intro w hw
   obtain⟨i,hi,rfl⟩:=List.getElem_of_mem hw
   have hh:=ZsV (cs:=vs) h i (by omega)
   have:=Zuh (hd:=.x 0) (p:=[i]) hh (h3 i) (fun c=>hr [i,c])
   rw[Zex,List.getElem?_eq_getElem hi] at this
   exact this
 |_=>exact one (by simp)
theorem Zav{f:PFun}(ho:AllP f.body.obs):Zbd (Za5 f.er) (ZaQ f):=by
 intro h ω0 ρ args ws H Q K R hloc ⟨hlen,hpu,hb⟩ hK
 refine⟨by rw[← R.lsl];exact hlen,?_⟩
 have R1:=R.start (f.nslots-f.nparams) f.nbox
 have hlen0:h.length≤h.length:=Nat.le_refl _
 refine ZiT f.body ho (k:=prk f.pure f.res Q) (K:=ZHf f.er h K) (fun e st us ω ρ2 R2 hk=>?_) R1 hb
 have fin:(match Zvl st f.res with|some (v,st)=>if f.pure then v.flt=true∧Q v [] else Q v st.hp|none=>False)→(match ZuQ us f.res with|some v=>if f.pure then v.flat2=true∧us.hp.take h.length=h∧K v h else K v us.hp|none=>False):=by
  intro hk
  cases hp:Zvl st f.res with
  |none=>rw[hp] at hk;exact hk.elim
  | some x=>
    obtain⟨v,s1⟩:=x
    rw[hp] at hk
    simp only at hk
    obtain⟨u,ω',h1,R3,hnob⟩:=Zu1 R2 hp
    rw[h1]
    simp only
    cases hpure:f.pure with
    | false=>
      rw[hpure] at hk
      simp only[Bool.false_eq_true,if_false] at hk ⊢
      exact hK _ _ _ _ _ _ hk R3.forget hnob
    | true=>
      rw[hpure] at hk
      simp only[if_true] at hk ⊢
      have hH:=hpu hpure
      subst hH
      have hold:∀ l,l<h.length→us.hp[l]?=h[l]?:=by
       intro l hl
       refine(R3.fr.old l hl ?_).1
       cases e:ω0 l with
       |frz=>exact .inl rfl
       |none=>exact .inr rfl
       | own hd p=>
         obtain⟨i,rfl⟩:=hloc l hd p e
         have:=R.bdh l i p e;simp at this
       |ptr i=>have:=R.bdp l i e;simp at this
      have hf2:=ZzF R3 hk.1
      refine⟨hf2,?_,?_⟩
      · refine List.ext_getElem? fun l=>?_
        by_cases hl:l<h.length
        · rw[List.getElem?_take_of_lt hl,hold l hl]
        · rw[List.getElem?_eq_none (by simp;omega),List.getElem?_eq_none (by omega)]
      ·
       have hs:Shp v u:=R3.shx 0
       have hcell:∀ p,RC h ω0 (.at (.x 0) p) (v.fcell p) (u.fcell p):=by
        intro p
        have r:RC us.hp ω' (.at (.x 0) p) (v.fcell p) (u.fcell p):=R3.core.rc (.x 0) p
        have hfc:(v.fcell p).flt=true∨v.fcell p= .fl .undef:=by
         have hL:∀ (cs:List PV) c,PV.fltL cs=true→(Zag cs c).flt=true∨Zag cs c= .fl .undef:=by
          intro cs c h
          rcases Nat.lt_or_ge c cs.length with hc|hc
          · exact .inl (ZsV h c hc)
          · exact .inr (ZgP _ _ hc)
         have hkf:=hk.1
         unfold PV.fcell
         split
         · exact hL _ _ hkf
         · exact .inr rfl
         · rename_i vs i c
           rcases hL vs i hkf with h|h
           · generalize Zag vs i=w at h
             cases w with
             |agg cs=>exact hL cs c h
             |_=>cases c<;>first|exact .inl h|exact .inr rfl
           · rw[h];cases c<;>exact .inr rfl
         · exact .inr rfl
         · exact .inl hkf
         · exact .inr rfl
        rcases hfc with h|h
        · obtain⟨a,b⟩:=ZsF r h
          rw[b];exact .v _ _ a
        · rw[h];exact .undef _ _
       have R0:RS h ω0 ω0 ρ ⟨[],[],[]⟩ ⟨[],[],h⟩ X0:=R.forget
       exact hK u h v [] ω0 ρ hk.2 (R0.handx hs hcell (fun p=>by
        intro i pb tp e;exact hnob p _ _ _ e)) hnob
 cases e with
 |normal=>exact fin hk
 |ret=>exact fin hk
 |exit i=>exact hk.elim
end
noncomputable section
def shut.{u}{α:Sort u}(a:α):{x:α // x=a}:=Classical.choice ⟨⟨a,rfl⟩⟩
section
variable {α:Type}
def ZH3(k:IntKind)(a b:Int):Int:=k.wrap (a+b)
def ZIa(k:IntKind)(a b:Int):Int:=k.wrap (a-b)
def ZHB(k:IntKind)(a b:Int):Int:=k.wrap (a*b)
def ZH9(k:IntKind)(a b:Int):Int:=k.wrap (a.tdiv b)
def ZHT(a b:Int):Int:=a.tmod b
def ZHU(k:IntKind)(a b:Int):Int:=k.wrap (BitVec.ofInt k.bits a &&& BitVec.ofInt k.bits b).toNat
def ZIu(k:IntKind)(a b:Int):Int:=k.wrap (BitVec.ofInt k.bits a ||| BitVec.ofInt k.bits b).toNat
def ZHW(k:IntKind)(a b:Int):Int:=k.wrap (BitVec.ofInt k.bits a ^^^ BitVec.ofInt k.bits b).toNat
def ZCQ(k:IntKind)(a b:Int):Int:=k.wrap (BitVec.ofInt k.bits a &&& ~~~BitVec.ofInt k.bits b).toNat
def ZHw(k:IntKind)(a b:Int):Int:=k.wrap (a*2^min b.toNat k.bits)
def ZHA(k:IntKind)(a b:Int):Int:=a.fdiv (2^min b.toNat k.bits)
def ZHL(k:IntKind)(a:Int):Int:=k.wrap (0-a)
def ZGX(k:IntKind)(a:Int):Int:=k.wrap a
def ZHF(a b:Int):Int:=if b<a then b else a
def ZHz(a b:Int):Int:=if b > a then b else a
def ZHr(a:Int):Nat:=a.toNat
def ZIn(a b:Int):Bool:=a == b
def ZIz(a b:Int):Bool:=a != b
def ZIl(a b:Int):Bool:=decide (a<b)
def ZIp(a b:Int):Bool:=decide (a≤b)
def ZIy(a b:Int):Bool:=decide (a > b)
def ZIm(a b:Int):Bool:=decide (a≥b)
def ZHv(a b:List UInt8):List UInt8:=a++b
def ZIk(a b:List UInt8):Bool:=a == b
def ZIx(a b:List UInt8):Bool:=!(a == b)
def ZH6(s:List UInt8)(j:Int):Int:=(s.getD j.toNat 0).toNat
def ZHt(s:List UInt8):List Int:=s.map fun b=>((b.toNat:Nat):Int)
def ZHx(l:List Int):List UInt8:=l.map fun n=>UInt8.ofNat n.toNat
def ZHK(l:List α):Int:=l.length
def lN0(l:List α):Nat:=l.length
def ZH2(l:List α)(j:Nat)(d:α):α:=l.getD j d
def ZHC(l:List α)(j:Nat)(x:α):List α:=l.set j x
def ZH1(l:List α)(a b:Nat):List α:=(l.drop a).take (b-a)
def ZGF(l:List α)(n:Nat):List α:=l.take n
def ZH5(l m:List α):List α:=l++m
def ZHV(n:Int)(x:α):List α:=List.replicate n.toNat x
def ZHs(a:Bool):Bool:=!a
def ZHQ(a b:Bool):Bool:=a&&b
def ZIv(a b:Bool):Bool:=a||b
def ZHS(a b:Bool):Bool:=a == b
def ZHq(c:Bool)(x y:α):α:=bif c then x else y
end
structure ZIc where
 iAdd:∀ (k:IntKind) (a b:Int),Int
 iSub:∀ (k:IntKind) (a b:Int),Int
 iMul:∀ (k:IntKind) (a b:Int),Int
 iQuo:∀ (k:IntKind) (a b:Int),Int
 iRem:∀ (a b:Int),Int
 iAnd:∀ (k:IntKind) (a b:Int),Int
 iOr:∀ (k:IntKind) (a b:Int),Int
 iXor:∀ (k:IntKind) (a b:Int),Int
 iAndNot:∀ (k:IntKind) (a b:Int),Int
 iShl:∀ (k:IntKind) (a b:Int),Int
 iShr:∀ (k:IntKind) (a b:Int),Int
 iNeg:∀ (k:IntKind) (a:Int),Int
 iConv:∀ (k:IntKind) (a:Int),Int
 iMin:∀ (a b:Int),Int
 iMax:∀ (a b:Int),Int
 iNat:∀ (a:Int),Nat
 iEq:∀ (a b:Int),Bool
 iNe:∀ (a b:Int),Bool
 iLt:∀ (a b:Int),Bool
 iLe:∀ (a b:Int),Bool
 iGt:∀ (a b:Int),Bool
 iGe:∀ (a b:Int),Bool
 sAdd:∀ (a b:List UInt8),List UInt8
 sEq:∀ (a b:List UInt8),Bool
 sNe:∀ (a b:List UInt8),Bool
 sGet:∀ (s:List UInt8) (j:Int),Int
 sRow:∀ (s:List UInt8),List Int
 rowS:∀ (l:List Int),List UInt8
 lLen:∀ {α:Type} (l:List α),Int
 lN:∀ {α:Type} (l:List α),Nat
 lGet:∀ {α:Type} (l:List α) (j:Nat) (d:α),α
 lSet:∀ {α:Type} (l:List α) (j:Nat) (x:α),List α
 lSub:∀ {α:Type} (l:List α) (a b:Nat),List α
 lTake:∀ {α:Type} (l:List α) (n:Nat),List α
 lApp:∀ {α:Type} (l m:List α),List α
 lRep:∀ {α:Type} (n:Int) (x:α),List α
 bNot:∀ (a:Bool),Bool
 bAnd:∀ (a b:Bool),Bool
 bOr:∀ (a b:Bool),Bool
 bIff:∀ (a b:Bool),Bool
 bSel:∀ {α:Type} (c:Bool) (x y:α),α
def ZG5:ZIc:=⟨@ZH3,@ZIa,@ZHB,@ZH9,@ZHT,@ZHU,@ZIu,@ZHW,@ZCQ,@ZHw,@ZHA,@ZHL,@ZGX,@ZHF,@ZHz,@ZHr,@ZIn,@ZIz,@ZIl,@ZIp,@ZIy,@ZIm,@ZHv,@ZIk,@ZIx,@ZH6,@ZHt,@ZHx,@ZHK,@lN0,@ZH2,@ZHC,@ZH1,@ZGF,@ZH5,@ZHV,@ZHs,@ZHQ,@ZIv,@ZHS,@ZHq⟩
def leafS:{l:ZIc // l=ZG5}:=Classical.choice ⟨⟨ZG5,rfl⟩⟩
section
variable {α:Type}
@[irreducible] def iAdd(k:IntKind)(a b:Int):Int:=leafS.1.iAdd k a b
theorem ZAz(k:IntKind)(a b:Int):iAdd k a b=(k.wrap (a+b)):=by unfold iAdd;rw[leafS.2];rfl
@[irreducible] def iSub(k:IntKind)(a b:Int):Int:=leafS.1.iSub k a b
theorem ZDq(k:IntKind)(a b:Int):iSub k a b=(k.wrap (a-b)):=by unfold iSub;rw[leafS.2];rfl
@[irreducible] def iMul(k:IntKind)(a b:Int):Int:=leafS.1.iMul k a b
theorem ZGl(k:IntKind)(a b:Int):iMul k a b=(k.wrap (a*b)):=by unfold iMul;rw[leafS.2];rfl
@[irreducible] def iQuo(k:IntKind)(a b:Int):Int:=leafS.1.iQuo k a b
theorem ZGY(k:IntKind)(a b:Int):iQuo k a b=(k.wrap (a.tdiv b)):=by unfold iQuo;rw[leafS.2];rfl
@[irreducible] def iRem(a b:Int):Int:=leafS.1.iRem a b
theorem ZDu(a b:Int):iRem a b=(a.tmod b):=by unfold iRem;rw[leafS.2];rfl
@[irreducible] def iAnd(k:IntKind)(a b:Int):Int:=leafS.1.iAnd k a b
theorem ZGB(k:IntKind)(a b:Int):iAnd k a b=(k.wrap (BitVec.ofInt k.bits a &&& BitVec.ofInt k.bits b).toNat):=by unfold iAnd;rw[leafS.2];rfl
@[irreducible] def iOr(k:IntKind)(a b:Int):Int:=leafS.1.iOr k a b
theorem ZHp(k:IntKind)(a b:Int):iOr k a b=(k.wrap (BitVec.ofInt k.bits a ||| BitVec.ofInt k.bits b).toNat):=by unfold iOr;rw[leafS.2];rfl
@[irreducible] def iXor(k:IntKind)(a b:Int):Int:=leafS.1.iXor k a b
theorem ZF7(k:IntKind)(a b:Int):iXor k a b=(k.wrap (BitVec.ofInt k.bits a ^^^ BitVec.ofInt k.bits b).toNat):=by unfold iXor;rw[leafS.2];rfl
@[irreducible] def iAndNot(k:IntKind)(a b:Int):Int:=leafS.1.iAndNot k a b
theorem ZzM(k:IntKind)(a b:Int):iAndNot k a b=(k.wrap (BitVec.ofInt k.bits a &&& ~~~BitVec.ofInt k.bits b).toNat):=by unfold iAndNot;rw[leafS.2];rfl
@[irreducible] def iShl(k:IntKind)(a b:Int):Int:=leafS.1.iShl k a b
theorem ZG3(k:IntKind)(a b:Int):iShl k a b=(k.wrap (a*2^min b.toNat k.bits)):=by unfold iShl;rw[leafS.2];rfl
@[irreducible] def iShr(k:IntKind)(a b:Int):Int:=leafS.1.iShr k a b
theorem ZG4(k:IntKind)(a b:Int):iShr k a b=(a.fdiv (2^min b.toNat k.bits)):=by unfold iShr;rw[leafS.2];rfl
@[irreducible] def iNeg(k:IntKind)(a:Int):Int:=leafS.1.iNeg k a
theorem ZGp(k:IntKind)(a:Int):iNeg k a=(k.wrap (0-a)):=by unfold iNeg;rw[leafS.2];rfl
@[irreducible] def iConv(k:IntKind)(a:Int):Int:=leafS.1.iConv k a
theorem ZBA(k:IntKind)(a:Int):iConv k a=(k.wrap a):=by unfold iConv;rw[leafS.2];rfl
@[irreducible] def iMin(a b:Int):Int:=leafS.1.iMin a b
theorem ZGH(a b:Int):iMin a b=(if b<a then b else a):=by unfold iMin;rw[leafS.2];rfl
@[irreducible] def iMax(a b:Int):Int:=leafS.1.iMax a b
theorem ZFU(a b:Int):iMax a b=(if b > a then b else a):=by unfold iMax;rw[leafS.2];rfl
@[irreducible] def iNat(a:Int):Nat:=leafS.1.iNat a
theorem ZAs(a:Int):iNat a=(a.toNat):=by unfold iNat;rw[leafS.2];rfl
@[irreducible] def iEq(a b:Int):Bool:=leafS.1.iEq a b
theorem ZCl(a b:Int):iEq a b=(a == b):=by unfold iEq;rw[leafS.2];rfl
@[irreducible] def iNe(a b:Int):Bool:=leafS.1.iNe a b
theorem ZGb(a b:Int):iNe a b=(a != b):=by unfold iNe;rw[leafS.2];rfl
@[irreducible] def iLt(a b:Int):Bool:=leafS.1.iLt a b
theorem ZGr(a b:Int):iLt a b=(decide (a<b)):=by unfold iLt;rw[leafS.2];rfl
@[irreducible] def iLe(a b:Int):Bool:=leafS.1.iLe a b
theorem ZG6(a b:Int):iLe a b=(decide (a≤b)):=by unfold iLe;rw[leafS.2];rfl
@[irreducible] def iGt(a b:Int):Bool:=leafS.1.iGt a b
theorem ZGV(a b:Int):iGt a b=(decide (a > b)):=by unfold iGt;rw[leafS.2];rfl
@[irreducible] def iGe(a b:Int):Bool:=leafS.1.iGe a b
theorem ZGP(a b:Int):iGe a b=(decide (a≥b)):=by unfold iGe;rw[leafS.2];rfl
@[irreducible] def sAdd(a b:List UInt8):List UInt8:=leafS.1.sAdd a b
theorem ZDz(a b:List UInt8):sAdd a b=(a++b):=by unfold sAdd;rw[leafS.2];rfl
@[irreducible] def sEq(a b:List UInt8):Bool:=leafS.1.sEq a b
theorem ZG0(a b:List UInt8):sEq a b=(a == b):=by unfold sEq;rw[leafS.2];rfl
@[irreducible] def sNe(a b:List UInt8):Bool:=leafS.1.sNe a b
theorem ZFR(a b:List UInt8):sNe a b=(!(a == b)):=by unfold sNe;rw[leafS.2];rfl
@[irreducible] def sGet(s:List UInt8)(j:Int):Int:=leafS.1.sGet s j
theorem ZGt(s:List UInt8)(j:Int):sGet s j=((s.getD j.toNat 0).toNat):=by unfold sGet;rw[leafS.2];rfl
@[irreducible] def sRow(s:List UInt8):List Int:=leafS.1.sRow s
theorem ZFZ(s:List UInt8):sRow s=(s.map fun b=>((b.toNat:Nat):Int)):=by unfold sRow;rw[leafS.2];rfl
@[irreducible] def rowS(l:List Int):List UInt8:=leafS.1.rowS l
theorem ZGw(l:List Int):rowS l=(l.map fun n=>UInt8.ofNat n.toNat):=by unfold rowS;rw[leafS.2];rfl
@[irreducible] def lLen(l:List α):Int:=leafS.1.lLen l
theorem ZAr(l:List α):lLen l=(l.length):=by unfold lLen;rw[leafS.2];rfl
@[irreducible] def lN(l:List α):Nat:=leafS.1.lN l
theorem ZF0(l:List α):lN l=(l.length):=by unfold lN;rw[leafS.2];rfl
@[irreducible] def lGet(l:List α)(j:Nat)(d:α):α:=leafS.1.lGet l j d
theorem Zsj(l:List α)(j:Nat)(d:α):lGet l j d=(l.getD j d):=by unfold lGet;rw[leafS.2];rfl
@[irreducible] def lSet(l:List α)(j:Nat)(x:α):List α:=leafS.1.lSet l j x
theorem ZtM(l:List α)(j:Nat)(x:α):lSet l j x=(l.set j x):=by unfold lSet;rw[leafS.2];rfl
@[irreducible] def lSub(l:List α)(a b:Nat):List α:=leafS.1.lSub l a b
theorem ZBk(l:List α)(a b:Nat):lSub l a b=((l.drop a).take (b-a)):=by unfold lSub;rw[leafS.2];rfl
@[irreducible] def lTake(l:List α)(n:Nat):List α:=leafS.1.lTake l n
theorem ZvR(l:List α)(n:Nat):lTake l n=(l.take n):=by unfold lTake;rw[leafS.2];rfl
@[irreducible] def lApp(l m:List α):List α:=leafS.1.lApp l m
theorem Zpx(l m:List α):lApp l m=(l++m):=by unfold lApp;rw[leafS.2];rfl
@[irreducible] def lRep(n:Int)(x:α):List α:=leafS.1.lRep n x
theorem ZDW(n:Int)(x:α):lRep n x=(List.replicate n.toNat x):=by unfold lRep;rw[leafS.2];rfl
@[irreducible] def bNot(a:Bool):Bool:=leafS.1.bNot a
theorem Zr2(a:Bool):bNot a=(!a):=by unfold bNot;rw[leafS.2];rfl
@[irreducible] def bAnd(a b:Bool):Bool:=leafS.1.bAnd a b
theorem Zz7(a b:Bool):bAnd a b=(a&&b):=by unfold bAnd;rw[leafS.2];rfl
@[irreducible] def bOr(a b:Bool):Bool:=leafS.1.bOr a b
theorem ZGh(a b:Bool):bOr a b=(a||b):=by unfold bOr;rw[leafS.2];rfl
@[irreducible] def bIff(a b:Bool):Bool:=leafS.1.bIff a b
theorem ZDp(a b:Bool):bIff a b=(a == b):=by unfold bIff;rw[leafS.2];rfl
@[irreducible] def bSel(c:Bool)(x y:α):α:=leafS.1.bSel c x y
theorem ZAt(c:Bool)(x y:α):bSel c x y=(bif c then x else y):=by unfold bSel;rw[leafS.2];rfl
end
mutual
inductive CT where
 |int (k:IntKind)|bool|str|ifc|sl (r:RT)
inductive RT where
 |one (t:CT)|cons (t:CT) (r:RT)
end
abbrev rI3:RT:=.cons (.int .i64) (.cons (.int .i64) (.one (.int .i64)))
abbrev rI4:RT:=.cons (.int .i64) (.cons (.int .i64) (.cons (.int .i64) (.one (.int .i64))))
abbrev rI5:RT:=.cons (.int .i64) (.cons (.int .i64) (.cons (.int .i64) (.cons (.int .i64) (.one (.int .i64)))))
mutual
def CT.D:CT→Type
 |.int _=>Int
 |.bool=>Bool
 |.str=>List UInt8
 |.ifc=>Bool
 |.sl r=>List r.D
def RT.D:RT→Type
 |.one t=>t.D
 |.cons t r=>t.D×r.D
end
def RT.w:RT→Nat
 |.one _=>1
 |.cons _ r=>r.w+1
def CT.dflt:(t:CT)→t.D
 |.int _=>(0:Int)
 |.bool=>false
 |.str=>([]:List UInt8)
 |.ifc=>true
 |.sl r=>([]:List r.D)
def RT.dflt:(r:RT)→r.D
 |.one t=>t.dflt
 |.cons t r=>(t.dflt,r.dflt)
mutual
def CT.beq:CT→CT→Bool
 |.int k,.int k'=>decide (k=k')
 |.bool,.bool=>true
 |.str,.str=>true
 |.ifc,.ifc=>true
 |.sl r,.sl r'=>RT.beq r r'
 |_,_=>false
def RT.beq:RT→RT→Bool
 |.one t,.one t'=>CT.beq t t'
 |.cons t r,.cons t' r'=>CT.beq t t'&&RT.beq r r'
 |_,_=>false
end
mutual
theorem CT.beq_eq:∀ {a b:CT},CT.beq a b=true→a=b
 |.int k,.int k',h=>by simp only[CT.beq,decide_eq_true_eq] at h;rw[h]
 |.bool,.bool,_=>rfl
 |.str,.str,_=>rfl
 |.ifc,.ifc,_=>rfl
 |.sl r,.sl r',h=>by rw[RT.beq_eq (a:=r) (b:=r') h]
 |.int _,.bool,h|.int _,.str,h|.int _,.ifc,h|.int _,.sl _,h=>by cases h
 |.bool,.int _,h|.bool,.str,h|.bool,.ifc,h|.bool,.sl _,h=>by cases h
 |.str,.int _,h|.str,.bool,h|.str,.ifc,h|.str,.sl _,h=>by cases h
 |.ifc,.int _,h|.ifc,.bool,h|.ifc,.str,h|.ifc,.sl _,h=>by cases h
 |.sl _,.int _,h|.sl _,.bool,h|.sl _,.str,h|.sl _,.ifc,h=>by cases h
theorem RT.beq_eq:∀ {a b:RT},RT.beq a b=true→a=b
 |.one t,.one t',h=>by rw[CT.beq_eq (a:=t) (b:=t') h]
 | .cons t r,.cons t' r',h=>by
   simp only[RT.beq,Bool.and_eq_true] at h
   rw[CT.beq_eq h.1,RT.beq_eq h.2]
 |.one _,.cons _ _,h=>by cases h
 |.cons _ _,.one _,h=>by cases h
end
def ZvT{r' r:RT}(l:List r'.D):Option (List r.D):=if h:RT.beq r' r=true then some ((congrArg (fun x:RT=>List x.D) (RT.beq_eq h)).mp l) else none
inductive BX where
 |lit (b:Bool)|dyn (b:Bool)
def BX.b:BX→Bool
 |.lit b=>b
 |.dyn b=>b
inductive DV where
 |any
 |undef
 |bool (b:BX)
 |int (k:IntKind) (n:Int)
 |str (s:List UInt8)
 |ifc (b:Bool)
 |nil (q:Ql)
 |sl (q:Ql) (r:RT) (l:List r.D)
 |ep (q:Ql) (r:RT) (l:List r.D) (j o:Nat)
 |box (i o:Nat)
 |ptr (i o:Nat)
 |agg (cs:List DV)
 |tup (vs:List DV)
 deriving Inhabited
mutual
def CT.enc:(t:CT)→t.D→PV
 |.int k,n=>.fl (.int k n)
 |.bool,b=>.fl (.bool b)
 |.str,s=>.fl (.str s)
 |.ifc,b=>.fl (.ifc b)
 |.sl r,l=>.sl .own (l.map (RT.enc r))
def RT.enc:(r:RT)→r.D→List PV
 |.one t,x=>[CT.enc t x]
 |.cons t r,x=>CT.enc t x.1::RT.enc r x.2
end
mutual
def DV.enc:DV→PV
 |.any=>.fl .undef
 |.undef=>.fl .undef
 |.bool b=>.fl (.bool b.b)
 |.int k n=>.fl (.int k n)
 |.str s=>.fl (.str s)
 |.ifc b=>.fl (.ifc b)
 |.nil q=>.sl q []
 |.sl q r l=>.sl q (l.map r.enc)
 |.ep q r l j o=>.ep q (l.map r.enc) j o
 |.box i o=>.box i o
 |.ptr i o=>.ptr i o
 |.agg cs=>.agg (DV.encL cs)
 |.tup vs=>.tup (DV.encL vs)
def DV.encL:List DV→List PV
 |[]=>[]
 |v::r=>v.enc::DV.encL r
end
def CT.dv(q:Ql):(t:CT)→t.D→DV
 |.int k,n=>.int k n
 |.bool,b=>.bool (.dyn b)
 |.str,s=>.str s
 |.ifc,b=>.ifc b
 |.sl r,l=>.sl q r l
def RT.dv(q:Ql):(r:RT)→r.D→List DV
 |.one t,x=>[CT.dv q t x]
 |.cons t r,x=>CT.dv q t x.1::RT.dv q r x.2
def CT.of:(t:CT)→DV→Option t.D
 |.int k,.int k' n=>if k=k' then some n else none
 |.bool,.bool b=>some b.b
 |.str,.str s=>some s
 |.ifc,.ifc b=>some b
 |.sl r,.nil .own=>some ([]:List r.D)
 |.sl r,.sl .own r' l=>ZvT (r':=r') (r:=r) l
 |_,_=>none
def RT.of:(r:RT)→List DV→Option r.D
 |.one t,[v]=>t.of v
 | .cons t r,v::vs=>(match t.of v,r.of vs with
   |some x,some y=>some (x,y)
   |_,_=>none)
 |_,_=>none
def DV.ty:DV→Option CT
 |.int k _=>some (.int k)
 |.bool _=>some .bool
 |.str _=>some .str
 |.ifc _=>some .ifc
 |.sl _ r _=>some (.sl r)
 |_=>none
def tyL:List DV→Option RT
 |[]=>none
 |[v]=>v.ty.map .one
 | v::r=>(match v.ty,tyL r with
   |some t,some r=>some (.cons t r)
   |_,_=>none)
def DV.cells:DV→List DV
 |.agg cs=>cs
 |v=>[v]
def Ql.own':Ql→Bool
 |.own|.ownw _=>true
 |_=>false
def Ql.bor' (hd:Hd):Ql→Bool
 |.bor h _ _=>h == hd
 |.pre h _=>h == hd
 |_=>false
mutual
def DV.own:DV→Bool
 |.nil q=>q.own'
 |.sl q _ _=>q.own'
 |.agg cs=>DV.ownL cs
 |.tup vs=>DV.ownL vs
 |_=>false
def DV.ownL:List DV→Bool
 |[]=>false
 |v::r=>v.own||DV.ownL r
end
mutual
def DV.bor(hd:Hd):DV→Bool
 |.nil q=>q.bor' hd
 |.sl q _ _=>q.bor' hd
 |.ep q _ _ _ _=>q.bor' hd
 |.agg cs=>DV.borL hd cs
 |.tup vs=>DV.borL hd vs
 |_=>false
def DV.borL(hd:Hd):List DV→Bool
 |[]=>false
 |v::r=>v.bor hd||DV.borL hd r
end
mutual
def DV.hold:DV→Bool
 |.nil q=>(match q with|.frz=>false|_=>true)
 |.sl q _ _=>(match q with|.frz=>false|_=>true)
 |.ep q _ _ _ _=>(match q with|.frz=>false|_=>true)
 |.agg cs=>DV.holdL cs
 |.tup vs=>DV.holdL vs
 |_=>false
def DV.holdL:List DV→Bool
 |[]=>false
 |v::r=>v.hold||DV.holdL r
end
mutual
def DV.fz:DV→DV
 |.nil _=>.nil .frz
 |.sl _ r l=>.sl .frz r l
 |.ep _ r l j o=>.ep .frz r l j o
 |.agg cs=>.agg (DV.fzL cs)
 |.tup vs=>.tup (DV.fzL vs)
 |v=>v
def DV.fzL:List DV→List DV
 |[]=>[]
 |v::r=>v.fz::DV.fzL r
end
def Ql.detop:Ql→Ql
 |.bor h p _=>.bor h p false
 |.pre h p=>.bor h p false
 |q=>q
mutual
def DV.detop:DV→DV
 |.nil q=>.nil q.detop
 |.sl q r l=>.sl q.detop r l
 |.ep q r l j o=>.ep q.detop r l j o
 |.agg cs=>.agg (DV.detopL cs)
 |.tup vs=>.tup (DV.detopL vs)
 |v=>v
def DV.detopL:List DV→List DV
 |[]=>[]
 |v::r=>v.detop::DV.detopL r
end
mutual
def DV.hasPtr:DV→Bool
 |.ptr _ _=>true
 |.agg cs=>DV.hasPtrL cs
 |.tup vs=>DV.hasPtrL vs
 |_=>false
def DV.hasPtrL:List DV→Bool
 |[]=>false
 |v::r=>v.hasPtr||DV.hasPtrL r
end
mutual
def DV.deep:DV→Bool
 |.undef|.bool _|.int _ _|.str _|.ifc _=>true
 |.nil q=>q.own'
 |.sl q _ _=>q.own'
 |.agg cs=>DV.deepL cs
 |.tup vs=>DV.deepL vs
 |.ptr _ _=>true
 |_=>false
def DV.deepL:List DV→Bool
 |[]=>true
 |v::r=>v.deep&&DV.deepL r
end
def DV.cell:DV→Bool
 |.bool _|.int _ _|.str _|.ifc _=>true
 |.nil q=>(match q with|.own|.frz|.ownw _=>true|_=>false)
 |.sl q _ _=>(match q with|.own|.frz|.ownw _=>true|_=>false)
 |_=>false
def Zfd:List DV→Bool
 |[]=>true
 |v::r=>v.cell&&Zfd r
def DV.argc:DV→Bool
 |.bool _|.int _ _|.str _|.ifc _|.nil _|.sl _ _ _|.ptr _ _=>true
 |_=>false
def ZB9:List DV→Bool
 |[]=>true
 |v::r=>v.argc&&ZB9 r
def DV.argok:DV→Bool
 |.agg cs=>ZB9 cs
 |v=>v.argc
def ZiU:List DV→Bool
 |[]=>true
 |v::r=>v.argok&&ZiU r
def DV.retc:DV→Bool
 |.ptr _ _=>true
 |v=>v.cell
def Zrz:List DV→Bool
 |[]=>true
 |v::r=>v.retc&&Zrz r
def DV.retok:DV→Bool
 |.agg cs=>Zrz cs
 |v=>v.retc
def CT.flat:CT→Bool
 |.sl _=>false
 |_=>true
def RT.flat:RT→Bool
 |.one t=>t.flat
 |.cons t r=>t.flat&&r.flat
structure DC where
 d:Bool
 v:DV
structure DS where
 sl:List DC
 bx:List (List DC)
 hp:List (List DC)
def Zip:List DC→Nat→DV
 |[],_=>.any
 |x::_,0=>x.v
 |_::r,n+1=>Zip r n
def ZqZ:List DC→Nat→DV→List DC
 |[],_,_=>[]
 |_::r,0,v=>⟨true,v⟩::r
 |x::r,n+1,v=>x::ZqZ r n v
def ZdU:List (List DC)→Nat→List DC
 |[],_=>[]
 |x::_,0=>x
 |_::r,n+1=>ZdU r n
def Zml:List (List DC)→Nat→List DC→List (List DC)
 |[],_,_=>[]
 |_::r,0,v=>v::r
 |x::r,n+1,v=>x::Zml r n v
def Zjf:List DC→Nat→List DV→List DC
 |cs,_,[]=>cs
 |[],_,_::_=>[]
 |_::r,0,v::vs=>⟨true,v⟩::Zjf r 0 vs
 |c::r,n+1,v::vs=>c::Zjf r n (v::vs)
def Zjo:List DV→Nat→List DV→List DV
 |cs,_,[]=>cs
 |[],_,_::_=>[]
 |_::r,0,v::vs=>v::Zjo r 0 vs
 |c::r,n+1,v::vs=>c::Zjo r n (v::vs)
def ZxJ:List DV→Nat→DV
 |[],_=>.any
 |x::_,0=>x
 |_::r,n+1=>ZxJ r n
def ZFP:List DV→Nat→DV→List DV
 |[],_,_=>[]
 |_::r,0,v=>v::r
 |x::r,n+1,v=>x::ZFP r n v
def Zes:List DV→Nat→Nat→List DV
 |_,0,0=>[]
 |[],_,_=>[]
 |c::r,0,n+1=>c::Zes r 0 n
 |_::r,o+1,n=>Zes r o n
def Zkr:List DC→List DV
 |[]=>[]
 |c::r=>c.v::Zkr r
def news:List DV→List DC
 |[]=>[]
 |v::r=>⟨true,v⟩::news r
def Zq1(hd:Hd):List DC→List DC
 |[]=>[]
 |c::r=>(if c.v.bor hd then ⟨true,.any⟩ else c)::Zq1 hd r
def DV.isBox(i:Nat):DV→Bool
 |.box j _=>i == j
 |_=>false
def ZkA(i:Nat):List DC→List DC
 |[]=>[]
 |c::r=>(if c.v.isBox i then ⟨true,.any⟩ else c)::ZkA i r
def ZB7(live:List Nat):Nat→List DC→List DC
 |_,[]=>[]
 |n,c::r=>(if live.contains n then c else ⟨true,.any⟩)::ZB7 live (n+1) r
def clean:List DC→List DC
 |[]=>[]
 |c::r=>⟨false,c.v⟩::clean r
def Zsq:List (List DC)→List (List DC)
 |[]=>[]
 |b::r=>clean b::Zsq r
def DS.clean(st:DS):DS:=⟨Go.Ag.clean st.sl,Zsq st.bx,Zsq st.hp⟩
def ZHE:List DC→List PV
 |[]=>[]
 |c::r=>c.v.enc::ZHE r
def ZHn:List (List DC)→List (List PV)
 |[]=>[]
 |b::r=>ZHE b::ZHn r
def DS.enc(st:DS):PS:=⟨ZHE st.sl,ZHn st.bx,ZHn st.hp⟩
inductive PX where
 |tt|ff|p (h:Prop)|and (a b:PX)|ite (c:Bool) (a b:PX)
def PX.den:PX→Prop
 |.tt=>True
 |.ff=>False
 |.p h=>h
 |.and a b=>a.den∧b.den
 |.ite c a b=>(c=true→a.den)∧(c=false→b.den)
def PX.land:PX→PX→PX
 |.tt,b=>b
 |.ff,_=>.ff
 |a,.tt=>a
 |a,b=>.and a b
def PX.if' (c:Bool):PX→PX→PX
 |.tt,.tt=>.tt
 |a,b=>.ite c a b
def ZBO:V→DV
 |.nils=>.nil .own
 |.tup []=>.tup []
 |.bool b=>.bool (.lit b)
 |.int k n=>.int k n
 |.str s=>.str s
 |.ifc b=>.ifc b
 |_=>.undef
def Zys:List V→List DV
 |[]=>[]
 |v::r=>ZBO v::Zys r
def Opnd.dev(s:List DC):Opnd→DV
 |.t n=>Zip s n
 |.c v=>ZBO v
end
noncomputable section
mutual
def DV.ok:DV→Bool
 |.any=>false
 |.agg cs=>DV.okL cs
 |.tup vs=>DV.okL vs
 |_=>true
def DV.okL:List DV→Bool
 |[]=>true
 |v::r=>v.ok&&DV.okL r
end
def DS.put(st:DS)(d:Option Nat)(v:DV):DS:=
 match d with
 |none=>st
 |some d=>if v.own then { st with sl:=Zq1 (.s d) (ZqZ st.sl d v) } else { st with sl:=ZqZ st.sl d v }
def ZFW(v:DV)(n:Nat)(st:DS):DV×DS:=if v.own then (if v.bor (.s n) then (.any,st) else (v,{ st with sl:=Zq1 (.s n) (ZqZ st.sl n .any) })) else (v,st)
def Za8(x:Opnd)(st:DS):DV×DS:=match x with
 |.c v=>(ZBO v,st)
 |.t n=>ZFW (Zip st.sl n) n st
def ZHh(v:DV)(n:Nat)(st:DS):DV×DS:=if v.own then (if v.retok then (v.fz,{ st with sl:=Zq1 (.s n) (ZqZ st.sl n v.fz) }) else (.any,st)) else (v,st)
def Zqn(x:Opnd)(st:DS):DV×DS:=match x with
 |.c v=>(ZBO v,st)
 |.t n=>ZHh (Zip st.sl n) n st
def DV.fcell:DV→List Nat→DV
 |.agg cs,[c]=>ZxJ cs c
 |.agg _,_=>.any
 |.tup vs,[i,c]=>ZxJ (ZxJ vs i).cells c
 |.tup _,_=>.any
 |v,[0]=>v
 |_,_=>.any
def DV.setc:DV→List Nat→DV→DV
 |.agg cs,[c],w=>.agg (ZFP cs c w)
 |.agg cs,_,_=>.agg cs
 |.tup vs,_,_=>.tup vs
 |_,[0],w=>w
 |v,_,_=>v
def Zfg(st:DS):Hd→List Nat→DV
 |.s t,p=>(Zip st.sl t).fcell p
 |.b i,[c]=>Zip (ZdU st.bx i) c
 |.h i,[c]=>Zip (ZdU st.hp i) c
 |_,_=>.any
def Znv(st:DS)(v:DV):Hd→List Nat→DS
 |.s t,p=>{ st with sl:=Zq1 (.s t) (ZqZ st.sl t ((Zip st.sl t).setc p v)) }
 |.b i,[c]=>{ st with sl:=Zq1 (.b i) st.sl,bx:=Zml st.bx i (ZqZ (ZdU st.bx i) c v) }
 |.h i,[c]=>{ st with sl:=Zq1 (.h i) st.sl,hp:=Zml st.hp i (ZqZ (ZdU st.hp i) c v) }
 |_,_=>st
def Ql.brw(hd:Hd)(p:List Nat):Ql→Ql
 |.own=>.bor hd p true
 |.ownw _=>.pre hd p
 |q=>q
def ZFh(hd:Hd)(p:List Nat):DV→DV
 |.sl q r l=>.sl (q.brw hd p) r l
 |.nil q=>.nil (q.brw hd p)
 |v=>v
def Zrg(hd:Hd):Nat→List DV→List DV
 |_,[]=>[]
 |c,v::r=>ZFh hd [c] v::Zrg hd (c+1) r
def ZFB(hd:Hd):DV→DV
 |.agg cs=>.agg (Zrg hd 0 cs)
 |.tup vs=>if DV.ownL vs then .undef else .tup vs
 |v=>ZFh hd [0] v
def ZmS(x:Opnd)(st:DS):DV×DS:=match x with
 |.c v=>(ZBO v,st)
 |.t n=>(ZFB (.s n) (Zip st.sl n),st)
def ZFK:Ql→Option Ql
 |.frz=>some .frz
 |.bor hd _ _=>some (.bor hd [] false)
 |.pre hd _=>some (.bor hd [] false)
 |_=>none
def ZxT:List DV→List DV
 |[]=>[]
 |v::r=>(if v.own then .any else v)::ZxT r
def Zis(n:Option Nat)(cs:List DV):Option DV:=
 match n,cs with
 |some _,cs=>some (.agg cs)
 |none,[v]=>some v
 |none,_=>none
def ZkE(d:Nat):Option DV→Option (PX×Nat)
 |none=>some (.tt,d)
 |some (.int _ i)=>some (.p (0≤i),iNat i)
 |some _=>none
def ZrL:List DV→List (Nat×Nat×Opnd)→DS→Option (List DV×DS)
 |cs,[],st=>some (cs,st)
 | cs,(off,size,x)::r,st=>
   if (Za8 x st).1.cells.length == size&&Nat.ble (off+size) cs.length&&Zfd (Za8 x st).1.cells then ZrL (Zjo cs off (Za8 x st).1.cells) r (Za8 x st).2 else none
abbrev DO:=Option (PX×DV)
def dok(v:DV):DO:=some (.tt,v)
def dI(k:IntKind)(n:Int):DO:=some (.tt,.int k n)
def dB(b:Bool):DO:=some (.tt,.bool (.dyn b))
def Ztv(op:BinOp)(k:IntKind)(a b:Int):DO:=
 match op with
 |.add=>dI k (iAdd k a b)
 |.sub=>dI k (iSub k a b)
 |.mul=>dI k (iMul k a b)
 |.quo=>some (.p (b≠0),.int k (iQuo k a b))
 |.rem=>some (.p (b≠0),.int k (iRem a b))
 |.and=>dI k (iAnd k a b)
 |.or=>dI k (iOr k a b)
 |.xor=>dI k (iXor k a b)
 |.andNot=>dI k (iAndNot k a b)
 |.eql=>dB (iEq a b)
 |.neq=>dB (iNe a b)
 |.lss=>dB (iLt a b)
 |.leq=>dB (iLe a b)
 |.gtr=>dB (iGt a b)
 |.geq=>dB (iGe a b)
 |_=>none
def ZwT(op:BinOp)(k:IntKind)(a b:Int):DO:=
 match op with
 |.shl=>some (.p (0≤b),.int k (iShl k a b))
 |.shr=>some (.p (0≤b),.int k (iShr k a b))
 |_=>none
def IntKind.same(k k':IntKind):Bool:=decide (k=k')
def ZFH(op:BinOp)(x y:DV):DO:=
 match x,y with
 | .int k a,.int k' b=>(match op with
   |.shl=>ZwT .shl k a b
   |.shr=>ZwT .shr k a b
   |op=>if IntKind.same k k' then Ztv op k a b else none)
 | .str a,.str b=>(match op with
   |.add=>some (.p (a.length+b.length≤9223372036854775807),.str (sAdd a b))
   |.eql=>dB (sEq a b)
   |.neq=>dB (sNe a b)
   |_=>none)
 |_,_=>none
def BX.not:BX→BX
 |.lit b=>.lit (!b)
 |.dyn b=>.dyn (bNot b)
def BX.eq:BX→BX→BX
 |.lit a,.lit b=>.lit (a == b)
 |.lit true,.dyn b=>.dyn b
 |.lit false,.dyn b=>.dyn (bNot b)
 |.dyn a,.lit true=>.dyn a
 |.dyn a,.lit false=>.dyn (bNot a)
 |.dyn a,.dyn b=>.dyn (bIff a b)
def ZHd(neg:Bool):DV→DV→DO
 |.bool a,.bool b=>dok (.bool (if neg then (a.eq b).not else a.eq b))
 |_,_=>none
def ZHJ(neg:Bool):DV→DO
 |.ifc a=>dB (if neg then bNot a else a)
 |_=>none
def Zi0:List DV→List DV→Option BX
 |[],[]=>some (.lit true)
 |.int k a::x,.int k' b::y=>if IntKind.same k k' then (match x,y with
  |[],[]=>some (.dyn (iEq a b))
  |x,y=>(Zi0 x y).map fun t=>.dyn (bAnd (iEq a b) t.b)) else none
 |_,_=>none
def ZG8(n:Nat)(neg:Bool):DV→DV→DO
 | .agg a,.agg b=>if a.length == n&&b.length == n then (match Zi0 a b with
   |some t=>dok (.bool (if neg then t.not else t))
   |none=>none) else none
 |_,_=>none
def dun(op:UnOp)(x:DV):DO:=
 match op,x with
 |.not,.bool b=>dok (.bool b.not)
 |.neg,.int k n=>dI k (iNeg k n)
 |_,_=>none
def ZFl(k:IntKind):DV→DO
 |.int _ n=>dI k (iConv k n)
 |_=>none
def Zw3:(r:RT)→List r.D→Option (List UInt8)
 |.one (.int .u8),l=>some (rowS l)
 |_,_=>none
def ZFA:DV→DO
 |.nil _=>dok (.str [])
 |.sl _ r l=>(Zw3 r l).map fun s=>(.tt,.str s)
 |_=>none
def ZIh(x:Opnd)(z:Bool)(q:Ql):Option Ql:=ZuY x (if z then 0 else 1) q
def ZA0(w:Nat)(x:Opnd)(lo hi:Option DV):DV→DO
 | .sl q r l=>(match ZkE 0 lo,ZkE (lN l) hi with
   | some (g,a),some (g',b)=>if r.w == w then (match ZIh x lo.isNone q with
     |some q'=>some ((g.land g').land (.p (a≤b∧b≤l.length∧0<l.length)),.sl q' r (lSub l a b))
     |none=>none) else none
   |_,_=>none)
 |_=>none
def Zv4(lo hi:Option DV):DV→DO
 | .str t=>(match ZkE 0 lo,ZkE (lN t) hi with
   |some (g,a),some (g',b)=>some ((g.land g').land (.p (a≤b∧b≤t.length)),.str (lSub t a b))
   |_,_=>none)
 |_=>none
def ZzA:DV→DO
 |.box i o=>dok (.box i o)
 |.ptr i o=>dok (.ptr i o)
 |.ep q r l j o=>dok (.ep q r l j o)
 |_=>none
def Zva(off:Nat):DV→DO
 |.box i o=>dok (.box i (o+off))
 |.ptr i o=>dok (.ptr i (o+off))
 |.ep q r l j o=>dok (.ep q r l j (o+off))
 |_=>none
def Zz2(off:Nat)(n:Option Nat)(x:Opnd):DV→DO
 | .agg cs=>(match x with
   |.t t=>if Nat.ble (off+n.getD 1) cs.length&&DV.okL (Zes cs off (n.getD 1)) then (Zis n (Zrg (.s t) off (Zes cs off (n.getD 1)))).map fun v=>(.tt,v) else none
   |.c _=>none)
 |_=>none
def Zqu(w:Nat)(x:Opnd):DV→DV→DO
 | .sl q r l,.int _ j=>if r.w == w then (match ZuW x q with
   |some q'=>some (.p (0≤j∧j<l.length),.ep q' r l (iNat j) 0)
   |none=>none) else none
 |.nil _,.int _ _=>none
 |_,_=>none
def Zws:DV→DV→DO
 |.str t,.int _ j=>some (.p (0≤j∧j<t.length),.int .u8 (sGet t j))
 |_,_=>none
def ZIb:DV→DO
 |.sl _ _ l=>dI .i64 (lLen l)
 |.nil _=>dI .i64 0
 |_=>none
def ZE4:DV→DO
 |.str t=>dI .i64 (lLen t)
 |_=>none
def ZH0:DV→DV→DO
 |.int .i64 a,.int .i64 b=>dI .i64 (iMin a b)
 |_,_=>none
def ZHM:DV→DV→DO
 |.int .i64 a,.int .i64 b=>dI .i64 (iMax a b)
 |_,_=>none
abbrev DOS:=Option (PX×DV×DS)
def Zp4(m:Bool)(i:Nat)(n:Option Nat)(a:DV)(st:DS):DOS:=
 match a with
 | .box j o=>
   let cs:=Zes (Zkr (ZdU st.bx i)) o (n.getD 1)
   if i == j&&Nat.ble (o+n.getD 1) (ZdU st.bx i).length&&DV.okL cs then
    if m then (Zis n cs).map fun v=>(.tt,v,{ st with sl:=Zq1 (.b i) st.sl,bx:=Zml st.bx i (Zjf (ZdU st.bx i) o (ZxT cs)) })
    else (Zis n (Zrg (.b i) o cs)).map fun v=>(.tt,v,st)
   else none
 |_=>none
def ZnL(m:Bool)(n:Option Nat)(a:DV)(st:DS):DOS:=
 match a with
 | .ptr i o=>
   let cs:=Zes (Zkr (ZdU st.hp i)) o (n.getD 1)
   if Nat.blt i st.hp.length&&Nat.ble (o+n.getD 1) (ZdU st.hp i).length&&DV.okL cs then
    if m then (Zis n cs).map fun v=>(.tt,v,{ st with sl:=Zq1 (.h i) st.sl,hp:=Zml st.hp i (Zjf (ZdU st.hp i) o (ZxT cs)) })
    else (Zis n (Zrg (.h i) o cs)).map fun v=>(.tt,v,st)
   else none
 | .ep q r l j o=>(match ZFK q with
   |some q'=>if Nat.ble (o+n.getD 1) r.w then (Zis n (Zes (r.dv q' (lGet l j r.dflt)) o (n.getD 1))).map fun v=>(.p (j<l.length),v,st) else none
   |none=>none)
 |_=>none
def Zp0(i n:Nat)(a x:Opnd)(st0:DS):DOS:=
 match Za8 x st0 with
 | (v, st)=>match a.dev st0.sl with
   |.box j o=>if i == j&&Nat.blt i st.bx.length&&v.cells.length == n&&Nat.ble (o+n) (ZdU st.bx i).length&&Zfd v.cells then
    some (.tt,.undef,{ st with sl:=if (!DV.okL (Zes (Zkr (ZdU st.bx i)) o n))||DV.ownL (Zes (Zkr (ZdU st.bx i)) o n)||v.own then Zq1 (.b i) st.sl else st.sl,bx:=Zml st.bx i (Zjf (ZdU st.bx i) o v.cells) }) else none
   |_=>none
def Zpo(n:Nat)(a x:Opnd)(st0:DS):DOS:=
 match Za8 x st0 with
 | (v, st)=>match a.dev st.sl with
   |.ptr i o=>if Nat.blt i st.hp.length&&v.cells.length == n&&Nat.ble (o+n) (ZdU st.hp i).length&&Zfd v.cells then
    some (.tt,.undef,{ st with sl:=if (!DV.okL (Zes (Zkr (ZdU st.hp i)) o n))||DV.ownL (Zes (Zkr (ZdU st.hp i)) o n)||v.own then Zq1 (.h i) st.sl else st.sl,hp:=Zml st.hp i (Zjf (ZdU st.hp i) o v.cells) }) else none
   | .ep (.bor hd [p] true) _ _ j o=>(match Zfg st hd [p] with
     | .sl .own r l=>if v.cells.length == n&&Nat.ble (o+n) r.w&&Zfd v.cells then (match r.of (Zjo (r.dv .own (lGet l j r.dflt)) o v.cells) with
       |some y=>some (.p (j<l.length),.undef,Znv st (.sl .own r (lSet l j y)) hd [p])
       |none=>none) else none
     |_=>none)
   |_=>none
def Zn3(m:Bool)(n:Option Nat)(a:DV)(st:DS):Option DOS:=
 match m,n,a with
 | true,none,.ep (.bor hd [c] true) (.one (.sl _)) l j 0=>some (match Zfg st hd [c] with
   |.sl .own (.one (.sl r)) l2=>some (.p (j<l.length∧j<l2.length),.sl (.bor hd [c,j] true) r (lGet (α:=List r.D) l2 j []),st)
   |_=>none)
 |_,_,_=>none
def DV.nest:DV→Option (Hd×Nat×Nat×Nat×Nat)
 |.ep (.bor hd [p,k] true) _ _ j o=>some (hd,p,k,j,o)
 |_=>none
def DV.nflat:DV→Bool
 |.bool _|.int _ _|.str _|.ifc _=>true
 |_=>false
def ZqO:List DV→Bool
 |[]=>true
 |v::r=>v.nflat&&ZqO r
def ZqM(n:Nat)(hd:Hd)(p k j o:Nat)(v:DV)(st:DS):DOS:=
 match Zfg st hd [p] with
 | .sl .own (.one (.sl r)) l=>if v.cells.length == n&&Nat.ble (o+n) r.w&&ZqO v.cells then (match r.of (Zjo (r.dv .own (lGet (lGet (α:=List r.D) l k []) j r.dflt)) o v.cells) with
   |some y=>some (.p (k<l.length∧j<(lGet (α:=List r.D) l k []).length),.undef,Znv st (.sl .own (.one (.sl r)) (lSet (α:=List r.D) l k (lSet (lGet (α:=List r.D) l k []) j y))) hd [p])
   |none=>none) else none
 |_=>none
inductive DSrc where
 |nil
 |sl (r:RT) (l:List r.D)
def DSrc.w:DSrc→Nat→Bool
 |.nil,_=>true
 |.sl r _,w=>r.w == w
def DSrc.to(r:RT):DSrc→Option (List r.D)
 |.nil=>some []
 |.sl _ l=>ZvT l
def ZBM(w:Nat)(y:Opnd)(st:DS):Option (DSrc×DS):=
 match y.dev st.sl with
 |.str s=>if w == 1 then some (.sl (.one (.int .u8)) (sRow s),st) else none
 |.sl .own r l=>if r.w == w then some (.sl r l,(Za8 y st).2) else none
 |.sl (.ownw _) _ _=>none
 |.sl _ r l=>if r.w == w&&r.flat then some (.sl r l,st) else none
 |.nil .own=>some (.nil,(Za8 y st).2)
 |.nil _=>some (.nil,st)
 |_=>none
def ZD3(w:Nat)(x:Opnd)(new:DSrc)(st:DS):DOS:=
 if !(Nat.blt 0 w&&new.w w) then none else
 match x.dev st.sl with
 | .nil .own=>(match new with
   |.nil=>some (.tt,.nil .own,(Za8 x st).2)
   |.sl r l=>some (.p (Zbu (l.length*w)),.sl .own r l,(Za8 x st).2))
 | .sl .own r l=>if r.w == w then (match new.to r with
   |some n=>some (.p (Zbu ((l.length+n.length)*w)),.sl .own r (lApp l n),(Za8 x st).2)
   |none=>none) else none
 | .sl (.bor hd [c] true) r l=>(match Zfg st hd [c] with
   | .sl .own rh lh=>if rh.w == w then (match new.to rh with
     |some n=>some (.p (l.length=lh.length∧Zbu ((lh.length+n.length)*w)),.sl .own rh (lApp lh n),Znv st .undef hd [c])
     |none=>none) else none
   |_=>none)
 | .nil (.bor hd [c] true)=>(match Zfg st hd [c] with
   | .nil .own=>(match new with
     |.nil=>some (.tt,.nil .own,Znv st .undef hd [c])
     |.sl r l=>some (.p (Zbu (l.length*w)),.sl .own r l,Znv st .undef hd [c]))
   |_=>none)
 | .sl (.pre hd [c]) r l=>(match Zfg st hd [c] with
   | .sl .own rh lh=>if rh.w == w then (match new.to rh with
     |some n=>some (.p (0<lh.length∧l.length≤lh.length∧0<l.length+n.length∧Zbu ((l.length+n.length)*w)),.sl .own rh (lApp (lTake lh (lN l)) n),Znv st .undef hd [c])
     |none=>none) else none
   |_=>none)
 |_=>none
def ZtR(w:Nat)(new:DSrc)(st:DS):DOS:=
 match new with
 |.nil=>some (.tt,.nil (.ownw w),st)
 |.sl r l=>some (.p (Zbu (l.length*w)),.sl (.ownw w) r l,st)
def ZzG(w:Nat)(x:Opnd)(new:DSrc)(st:DS):DOS:=
 if !(Nat.blt 0 w&&new.w w) then none else
 match x.dev st.sl with
 |.nil .own=>ZtR w new (Za8 x st).2
 |.nil (.ownw w')=>if w' == w then ZtR w new (Za8 x st).2 else none
 | .sl .own r l=>if r.w == w then (match new.to r with
   |some n=>some (.p (Zbu ((l.length+n.length)*w)),.sl (.ownw w) r (lApp l n),(Za8 x st).2)
   |none=>none) else none
 | .sl (.ownw w') r l=>if w' == w&&r.w == w then (match new.to r with
   |some n=>some (.p (Zbu ((l.length+n.length)*w)),.sl (.ownw w) r (lApp l n),(Za8 x st).2)
   |none=>none) else none
 | .sl (.pre hd [c]) r l=>(match Zfg st hd [c] with
   | .sl .own rh lh=>if rh.w == w then (match new.to rh with
     |some n=>some (.p (0<lh.length∧l.length≤lh.length∧Zbu ((l.length+n.length)*w)),.sl (.ownw w) rh (lApp (lTake lh (lN l)) n),Znv st .undef hd [c])
     |none=>none) else none
   | .sl (.ownw w') rh lh=>if w' == w&&rh.w == w then (match new.to rh with
     |some n=>some (.p (0<lh.length∧l.length≤lh.length∧Zbu ((l.length+n.length)*w)),.sl (.ownw w) rh (lApp (lTake lh (lN l)) n),Znv st .undef hd [c])
     |none=>none) else none
   |_=>none)
 |_=>none
def ZF1(w:Nat):DV→Option DV
 |.nil .own=>some (.nil (.ownw w))
 |.nil (.ownw w')=>if w' == w then some (.nil (.ownw w)) else none
 |.sl .own r l=>if r.w == w then some (.sl (.ownw w) r l) else none
 |.sl (.ownw w') r l=>if w' == w then some (.sl (.ownw w) r l) else none
 |_=>none
def ZHg:List (Nat×Nat)→List DV→Option (List DV)
 |[],l=>some l
 | (c,w)::r,l=>match ZF1 w (ZxJ l c) with
   |some v=>ZHg r (ZFP l c v)
   |none=>none
def dwk(ws:List (Nat×Nat)):DV→Option DV
 |.agg l=>(ZHg ws l).map .agg
 | .nil q=>(match ws with
   |[(0,w)]=>ZF1 w (.nil q)
   |_=>none)
 | .sl q r l=>(match ws with
   |[(0,w)]=>ZF1 w (.sl q r l)
   |_=>none)
 |_=>none
def Zm8(r:RT)(w:Nat):Nat→List DV→Option (List r.D)
 |0,_=>some []
 | n+1,cs=>(match r.of (cs.take w),Zm8 r w n (cs.drop w) with
   |some x,some l=>some (x::l)
   |_,_=>none)
def Zhp:List V→Bool
 |[]=>true
 |v::r=>v.flat&&Zhp r
def ZxO(o:AOp)(e:Opnd→DV):DO:=
 match o with
 |.nilck x=>ZzA (e x)
 |.bin op x y=>ZFH op (e x) (e y)
 |.eqB neg x y=>ZHd neg (e x) (e y)
 |.eqN neg x y=>(match y with|.c (.ifc true)=>ZHJ neg (e x)|_=>none)
 |.eqA n neg x y=>ZG8 n neg (e x) (e y)
 |.un op x=>dun op (e x)
 |.conv k x=>ZFl k (e x)
 |.bstr x=>ZFA (e x)
 |.slice w x lo hi=>ZA0 w x (lo.map e) (hi.map e) (e x)
 |.substr x lo hi=>Zv4 (lo.map e) (hi.map e) (e x)
 |.fieldA off a=>Zva off (e a)
 |.field off n x=>Zz2 off n x (e x)
 |.indexA w x i=>Zqu w x (e x) (e i)
 |.index x i=>Zws (e x) (e i)
 |.len x=>ZIb (e x)
 |.lenT x=>ZE4 (e x)
 |.minI x y=>ZH0 (e x) (e y)
 |.maxI x y=>ZHM (e x) (e y)
 |_=>none
def ZdA (m:Bool)(o:AOp)(ty:Option RT)(st:DS):DOS:=
 let e (x:Opnd):=x.dev st.sl
 let known (r:DV×DS):DOS:=if r.1.ok then some (.tt,r.1,r.2) else none
 match o with
 |.mv x=>known (if m then ZmS x st else Za8 x st)
 |.allocB i zs=>if Nat.blt i st.bx.length&&Zhp zs then some (.tt,.box i 0,{ st with sl:=Zq1 (.b i) (ZkA i st.sl),bx:=Zml st.bx i (news (Zys zs)) }) else none
 | .boxB i n x=>(match Za8 x st with
   |(v,st)=>if Nat.blt i st.bx.length&&v.cells.length == n&&Zfd v.cells then some (.tt,.box i 0,{ st with sl:=Zq1 (.b i) (ZkA i st.sl),bx:=Zml st.bx i (news v.cells) }) else none)
 |.allocH zs=>if Zhp zs then some (.tt,.ptr st.hp.length 0,{ st with sl:=Zq1 (.h st.hp.length) st.sl,hp:=st.hp++[news (Zys zs)] }) else none
 | .boxH n x=>(match Za8 x st with
   |(v,st)=>if v.cells.length == n&&Zfd v.cells then some (.tt,.ptr st.hp.length 0,{ st with sl:=Zq1 (.h st.hp.length) st.sl,hp:=st.hp++[news v.cells] }) else none)
 | .build zs ps=>if Zhp zs then (match ZrL (Zys zs) ps st with
   |some (cs,st)=>some (.tt,.agg cs,st)
   |none=>none) else none
 | .mkSlice w z len=>(match e len with
   | .int .i64 n=>(match (match ty with|some r=>some r|none=>tyL (Zys z)) with
     | some r=>(match r.of (Zys z) with
       |some d=>if z.length == w&&r.w == w&&Nat.blt 0 w&&Zhp z then some (.p (0≤n∧Zbu (n.toNat*w)),.sl .own r (lRep n d),st) else none
       |none=>none)
     |none=>none)
   |_=>none)
 | .litSlice w n zs ps=>
   if n == 0 then some (.tt,(match ty with|some r=>.sl .own r []|none=>.nil .own),st)
   else if Zhp zs&&zs.length == n*w&&Nat.blt 0 w then (match ZrL (Zys zs) ps st with
    | some (cs,st)=>(match (match ty with|some r=>some r|none=>tyL (cs.take w)) with
      | some r=>if r.w == w then (match Zm8 r w n cs with
        |some l=>some (.tt,.sl .own r l,st)
        |none=>none) else none
      |none=>none)
    |none=>none)
   else none
 |.loadB i n a=>Zp4 m i n (e a) st
 | .loadH n a=>(match Zn3 m n (e a) st with
   |some r=>r
   |none=>ZnL m n (e a) st)
 |.storeB i n a x=>Zp0 i n a x st
 | .storeH n a x=>if (e a).ok then (match (e a).nest with
   |some (hd,p,k,j,o)=>ZqM n hd p k j o (e x) st
   |none=>Zpo n a x st) else none
 | .app w x y=>(match ZBM w y st with
   |some (new,st)=>ZD3 w x new st
   |none=>none)
 | .appN w x y=>(match x.dev st.sl with
   | .nil .own=>(match ZBM w y st with
     |some (new,st)=>ZD3 w x new st
     |none=>none)
   |_=>none)
 | .extract x i=>(match x with
   | .t t=>(match Zip st.sl t with
     |.tup vs=>if Nat.blt i vs.length&&(ZxJ vs i).ok then (if (ZxJ vs i).own then (if (ZxJ vs i).bor (.s t) then none else some (.tt,ZxJ vs i,{ st with sl:=Zq1 (.s t) (ZqZ st.sl t (.tup (ZFP vs i .undef))) })) else some (.tt,ZxJ vs i,st)) else none
     |_=>none)
   |.c _=>none)
 |.pick ..=>none
 |.callB ..=>none
 |o=>(ZxO o e).map fun r=>(r.1,r.2,st)
def Zqd(ws:List (Nat×Nat))(m:Bool)(o:AOp)(ty:Option RT)(st:DS):DOS:=
 match o with
 | .app w x y=>(match ws with
   | [(0,w')]=>if w' == w then (match ZBM w y st with
     |some (new,st)=>ZzG w x new st
     |none=>none) else none
   |_=>none)
 | o => (match ZdA m o ty st with
   | some (g,v,st)=>(match dwk ws v with
     |some v=>some (g,v,st)
     |none=>none)
   |none=>none)
end
noncomputable section
def ZHc(c:Bool):BX→BX→BX
 |.lit true,.lit true=>.lit true
 |.lit false,.lit false=>.lit false
 |.lit true,.lit false=>.dyn c
 |.lit false,.lit true=>.dyn (bNot c)
 |.lit true,.dyn y=>.dyn (bOr c y)
 |.lit false,.dyn y=>.dyn (bAnd (bNot c) y)
 |.dyn x,.lit true=>.dyn (bOr (bNot c) x)
 |.dyn x,.lit false=>.dyn (bAnd c x)
 |.dyn x,.dyn y=>.dyn (bSel c x y)
def qeq(q q':Ql):Bool:=decide (q=q')
mutual
def Zpz(c:Bool):DV→DV→DV
 |.undef,.undef=>.undef
 |.bool x,.bool y=>.bool (ZHc c x y)
 |.int k x,.int k' y=>if IntKind.same k k' then .int k (bSel c x y) else .any
 |.str x,.str y=>.str (bSel c x y)
 |.ifc x,.ifc y=>.ifc (bSel c x y)
 |.nil q,.nil q'=>if qeq q q' then .nil q else .any
 |.nil q,.sl q' r l=>if qeq q q' then .sl q r (bSel c [] l) else .any
 |.sl q r l,.nil q'=>if qeq q q' then .sl q r (bSel c l []) else .any
 | .sl q r l,.sl q' r' l'=>if qeq q q' then (match ZvT (r':=r') (r:=r) l' with
   |some l'=>.sl q r (bSel c l l')
   |none=>.any) else .any
 |.box i o,.box i' o'=>if i == i'&&o == o' then .box i o else .any
 |.ptr i o,.ptr i' o'=>if i == i'&&o == o' then .ptr i o else .any
 |.agg x,.agg y=>if x.length == y.length&&DV.okL (ZsK c x y) then .agg (ZsK c x y) else .any
 |.tup x,.tup y=>if x.length == y.length&&DV.okL (ZsK c x y) then .tup (ZsK c x y) else .any
 |_,_=>.any
def ZsK(c:Bool):List DV→List DV→List DV
 |x::a,y::b=>Zpz c x y::ZsK c a b
 |_,_=>[]
end
def ZG7(c:Bool)(x y:DC):DC:=if x.d||y.d then ⟨true,Zpz c x.v y.v⟩ else x
def ZyD(c:Bool):List DC→List DC→List DC
 |x::a,y::b=>ZG7 c x y::ZyD c a b
 |_,_=>[]
def ZyM(c:Bool):List (List DC)→List (List DC)→List (List DC)
 |x::a,y::b=>(if x.length == y.length then ZyD c x y else [])::ZyM c a b
 |_,_=>[]
def ZEr(c:Bool)(x y:DS):Option DS:=
 if x.sl.length == y.sl.length&&x.bx.length == y.bx.length&&x.hp.length == y.hp.length then some ⟨ZyD c x.sl y.sl,ZyM c x.bx y.bx,ZyM c x.hp y.hp⟩ else none
def ZFL:List DC→List DC→List DC
 |x::a,y::b=>⟨x.d||y.d,y.v⟩::ZFL a b
 |_,r=>r
def ZF9:List (List DC)→List (List DC)→List (List DC)
 |x::a,y::b=>ZFL x y::ZF9 a b
 |_,r=>r
def ZDJ(x y:DS):DS:=⟨ZFL x.sl y.sl,ZF9 x.bx y.bx,ZF9 x.hp y.hp⟩
inductive DT where
 |leaf (e:AExit) (st:DS)
 |node (c:Bool) (a b:DT)
 |chk (g:PX) (t:DT)
 |bad
inductive NS where
 |none|some (st:DS)|fail
def DT.norm:DT→NS
 |.leaf .normal st=>.some st
 |.leaf _ _=>.none
 | .node c a b=>(match a.norm,b.norm with
   |.none,y=>y
   |x,.none=>x
   | .some x,.some y=>(match ZEr c x y with
     |some z=>.some z
     |none=>.fail)
   |_,_=>.fail)
 |.chk _ t=>t.norm
 |.bad=>.none
def DT.nn:DT→Nat
 |.leaf .normal _=>1
 |.node _ a b=>a.nn+b.nn
 |.chk _ t=>t.nn
 |_=>0
def DT.cont:DT→Option BX
 |.leaf .normal _=>some (.lit true)
 |.leaf _ _=>some (.lit false)
 | .node c a b=>(match a.cont,b.cont with
   |none,y=>y
   |x,none=>x
   |some x,some y=>some (ZHc c x y))
 |.chk _ t=>t.cont
 |.bad=>none
def DT.ok:DT→PX
 |.leaf _ _=>.tt
 |.node c a b=>PX.if' c a.ok b.ok
 |.chk g t=>g.land t.ok
 |.bad=>.ff
def DT.nodeB(c:Bool):DT→DT→DT
 |.bad,b=>b
 |a,.bad=>a
 |a,b=>.node c a b
def DT.drop:DT→DT
 |.leaf .normal _=>.bad
 |.leaf e st=>.leaf e st
 |.node c a b=>DT.nodeB c a.drop b.drop
 |.chk _ t=>t.drop
 |.bad=>.bad
def DT.map(f:DS→DS):DT→DT
 |.leaf e st=>.leaf e (f st)
 |.node c a b=>.node c (a.map f) (b.map f)
 |.chk g t=>.chk g (t.map f)
 |.bad=>.bad
def DT.bind(f:DS→DT)(h:DS→DS):DT→DT
 |.leaf .normal st=>f st
 |.leaf e st=>.leaf e (h st)
 |.node c a b=>.node c (a.bind f h) (b.bind f h)
 |.chk g t=>.chk g (t.bind f h)
 |.bad=>.bad
def DT.unexit(i:Nat):DT→DT
 |.leaf (.exit j) st=>if j == i then .leaf .normal st else .leaf (.exit j) st
 |.leaf e st=>.leaf e st
 |.node c a b=>.node c (a.unexit i) (b.unexit i)
 |.chk g t=>.chk g (t.unexit i)
 |.bad=>.bad
def DT.chk':PX→DT→DT
 |.tt,t=>t
 |g,t=>.chk g t
def DT.then(f:DS→DT)(h:DS→DS)(t:DT):DT:=
 if Nat.ble t.nn 1 then t.bind f h
 else match t.norm with
  | .some m=>DT.chk' t.ok (match t.cont with
    |some (.dyn c)=>.node c (f m) (t.drop.map h)
    |some (.lit true)=>f m
    |_=>.bad)
  |_=>t.bind f h
section
variable {X:Type}
inductive LoopTo (c:X→Bool) (f:X→X) (p:X→Prop):X→X→Prop
 |stop {x:X}:p x→c x=false→LoopTo c f p x x
 |go {x y:X}:p x→c x=true→LoopTo c f p (f x) y→LoopTo c f p x y
def LoopOk(c:X→Bool)(f:X→X)(p:X→Prop)(x:X):Prop:=∃ y,LoopTo c f p x y
open Classical in
def ZaV(c:X→Bool)(f:X→X)(x:X):X:=if h:∃ y,LoopTo c f (fun _=>True) x y then Classical.choose h else x
theorem LoopTo.fst{c:X→Bool}{f:X→X}{p q:X→Prop}{x y z:X}(h:LoopTo c f p x y)(h':LoopTo c f q x z):y=z:=by
 induction h with
 | stop _ h1=>
   cases h' with
   |stop=>rfl
   |go _ h2=>rw[h1] at h2;cases h2
 | go _ h1 _ ih=>
   cases h' with
   |stop _ h2=>rw[h1] at h2;cases h2
   |go _ _ h3=>exact ih h3
theorem LoopTo.mono{c:X→Bool}{f:X→X}{p q:X→Prop}(hp:∀ x,p x→q x){x y:X}(h:LoopTo c f p x y):LoopTo c f q x y:=by
 induction h with
 |stop h0 h1=>exact .stop (hp _ h0) h1
 |go h0 h1 _ ih=>exact .go (hp _ h0) h1 ih
theorem LoopTo.val{c:X→Bool}{f:X→X}{p:X→Prop}{x y:X}(h:LoopTo c f p x y):ZaV c f x=y:=by
 have h':∃ y,LoopTo c f (fun _=>True) x y:=⟨y,h.mono fun _ _=>trivial⟩
 unfold ZaV
 rw[dif_pos h']
 exact(Classical.choose_spec h').fst h
theorem LoopOk.to{c:X→Bool}{f:X→X}{p:X→Prop}{x:X}(h:LoopOk c f p x):LoopTo c f p x (ZaV c f x):=by
 obtain⟨y,h⟩:=h
 rw[h.val];exact h
end
inductive Pl where
 |s (i:Nat)|b (i c:Nat)|h (i c:Nat)
inductive HT where
 |one (q:Ql) (t:CT)|agg (l:List (Ql×CT))
structure ZxN where
 pl:Pl
 t:HT
def AgX:List (Ql×CT)→Type
 |[]=>Unit
 |[a]=>a.2.D
 |a::r=>a.2.D×AgX r
def HT.D:HT→Type
 |.one _ t=>t.D
 |.agg l=>AgX l
def HoX:List ZxN→Type
 |[]=>Unit
 |[a]=>a.t.D
 |a::r=>a.t.D×HoX r
def DS.at(st:DS):Pl→DV
 |.s i=>Zip st.sl i
 |.b i c=>Zip (ZdU st.bx i) c
 |.h i c=>Zip (ZdU st.hp i) c
def DS.wr(st:DS)(v:DV):Pl→DS
 |.s i=>{ st with sl:=ZqZ st.sl i v }
 |.b i c=>{ st with bx:=Zml st.bx i (ZqZ (ZdU st.bx i) c v) }
 |.h i c=>{ st with hp:=Zml st.hp i (ZqZ (ZdU st.hp i) c v) }
def CT.ofQ(q:Ql):(t:CT)→DV→Option t.D
 |.int k,.int k' n=>if IntKind.same k k' then some n else none
 |.bool,.bool b=>some b.b
 |.str,.str s=>some s
 |.ifc,.ifc b=>some b
 |.sl r,.nil q'=>if qeq q q' then some ([]:List r.D) else none
 |.sl r,.sl q' r' l=>if qeq q q' then ZvT (r':=r') (r:=r) l else none
 |_,_=>none
def ZD2:(l:List (Ql×CT))→List DV→Option (AgX l)
 |[],[]=>some ()
 |[a],[v]=>a.2.ofQ a.1 v
 | a::b::r,v::vs=>(match a.2.ofQ a.1 v,ZD2 (b::r) vs with
   |some x,some y=>some (x,y)
   |_,_=>none)
 |_,_=>none
def ZFI:(l:List (Ql×CT))→AgX l→List DV
 |[],_=>[]
 |[a],x=>[a.2.dv a.1 x]
 |a::b::r,x=>a.2.dv a.1 x.1::ZFI (b::r) x.2
def HT.of:(h:HT)→DV→Option h.D
 |.one q t,v=>t.ofQ q v
 |.agg l,.agg vs=>ZD2 l vs
 |.agg _,_=>none
def HT.dv:(h:HT)→h.D→DV
 |.one q t,x=>t.dv q x
 |.agg l,x=>.agg (ZFI l x)
def rdX(st:DS):(H:List ZxN)→Option (HoX H)
 |[]=>some ()
 |[a]=>a.t.of (st.at a.pl)
 | a::b::r=>(match a.t.of (st.at a.pl),rdX st (b::r) with
   |some x,some y=>some (x,y)
   |_,_=>none)
def wrX(st:DS):(H:List ZxN)→HoX H→DS
 |[],_=>st
 |[a],x=>st.wr (a.t.dv x) a.pl
 |a::b::r,x=>wrX (st.wr (a.t.dv x.1) a.pl) (b::r) x.2
def DV.same:DV→DV→Bool
 |.undef,.undef=>true
 |.nil q,.nil q'=>qeq q q'
 |.box i o,.box i' o'=>i == i'&&o == o'
 |.ptr i o,.ptr i' o'=>i == i'&&o == o'
 |_,_=>false
def DV.isAny:DV→Bool
 |.any=>true
 |_=>false
inductive Cls where
 |left|hole (t:HT)|kill
def ZId:DV→DV→Option (Ql×CT)
 |.int k _,.int k' _=>if IntKind.same k k' then some (.own,.int k) else none
 |.bool _,.bool _=>some (.own,.bool)
 |.str _,.str _=>some (.own,.str)
 |.ifc _,.ifc _=>some (.own,.ifc)
 |.nil q,.sl q' r _=>if qeq q q' then some (q,.sl r) else none
 |.sl q r _,.nil q'=>if qeq q q' then some (q,.sl r) else none
 |.sl q r _,.sl q' r' _=>if qeq q q'&&RT.beq r' r then some (q,.sl r) else none
 |_,_=>none
def ZIg:List DV→List DV→Option (List (Ql×CT))
 |[],[]=>some []
 | x::a,y::b=>(match ZId x y,ZIg a b with
   |some t,some l=>some (t::l)
   |_,_=>none)
 |_,_=>none
def cls(x:DV)(y:DC):Cls:=
 if y.d then (if x.isAny||x.same y.v then .left else match x,y.v with
  | .agg a,.agg b=>(match ZIg a b with
    |some l=>.hole (.agg l)
    |none=>.kill)
  | x,y=>(match ZId x y with
    |some t=>.hole (.one t.1 t.2)
    |none=>.kill)) else .left
def ZB4(pl:Nat→Pl):Nat→List DC→List DC→List ZxN×List DC
 | n,x::a,y::b=>(match cls x.v y,ZB4 pl (n+1) a b with
   |.left,(H,l)=>(H,x::l)
   |.hole t,(H,l)=>(⟨pl n,t⟩::H,⟨true,.any⟩::l)
   |.kill,(H,l)=>(H,⟨true,.any⟩::l))
 |_,a,_=>([],a)
def ZEa(pl:Nat→Nat→Pl):Nat→List (List DC)→List (List DC)→List ZxN×List (List DC)
 | n,x::a,y::b=>(match ZEa pl (n+1) a b with
   |(H,l)=>if x.length == y.length then (match ZB4 (pl n) 0 x y with|(H',x')=>(H'++H,x'::l)) else (H,[]::l))
 |_,a,_=>([],a)
def ZGj(x y:DS):List ZxN×DS:=
 match ZB4 .s 0 x.sl y.sl,ZEa .b 0 x.bx y.bx,ZEa .h 0 x.hp y.hp with
 |(H1,s),(H2,b),(H3,h)=>(H1++H2++H3,⟨s,b,h⟩)
def ZGz:List DC→List DC→Bool
 |k::a,y::b=>(k.v.isAny||!y.d||k.v.same y.v)&&ZGz a b
 |[],[]=>true
 |_,_=>false
def ZFQ:List (List DC)→List (List DC)→Bool
 |k::a,y::b=>(k.length == 0||ZGz k y)&&ZFQ a b
 |[],[]=>true
 |_,_=>false
def ZHG(K y:DS):Bool:=ZGz K.sl y.sl&&ZFQ K.bx y.bx&&ZFQ K.hp y.hp
def Zlt(K:DS):List ZxN→Bool
 |[]=>true
 |a::r=>(K.at a.pl).isAny&&Zlt K r
def DV.top:DV→Bool
 |.sl (.bor _ _ t) _ _=>t
 |.sl (.pre _ _) _ _=>true
 |.nil (.bor _ _ t)=>t
 |.nil (.pre _ _)=>true
 |.ep (.bor _ _ t) _ _ _ _=>t
 |.ep (.pre _ _) _ _ _ _=>true
 |.agg _=>true
 |.tup _=>true
 |_=>false
mutual
def DV.hasTop:DV→Bool
 |.agg cs=>DV.hasTopL cs
 |.tup cs=>DV.hasTopL cs
 |v=>v.top
def DV.hasTopL:List DV→Bool
 |[]=>false
 |v::r=>v.hasTop||DV.hasTopL r
end
def ZwG (live:List Nat):Nat→List DC→List DC
 |_,[]=>[]
 |n,c::r=>(if live.contains n then (if c.v.hasTop then ⟨true,c.v.detop⟩ else c) else ⟨true,.any⟩)::ZwG live (n+1) r
def ZjL(live:List Nat)(st:DS):DS:={ st with sl:=ZwG live 0 st.sl }
def ZCt(live:List Nat)(st:DS):DS:={ st with sl:=ZB7 live 0 st.sl }
def ZzY(live:List Nat)(body:DS→DT)(A:DS):Nat→DS→Option (List ZxN×DS)
 | 0,cur=>(match (body cur).norm with
   |.some m=>some (ZGj A (ZjL live m))
   |_=>none)
 | n + 1,cur=>(match (body cur).norm with
   | .some m=>(match ZGj A (ZjL live m) with
     | (H,K)=>(match rdX A H with
       |some x0=>ZzY live body A n (wrX K H x0)
       |none=>none))
   |_=>none)
def NS.isNone:NS→Bool
 |.none=>true
 |_=>false
section
variable (live:List Nat) (body:DS→DT) (K:DS) (H:List ZxN)
def lT(x:HoX H):DT:=body (wrX K H x)
def Zyz(x:HoX H):Bool:=match (lT body K H x).cont with|some b=>b.b|none=>false
def Zx9(x:HoX H):HoX H:=match (lT body K H x).norm with
 |.some m=>(match rdX (ZjL live m) H with|some y=>y|none=>x)
 |_=>x
def ZGm(x:HoX H):PX:=(lT body K H x).ok.land (match (lT body K H x).norm with
 |.some m=>if ZHG K (ZjL live m)&&(rdX (ZjL live m) H).isSome then .tt else .ff
 |.none=>.tt
 |.fail=>.ff)
end
def Zx4 (live:List Nat)(n:Nat)(body:DS→DT)(st:DS):DT:=
 if (body (ZjL live st)).norm.isNone then (body (ZjL live st)).map (ZDJ (ZjL live st))
 else match ZzY live body (ZjL live st) n (ZjL live st) with
 |none=>.bad
 | some (H,K)=>(match rdX (ZjL live st) H with
   |none=>.bad
   | some x0=>if Zlt K H then
      .chk (.p (LoopOk (Zyz body K H) (Zx9 live body K H) (fun x=>(ZGm live body K H x).den) x0))
       ((lT body K H (ZaV (Zyz body K H) (Zx9 live body K H) x0)).drop.map (ZDJ (wrX K H (ZaV (Zyz body K H) (Zx9 live body K H) x0))))
     else .bad)
abbrev ZhA:=List DV→Option (PX×DV)
abbrev ZvC:=List DV→List (List DV)→Option (PX×DV×List (List DV))
structure DMk where
 r:RT
 agg:Bool
 ok:r.D→Prop
 g:r.D→Int→r.D×Int
 vd:Bool
def DMk.P(M:DMk):PMk:=⟨M.agg,fun olds m K=>∃ x,olds=M.r.enc x∧M.ok x∧K (M.r.enc (M.g x m).1) (M.g x m).2,M.vd⟩
inductive DOp where
 |a (m:Bool) (o:AOp) (ty:Option RT)
 |aw (ws:List (Nat×Nat)) (m:Bool) (o:AOp) (ty:Option RT)
 |call (m:Bool) (f:Zar) (p:ZfF) (D:ZhA) (args:List Opnd)
 |mark (f:Zar) (M:DMk) (x k:Opnd)
 |callp (m:Bool) (f:Zar) (p:ZfF) (D:ZvC) (args:List Opnd)
structure DOper where
 id:Nat
 dst:Option Nat
 op:DOp
 guard:Option (Nat×Bool)
 anc:List Nat
inductive DCode where
 |skip
 |region (ops:List DOper)
 |regionU (ops:List DOper)
 |seq (l:List Nat) (a b:DCode)
 |cond (c:Opnd) (a b:DCode)
 |block (id:Nat) (a:DCode)
 |loop (live:List Nat) (n:Nat) (a:DCode)
 |exit (id:Nat)
 |ret
def DOp.er:DOp→POp
 |.a m o _=>.a m o
 |.aw ws m o _=>.aw ws m o
 |.call m f p _ args=>.callk m f p args
 |.mark f M x k=>.mark f M.P x k
 |.callp m f p _ args=>.call m f p args
def DOper.er(o:DOper):POper:=⟨o.id,o.dst,o.op.er,o.guard,o.anc⟩
def DCode.er:DCode→PCode
 |.skip=>.skip
 |.region ops=>.region (ops.map DOper.er)
 |.regionU ops=>.regionU (ops.map DOper.er)
 |.seq l a b=>.seq l a.er b.er
 |.cond c a b=>.cond c a.er b.er
 |.block i a=>.block i a.er
 |.loop l _ a=>.loop l a.er
 |.exit i=>.exit i
 |.ret=>.ret
@[reducible] def oa (i d:Nat) (o:AOp):DOper:=⟨i,some d,.a false o none,none,[]⟩
@[reducible] def ob (i d:Nat) (o:AOp):DOper:=⟨i,some d,.a true o none,none,[]⟩
@[reducible] def om (i d t:Nat):DOper:=⟨i,some d,.a false (.mv (.t t)) none,none,[]⟩
@[reducible] def on (i d t:Nat):DOper:=⟨i,some d,.a true (.mv (.t t)) none,none,[]⟩
@[reducible] def oi (i d:Nat) (n:Int):DOper:=⟨i,some d,.a false (.mv (.c (.int .i64 n))) none,none,[]⟩
@[reducible] def os (i:Nat) (o:AOp):DOper:=⟨i,none,.a false o none,none,[]⟩
@[reducible] def oc (i d:Nat) (f:Zar) (p:ZfF) (D:ZhA) (args:List Opnd):DOper:=⟨i,some d,.call false f p D args,none,[]⟩
@[reducible] def og (i d:Nat) (o:AOp) (g:Nat) (b:Bool):DOper:=⟨i,some d,.a false o none,some (g,b),[]⟩
@[reducible] def xA (i d:Nat) (o:AOp) (a:List Nat):DOper:=⟨i,some d,.a false o none,none,a⟩
@[reducible] def xS (i:Nat) (o:AOp) (a:List Nat):DOper:=⟨i,none,.a false o none,none,a⟩
@[reducible] def xC (i d:Nat) (f:Zar) (p:ZfF) (D:ZhA) (args:List Opnd) (a:List Nat):DOper:=⟨i,some d,.call false f p D args,none,a⟩
@[reducible] def op (i d:Nat) (f:Zar) (p:ZfF) (D:ZvC) (args:List Opnd):DOper:=⟨i,some d,.callp false f p D args,none,[]⟩
def ZDP:Nat→Nat→List Nat
 |_,0=>[]
 |k,n+1=>k::ZDP (k+1) n
def rg(n:Nat):List Nat:=ZDP 0 n
def ZgM:List Opnd→DS→DS
 |[],st=>st
 |x::r,st=>ZgM r (Zqn x st).2
def ZxZ(s:List DC):List Opnd→List DV
 |[]=>[]
 |x::r=>x.dev s::ZxZ s r
def Zvi(D:ZhA)(args:List Opnd)(st:DS):DOS:=
 let as:=ZxZ st.sl args
 if ZiU as&&!(DV.hasPtrL as) then (match D (DV.fzL as) with
  |some (g,v)=>if v.ok&&!v.hasPtr&&(v.deep||!(DV.holdL as)) then some (g,v,st) else none
  |none=>none)
 else none
def Ql.isH':Ql→Bool
 |.bor (.h _) _ _=>true
 |.pre (.h _) _=>true
 |_=>false
mutual
def DV.isH:DV→Bool
 |.nil q=>q.isH'
 |.sl q _ _=>q.isH'
 |.ep q _ _ _ _=>q.isH'
 |.agg cs=>DV.isHL cs
 |.tup vs=>DV.isHL vs
 |_=>false
def DV.isHL:List DV→Bool
 |[]=>false
 |v::r=>v.isH||DV.isHL r
end
def Zz6:List DC→List DC
 |[]=>[]
 |c::r=>(if c.v.isH then ⟨true,.any⟩ else c)::Zz6 r
def Zod:List (List DC)→List (List DV)
 |[]=>[]
 |b::r=>Zkr b::Zod r
def newsB:List (List DV)→List (List DC)
 |[]=>[]
 |b::r=>news b::newsB r
def ZED:List DC→List DV→List DC
 |[],vs=>news vs
 |c::r,[]=>c::r
 |c::r,v::vs=>(if v.isAny then c else ⟨true,v⟩)::ZED r vs
def ZET:List (List DC)→List (List DV)→List (List DC)
 |[],vs=>newsB vs
 |c::r,[]=>c::r
 |c::r,v::vs=>ZED c v::ZET r vs
def ZFO:List DV→List DV→List DV
 |[],vs=>vs
 |c::r,[]=>c::r
 |c::r,v::vs=>(if v.isAny then c else v)::ZFO r vs
def Ztr:List (List DV)→List (List DV)→List (List DV)
 |[],vs=>vs
 |c::r,[]=>c::r
 |c::r,v::vs=>ZFO c v::Ztr r vs
def okB:List (List DV)→Bool
 |[]=>true
 |b::r=>Nat.blt 0 b.length&&DV.okL b&&okB r
def Zoo:List (List DV)→List (List PV)
 |[]=>[]
 |b::r=>DV.encL b::Zoo r
def DV.isP0:DV→Bool
 |.ptr 0 0=>true
 |_=>false
def ZqW(D:ZvC)(args:List Opnd)(st:DS):DOS:=
 let as:=ZxZ st.sl args
 if ZiU as&&!(DV.holdL as)&&okB (Zod st.hp) then
  (if DV.hasPtrL as then (match D (DV.fzL as) (Zod st.hp) with
   |some (g,v,H)=>if v.ok&&!v.hasPtr then some (g,v,{ st with sl:=Zz6 st.sl,hp:=ZET st.hp H }) else none
   |none=>none)
  else if st.hp.length == 0 then (match D (DV.fzL as) [] with
   |some (g,v,H)=>if v.isP0 then some (g,v,{ st with hp:=newsB H }) else none
   |none=>none)
  else none)
 else none
def DV.isAgg:DV→Bool
 |.agg _=>true
 |_=>false
def DV.flatc:DV→Bool
 |.bool _|.int _ _|.str _|.ifc _=>true
 |_=>false
def ZC6:Nat→List DV→Option (Hd×Nat)
 |_,[]=>none
 |c,.sl (.bor hd [p] true) _ _::_=>if Nat.ble c p&&hd.sb then some (hd,p-c) else none
 |c,.nil (.bor hd [p] true)::_=>if Nat.ble c p&&hd.sb then some (hd,p-c) else none
 |c,_::r=>ZC6 (c+1) r
def Zxx(st:DS)(hd:Hd):Nat→List DV→Option (PX×List DV)
 |_,[]=>some (.tt,[])
 |c,.sl q _ l::vs=>if qeq q (.bor hd [c] true) then (match Zfg st hd [c],Zxx st hd (c+1) vs with
  |.sl .own r' l',some (g,os)=>some (PX.land (.p (l.length=l'.length)) g,.sl .own r' l'::os)
  |.nil .own,some (g,os)=>some (PX.land (.p (l.length=0)) g,.nil .own::os)
  |_,_=>none) else none
 |c,.nil q::vs=>if qeq q (.bor hd [c] true) then (match Zfg st hd [c],Zxx st hd (c+1) vs with
  |.sl .own r' l',some (g,os)=>some (PX.land (.p (l'.length=0)) g,.sl .own r' l'::os)
  |.nil .own,some (g,os)=>some (g,.nil .own::os)
  |_,_=>none) else none
 |c,v::vs=>if v.flatc then (match Zxx st hd (c+1) vs with
  |some (g,os)=>some (g,v::os)
  |none=>none) else none
def ZAV(hd:Hd):Nat→List DV→DS→Option DS
 |_,[],st=>some st
 | c,.sl q r l::vs,st=>(match Zfg st hd [c] with
   |.sl .own _ _=>ZAV hd (c+1) vs (Znv st (.sl q r l) hd [c])
   |.nil .own=>ZAV hd (c+1) vs (Znv st (.sl q r l) hd [c])
   |_=>none)
 |_,.nil _::_,_=>none
 |c,_::vs,st=>ZAV hd (c+1) vs st
def Zu2 (M:DMk)(x k:Opnd)(st:DS):DOS:=
 match k.dev st.sl with
 | .int .i64 m=>if (x.dev st.sl).isAgg == M.agg&&(x.dev st.sl).argok then (match ZC6 0 (x.dev st.sl).cells with
   | some (hd,b)=>(match Zxx st hd b (x.dev st.sl).cells with
     | some (g,os)=>(match M.r.of os with
       | some y=>(match ZAV hd b (M.r.dv .own (M.g y m).1) st with
         |some st'=>some (g.land (.p (M.ok y)),(match M.vd with|true=>.undef|false=>.int .i64 (M.g y m).2),st')
         |none=>none)
       |none=>none)
     |none=>none)
   |none=>none) else none
 |_=>none
def Zq0(o:DOp)(d:Option Nat)(k:DS→DT)(st:DS):DT:=
 match o with
 | .call m _ _ D args=>(match Zvi D args (if m then ZgM args st else st) with
   |some (g,v,st)=>DT.chk' g (k (st.put d v))
   |none=>.bad)
 | .callp m _ _ D args=>(match ZqW D args (if m then ZgM args st else st) with
   |some (g,v,st)=>DT.chk' g (k (st.put d v))
   |none=>.bad)
 | .aw ws m o ty=>(match Zqd ws m o ty st with
   |some (g,v,st)=>DT.chk' g (k (st.put d v))
   |none=>.bad)
 | .mark _ M x y=>(match Zu2 M x y st with
   |some (g,v,st)=>DT.chk' g (k (st.put d v))
   |none=>.bad)
 | .a m o ty=>(match o with
   | .pick c a b=>(match c.dev st.sl with
     | .bool (.lit t)=>(match if t then Za8 a st else Za8 b st with
       |(v,st)=>if v.ok then k (st.put d v) else .bad)
     | .bool (.dyn t)=>
       if (a.dev st.sl).own||(b.dev st.sl).own||!(Zpz t (a.dev st.sl) (b.dev st.sl)).ok then .node t (match Za8 a st with|(v,st)=>if v.ok then k (st.put d v) else .bad) (match Za8 b st with|(v,st)=>if v.ok then k (st.put d v) else .bad)
       else k (st.put d (Zpz t (a.dev st.sl) (b.dev st.sl)))
     |_=>.bad)
   | o=>(match ZdA m o ty st with
     |some (g,v,st)=>DT.chk' g (k (st.put d v))
     |none=>.bad))
def ZFc(st:DS)(g:Nat)(b:Bool):DS:={ st with sl:=ZqZ st.sl g (.bool (.lit b)) }
def Zxu(o:DOper)(k:DS→DT)(st:DS):DT:=
 match o.guard with
 |none=>Zq0 o.op o.dst k st
 | some (g,want)=>(match Zip st.sl g with
   |.bool (.lit b)=>if b == want then Zq0 o.op o.dst k st else k (st.put o.dst (.tup []))
   |.bool (.dyn b)=>.node b (if want then Zq0 o.op o.dst k (ZFc st g true) else k ((ZFc st g true).put o.dst (.tup []))) (if want then k ((ZFc st g false).put o.dst (.tup [])) else Zq0 o.op o.dst k (ZFc st g false))
   |.tup []=>k (st.put o.dst (.tup []))
   |_=>.bad)
def ZBH:List DOper→DS→DT
 |[],st=>.leaf .normal st
 |o::r,st=>Zxu o (ZBH r) st
def setc(st:DS)(c:Opnd)(b:Bool):DS:=match c with
 |.t g=>ZFc st g b
 |.c _=>st
def dev:DCode→DS→DT
 |.skip,st=>.leaf .normal st
 |.region ops,st=>ZBH ops st
 |.regionU ops,st=>if Zzw (ops.map DOper.er) then ZBH ops st else .bad
 |.seq l a b,st=>(dev a st.clean).then (fun st'=>dev b (ZDJ st (ZCt l st'))) (ZDJ st)
 | .cond c a b,st=>(match c.dev st.sl with
   |.bool (.lit t)=>if t then dev a st else dev b st
   |.bool (.dyn t)=>.node t (dev a (setc st c true)) (dev b (setc st c false))
   |_=>.bad)
 |.block i a,st=>(dev a st).unexit i
 |.loop live n a,st=>Zx4 live n (fun st=>dev a st.clean) st
 |.exit i,st=>.leaf (.exit i) st
 |.ret,st=>.leaf .ret st
structure DFun where
 nparams:Nat
 nslots:Nat
 nbox:Nat
 pure:Bool
 res:List Zki
 body:DCode
def DFun.er(f:DFun):PFun:=⟨f.nparams,f.nslots,f.nbox,f.pure,f.res,f.body.er⟩
def Zux(st:DS):Zki→Option (DV×DS)
 |.tmp t=>if (Zip st.sl t).retok&&(Zip st.sl t).ok then some (ZFW (Zip st.sl t) t st) else none
 | .cell t n=>(match Zip st.sl t with
   |.box i o=>if Nat.ble (o+n.getD 1) (ZdU st.bx i).length&&Zrz (Zes (Zkr (ZdU st.bx i)) o (n.getD 1)) then (Zp4 true i n (.box i o) st).map (·.2) else none
   |.ptr i o=>if Nat.ble (o+n.getD 1) (ZdU st.hp i).length&&Zrz (Zes (Zkr (ZdU st.hp i)) o (n.getD 1)) then (ZnL true n (.ptr i o) st).map (·.2) else none
   |_=>none)
def ZnG(st:DS):List Zki→Option (List DV×DS)
 |[]=>some ([],st)
 | r :: rs=>(match Zux st r with
   | some (v,st)=>(match ZnG st rs with
     |some (vs,st)=>some (v::vs,st)
     |none=>none)
   |none=>none)
def Znf(st:DS):List Zki→Option DV
 |[r]=>(Zux st r).map (·.1)
 |rs=>(ZnG st rs).map fun x=>.tup x.1
def DT.val(res:List Zki):DT→PX×Option DV
 |.leaf (.exit _) _=>(.ff,none)
 | .leaf _ st=>(match Znf st res with
   |some v=>if v.ok&&!v.hasPtr then (.tt,some v) else (.ff,none)
   |none=>(.ff,none))
 | .node c a b=>(match a.val res,b.val res with
   |(g,none),(g',y)=>(PX.if' c g g',y)
   |(g,x),(g',none)=>(PX.if' c g g',x)
   |(g,some x),(g',some y)=>(PX.if' c g g',some (Zpz c x y)))
 | .chk g t=>(match t.val res with
   |(g',v)=>(g.land g',v))
 |.bad=>(.ff,none)
def Zp8(n:Nat):List DC:=match n with
 |0=>[]
 |n+1=>⟨true,.any⟩::Zp8 n
def ZqQ:Nat→List (List DC)
 |0=>[]
 |n+1=>[]::ZqQ n
def ZFV(f:DFun)(args:List DV):PX×Option DV:=
 (dev f.body ⟨news args++Zp8 (f.nslots-f.nparams),ZqQ f.nbox,[]⟩).val f.res
end
def EC(c:DC)(p:PV):Prop:=c.v= .any∨p=c.v.enc
def EL:List DC→List PV→Prop
 |[],[]=>True
 |c::a,p::b=>EC c p∧EL a b
 |_,_=>False
def EBx(b:List DC)(p:List PV):Prop:=b=[]∨EL b p
def EB:List (List DC)→List (List PV)→Prop
 |[],[]=>True
 |c::a,p::b=>EBx c p∧EB a b
 |_,_=>False
structure ES (d:DS) (s:PS):Prop where
 sl:EL d.sl s.sl
 bx:EB d.bx s.bx
 hp:EB d.hp s.hp
theorem EL.len:∀ {a:List DC} {b:List PV},EL a b→a.length=b.length
 |[],[],_=>rfl
 |_::_,_::_,h=>by simp only[List.length_cons,EL.len h.2]
theorem EB.len:∀ {a:List (List DC)} {b:List (List PV)},EB a b→a.length=b.length
 |[],[],_=>rfl
 |_::_,_::_,h=>by simp only[List.length_cons,EB.len h.2]
def EV(v:DV)(p:PV):Prop:=v= .any∨p=v.enc
theorem EL.get:∀ {a:List DC} {b:List PV} (n:Nat),EL a b→EV (Zip a n) (Zag b n)
 |[],[],_,_=>.inl rfl
 |_::_,_::_,0,h=>h.1
 |_::_,_::_,n+1,h=>EL.get n h.2
theorem EL.put:∀ {a:List DC} {b:List PV} {v:DV} {p:PV} (n:Nat),EL a b→EV v p→EL (ZqZ a n v) (ZjK b n p)
 |[],[],_,_,_,_,_=>trivial
 |_::_,_::_,_,_,0,h,hv=>⟨hv,h.2⟩
 |_::_,_::_,_,_,n+1,h,hv=>⟨h.1,EL.put n h.2 hv⟩
theorem EB.get:∀ {a:List (List DC)} {b:List (List PV)} (n:Nat),EB a b→EBx (ZdU a n) (Zaq b n)
 |[],[],_,_=>.inl rfl
 |_::_,_::_,0,h=>h.1
 |_::_,_::_,n+1,h=>EB.get n h.2
theorem EB.put:∀ {a:List (List DC)} {b:List (List PV)} {v:List DC} {p:List PV} (n:Nat),EB a b→EBx v p→EB (Zml a n v) (Zet b n p)
 |[],[],_,_,_,_,_=>trivial
 |_::_,_::_,_,_,0,h,hv=>⟨hv,h.2⟩
 |_::_,_::_,_,_,n+1,h,hv=>⟨h.1,EB.put n h.2 hv⟩
theorem Zez:∀ (l:List DV),(DV.encL l).length=l.length
 |[]=>rfl
 |_::r=>by simp only[DV.encL,List.length_cons,Zez r]
theorem EL.splice:∀ {a:List DC} {b:List PV} (n:Nat) (vs:List DV),EL a b→EL (Zjf a n vs) (Zap b n (DV.encL vs))
 |[],[],_,[],_=>trivial
 |[],[],_,_::_,_=>trivial
 |_::_,_::_,0,[],h=>h
 |_::_,_::_,_+1,[],h=>h
 |_::_,_::_,0,v::vs,h=>⟨.inr rfl,EL.splice 0 vs h.2⟩
 |_::_,_::_,n+1,v::vs,h=>⟨h.1,EL.splice n (v::vs) h.2⟩
theorem ZiG:∀ (cs:List DV) (n:Nat) (vs:List DV),DV.encL (Zjo cs n vs)=Zap (DV.encL cs) n (DV.encL vs)
 |[],_,[]=>rfl
 |_::_,0,[]=>rfl
 |_::_,_+1,[]=>rfl
 |[],0,_::_=>rfl
 |[],_+1,_::_=>rfl
 |_::r,0,v::vs=>by simp only[Zjo,DV.encL,Zap,ZiG r 0 vs]
 |c::r,n+1,v::vs=>by simp only[Zjo,DV.encL,Zap,ZiG r n (v::vs)]
theorem Zmp:∀ (cs:List DV) (o n:Nat),DV.encL (Zes cs o n)=segm (DV.encL cs) o n
 |[],0,0=>rfl
 |[],0,_+1=>rfl
 |[],_+1,_=>rfl
 |_::_,0,0=>rfl
 |c::r,0,n+1=>by simp only[Zes,DV.encL,segm,Zmp r 0 n]
 | _::r,o+1,n=>by
   simp only[Zes,DV.encL,segm];exact Zmp r o n
theorem Zlc:∀ (cs:List DV) (n:Nat),(ZxJ cs n).enc=Zag (DV.encL cs) n
 |[],_=>rfl
 |_::_,0=>rfl
 |_::r,n+1=>Zlc r n
theorem ZoU:∀ (cs:List DV) (n:Nat) (v:DV),DV.encL (ZFP cs n v)=ZjK (DV.encL cs) n v.enc
 |[],_,_=>rfl
 |_::_,0,_=>rfl
 |_::r,n+1,v=>by simp only[ZFP,DV.encL,ZjK,ZoU r n v]
theorem EL.segm:∀ {a:List DC} {b:List PV} (o n:Nat),EL a b→DV.okL (Zes (Zkr a) o n)=true→Go.Ag.segm b o n=DV.encL (Zes (Zkr a) o n)
 |[],[],0,0,_,_=>rfl
 |[],[],0,_+1,_,_=>rfl
 |[],[],_+1,_,_,_=>rfl
 |_::_,_::_,0,0,_,_=>rfl
 | c::r,p::s,0,n+1,h,hk=>by
   simp only[Zkr,Zes,DV.okL,Bool.and_eq_true] at hk
   simp only[Zkr,Zes,Go.Ag.segm,DV.encL]
   rw[EL.segm 0 n h.2 hk.2]
   rcases h.1 with h1|h1
   · rw[h1] at hk;cases hk.1
   · rw[h1]
 | _::r,_::s,o+1,n,h,hk=>by
   simp only[Zkr,Zes,Go.Ag.segm] at hk ⊢
   exact EL.segm o n h.2 hk
theorem Zo1:∀ (a:List DC),(Zkr a).length=a.length
 |[]=>rfl
 |_::r=>by simp only[Zkr,List.length_cons,Zo1 r]
theorem EL.news:∀ (vs:List DV),EL (Go.Ag.news vs) (DV.encL vs)
 |[]=>trivial
 |_::r=>⟨.inr rfl,EL.news r⟩
theorem ZyU(q:Ql)(es:List (List PV)):(PV.sl q es).own=q.own':=by cases q<;>rfl
theorem ZAK(q:Ql)(hd:Hd)(es:List (List PV)):(PV.sl q es).bor hd=q.bor' hd:=by cases q<;>rfl
theorem ZDh(q:Ql)(hd:Hd)(es:List (List PV))(j o:Nat):(PV.ep q es j o).bor hd=q.bor' hd:=by cases q<;>rfl
mutual
theorem ZjU:∀ (v:DV),v.enc.own=v.own
 |.any|.undef|.bool _|.int _ _|.str _|.ifc _|.box _ _|.ptr _ _=>rfl
 |.nil q=>ZyU q []
 |.sl q _ _=>ZyU q _
 |.ep q _ _ _ _=>by cases q<;>rfl
 |.agg cs=>Zk9 cs
 |.tup vs=>Zk9 vs
theorem Zk9:∀ (l:List DV),PV.ownL (DV.encL l)=DV.ownL l
 |[]=>rfl
 |v::r=>by simp only[DV.encL,PV.ownL,DV.ownL,ZjU v,Zk9 r]
end
mutual
theorem Ztz(hd:Hd):∀ (v:DV),v.enc.bor hd=v.bor hd
 |.any|.undef|.bool _|.int _ _|.str _|.ifc _|.box _ _|.ptr _ _=>rfl
 |.nil q=>ZAK q hd []
 |.sl q _ _=>ZAK q hd _
 |.ep q _ _ _ _=>ZDh q hd _ _ _
 |.agg cs=>Ztg hd cs
 |.tup vs=>Ztg hd vs
theorem Ztg(hd:Hd):∀ (l:List DV),PV.borL hd (DV.encL l)=DV.borL hd l
 |[]=>rfl
 |v::r=>by simp only[DV.encL,PV.borL,DV.borL,Ztz hd v,Ztg hd r]
end
mutual
theorem ZCx:∀ (v:DV),v.enc.hold=v.hold
 |.any|.undef|.bool _|.int _ _|.str _|.ifc _|.box _ _|.ptr _ _=>rfl
 |.nil q=>by cases q<;>rfl
 |.sl q _ _=>by cases q<;>rfl
 |.ep q _ _ _ _=>by cases q<;>rfl
 |.agg cs=>ZkR cs
 |.tup vs=>ZkR vs
theorem ZkR:∀ (l:List DV),PV.holdL (DV.encL l)=DV.holdL l
 |[]=>rfl
 |v::r=>by simp only[DV.encL,PV.holdL,DV.holdL,ZCx v,ZkR r]
end
mutual
theorem ZDM:∀ (v:DV),v.fz.enc=v.enc.fz
 |.any|.undef|.bool _|.int _ _|.str _|.ifc _|.box _ _|.ptr _ _|.nil _|.sl _ _ _|.ep _ _ _ _ _=>rfl
 |.agg cs=>by simp only[DV.fz,DV.enc,PV.fz,ZnJ cs]
 |.tup cs=>by simp only[DV.fz,DV.enc,PV.fz,ZnJ cs]
theorem ZnJ:∀ (l:List DV),DV.encL (DV.fzL l)=PV.fzL (DV.encL l)
 |[]=>rfl
 |v::r=>by simp only[DV.encL,PV.fzL,DV.fzL,ZDM v,ZnJ r]
end
mutual
theorem Zqf:∀ (v:DV),v.detop.enc=v.enc.detop
 |.any|.undef|.bool _|.int _ _|.str _|.ifc _|.box _ _|.ptr _ _=>rfl
 |.nil q=>by cases q<;>rfl
 |.sl q _ _=>by cases q<;>rfl
 |.ep q _ _ _ _=>by cases q<;>rfl
 |.agg cs=>by simp only[DV.detop,DV.enc,PV.detop,ZnA cs]
 |.tup cs=>by simp only[DV.detop,DV.enc,PV.detop,ZnA cs]
theorem ZnA:∀ (l:List DV),DV.encL (DV.detopL l)=PV.detopL (DV.encL l)
 |[]=>rfl
 |v::r=>by simp only[DV.encL,PV.detopL,DV.detopL,Zqf v,ZnA r]
end
mutual
theorem Zla:∀ (v:DV),v.enc.hasPtr=v.hasPtr
 |.any|.undef|.bool _|.int _ _|.str _|.ifc _|.box _ _|.ptr _ _|.nil _|.sl _ _ _|.ep _ _ _ _ _=>rfl
 |.agg cs=>ZfE cs
 |.tup vs=>ZfE vs
theorem ZfE:∀ (l:List DV),PV.hasPtrL (DV.encL l)=DV.hasPtrL l
 |[]=>rfl
 |v::r=>by simp only[DV.encL,PV.hasPtrL,DV.hasPtrL,Zla v,ZfE r]
end
mutual
theorem ZyR:∀ (t:CT) (x:t.D),(CT.enc t x).deep=true
 |.int _,_|.bool,_|.str,_|.ifc,_=>rfl
 | .sl r,l=>by
   simp only[CT.enc,PV.deep]
   exact ZsW r l
theorem ZzV:∀ (r:RT) (x:r.D),PV.deepL (RT.enc r x)=true
 |.one t,x=>by simp only[RT.enc,PV.deepL,ZyR t x,Bool.and_self]
 |.cons t r,x=>by simp only[RT.enc,PV.deepL,ZyR t x.1,ZzV r x.2,Bool.and_self]
theorem ZsW:∀ (r:RT) (l:List r.D),PV.deepE (l.map (RT.enc r))=true
 |_,[]=>rfl
 |r,x::l=>by simp only[List.map_cons,PV.deepE,ZzV r x,ZsW r l,Bool.and_self]
end
theorem EL.clr(hd:Hd):∀ {a:List DC} {b:List PV},EL a b→EL (Zq1 hd a) (Go.Ag.clr hd b)
 |[],[],_=>trivial
 | c :: _,p::_,h=>by
   refine⟨?_,EL.clr hd h.2⟩
   by_cases hb:c.v.bor hd=true
   · rw[if_pos hb];exact .inl rfl
   · rw[if_neg hb]
     rcases h.1 with h1|h1
     · exact .inl h1
     · rw[h1,Ztz,if_neg hb];exact .inr rfl
theorem ZAm(i:Nat)(v:DV):v.enc.isBox i=v.isBox i:=by cases v<;>rfl
theorem EL.clearBox(i:Nat):∀ {a:List DC} {b:List PV},EL a b→EL (ZkA i a) (ZdG i b)
 |[],[],_=>trivial
 | c :: _,p::_,h=>by
   refine⟨?_,EL.clearBox i h.2⟩
   by_cases hb:c.v.isBox i=true
   · rw[if_pos hb];exact .inl rfl
   · rw[if_neg hb]
     rcases h.1 with h1|h1
     · exact .inl h1
     · rw[h1,ZAm,if_neg hb];exact .inr rfl
theorem EL.trim(live:List Nat):∀ {a:List DC} {b:List PV} (n:Nat),EL a b→EL (ZB7 live n a) (ZmH live n b)
 |[],[],_,_=>trivial
 | c::_,p::_,n,h=>by
   refine⟨?_,EL.trim live (n+1) h.2⟩
   by_cases hb:live.contains n=true
   · rw[if_pos hb,if_pos hb];exact h.1
   · rw[if_neg hb];exact .inl rfl
mutual
theorem Zwj:∀ (v:DV),v.hasTop=false→v.detop=v
 |.any,_|.undef,_|.bool _,_|.int _ _,_|.str _,_|.ifc _,_|.box _ _,_|.ptr _ _,_=>rfl
 |.nil q,h=>by cases q<;>first|rfl|(simp only[DV.hasTop,DV.top] at h;first|(subst h;rfl)|cases h)
 |.sl q _ _,h=>by cases q<;>first|rfl|(simp only[DV.hasTop,DV.top] at h;first|(subst h;rfl)|cases h)
 |.ep q _ _ _ _,h=>by cases q<;>first|rfl|(simp only[DV.hasTop,DV.top] at h;first|(subst h;rfl)|cases h)
 |.agg cs,h=>by simp only[DV.hasTop] at h;simp only[DV.detop,ZqE cs h]
 |.tup cs,h=>by simp only[DV.hasTop] at h;simp only[DV.detop,ZqE cs h]
theorem ZqE:∀ (l:List DV),DV.hasTopL l=false→DV.detopL l=l
 |[],_=>rfl
 | v::r,h=>by
   simp only[DV.hasTopL,Bool.or_eq_false_iff] at h
   simp only[DV.detopL,Zwj v h.1,ZqE r h.2]
end
theorem EL.keep(live:List Nat):∀ {a:List DC} {b:List PV} (n:Nat),EL a b→EL (ZwG live n a) (ZkI live n b)
 |[],[],_,_=>trivial
 | c :: _,p::_,n,h=>by
   refine⟨?_,EL.keep live (n+1) h.2⟩
   by_cases hb:live.contains n=true
   · rw[if_pos hb,if_pos hb]
     rcases h.1 with h1|h1
     · rw[h1];exact .inl h1
     · by_cases ht:c.v.hasTop=true
       · rw[if_pos ht,h1];exact .inr (Zqf c.v).symm
       · rw[if_neg ht,h1,← Zqf,Zwj c.v (by simpa using ht)];exact .inr rfl
   · rw[if_neg hb];exact .inl rfl
theorem EL.clean:∀ {a:List DC} {b:List PV},EL a b→EL (Go.Ag.clean a) b
 |[],[],_=>trivial
 |_::_,_::_,h=>⟨h.1,EL.clean h.2⟩
theorem EBx.clean{a:List DC}{b:List PV}(h:EBx a b):EBx (Go.Ag.clean a) b:=by
 rcases h with rfl|h
 · exact .inl rfl
 · exact .inr h.clean
theorem EB.clean:∀ {a:List (List DC)} {b:List (List PV)},EB a b→EB (Zsq a) b
 |[],[],_=>trivial
 |_::_,_::_,h=>⟨h.1.clean,EB.clean h.2⟩
theorem ES.clean{d:DS}{s:PS}(h:ES d s):ES d.clean s:=⟨h.sl.clean,h.bx.clean,h.hp.clean⟩
theorem ES.trim{d:DS}{s:PS}(l:List Nat)(h:ES d s):ES (ZCt l d) { s with sl:=ZmH l 0 s.sl }:=⟨h.sl.trim l 0,h.bx,h.hp⟩
theorem ES.keep{d:DS}{s:PS}(l:List Nat)(h:ES d s):ES (ZjL l d) { s with sl:=ZkI l 0 s.sl }:=⟨h.sl.keep l 0,h.bx,h.hp⟩
theorem EL.rem:∀ {x a:List DC} {b:List PV},EL a b→EL (ZFL x a) b
 |[],[],[],_=>trivial
 |[],_::_,_::_,h=>h
 |_::_,[],[],_=>trivial
 |_::_,_::_,_::_,h=>⟨h.1,EL.rem h.2⟩
theorem EBx.rem{x a:List DC}{b:List PV}(h:EBx a b):EBx (ZFL x a) b:=by
 rcases h with rfl|h
 · cases x<;>exact .inl rfl
 · exact .inr h.rem
theorem EB.rem:∀ {x a:List (List DC)} {b:List (List PV)},EB a b→EB (ZF9 x a) b
 |[],[],[],_=>trivial
 |[],_::_,_::_,h=>h
 |_::_,[],[],_=>trivial
 |_::_,_::_,_::_,h=>⟨h.1.rem,EB.rem h.2⟩
theorem ES.rem{x d:DS}{s:PS}(h:ES d s):ES (ZDJ x d) s:=⟨h.sl.rem,h.bx.rem,h.hp.rem⟩
theorem ES.put{d:DS}{s:PS}(x:Option Nat)(v:DV)(h:ES d s):ES (d.put x v) (s.put x v.enc):=by
 cases x with
 |none=>exact h
 | some n=>
   simp only[DS.put,PS.put,ZjU]
   by_cases ho:v.own=true
   · rw[if_pos ho,if_pos ho]
     exact⟨(h.sl.put n (.inr rfl)).clr _,h.bx,h.hp⟩
   · rw[if_neg ho,if_neg ho]
     exact⟨h.sl.put n (.inr rfl),h.bx,h.hp⟩
theorem ZoR(v:V)(h:ZBO v≠.any):(ZBO v).enc=ofV v:=by
 cases v<;>first|rfl|skip
 case tup vs=>cases vs<;>rfl
theorem Zbv{d:DS}{s:PS}(x:Opnd)(h:ES d s)(hk:(Za8 x d).1.ok=true):(mvOut x s).1=(Za8 x d).1.enc∧ES (Za8 x d).2 (mvOut x s).2:=by
 cases x with
 | c v=>
   refine⟨?_,h⟩
   refine(ZoR v fun he=>?_).symm
   simp only[Za8,he,DV.ok,Bool.false_eq_true] at hk
 | t n =>
   simp only[Za8,ZFW,mvOut,mvS] at hk ⊢
   rcases h.sl.get n with hg|hg
   · rw[hg] at hk
     simp only[DV.own,Bool.false_eq_true,if_false,DV.ok] at hk
   · rw[hg,ZjU,Ztz]
     by_cases ho:(Zip d.sl n).own=true
     · simp only[ho,if_true] at hk ⊢
       by_cases hb:(Zip d.sl n).bor (.s n)=true
       · simp only[hb,if_true,DV.ok,Bool.false_eq_true] at hk
       · simp only[hb] at hk ⊢
         exact⟨rfl,(h.sl.put n (.inl rfl)).clr _,h.bx,h.hp⟩
     · simp only[ho] at hk ⊢
       exact⟨rfl,h⟩
theorem ZCM(v:DV)(h:v.cell=true):v.enc.cell=true:=by
 cases v<;>first|rfl|cases h|skip
 case nil q=>cases q<;>first|rfl|cases h
 case sl q r l=>cases q<;>first|rfl|cases h
theorem ZiE:∀ (l:List DV),Zfd l=true→Zc3 (DV.encL l)=true
 |[],_=>rfl
 | v::r,h=>by
   simp only[Zfd,Bool.and_eq_true] at h
   simp only[DV.encL,Zc3,ZCM v h.1,ZiE r h.2,Bool.and_self]
theorem ZEo(v:DV)(h:v.cell=true):v.ok=true:=by cases v<;>first|rfl|cases h
theorem ZuM:∀ (l:List DV),Zfd l=true→DV.okL l=true
 |[],_=>rfl
 | v::r,h=>by
   simp only[Zfd,Bool.and_eq_true] at h
   simp only[DV.okL,ZEo v h.1,ZuM r h.2,Bool.and_self]
theorem ZfT(v:DV):v.enc.cells=DV.encL v.cells:=by cases v<;>rfl
theorem ZmR(v:DV)(h:Zfd v.cells=true):v.ok=true:=by
 cases v<;>first|rfl|(simp only[DV.cells,Zfd,DV.cell,Bool.and_true,Bool.false_eq_true] at h)|skip
 case agg cs=>exact ZuM cs h
theorem Ztc(v:DV)(h:v.retc=true):v.enc.retc=true:=by
 cases v<;>first|rfl|cases h|skip
 case nil q=>cases q<;>first|rfl|cases h
 case sl q r l=>cases q<;>first|rfl|cases h
theorem Zo5:∀ (l:List DV),Zrz l=true→ZuX (DV.encL l)=true
 |[],_=>rfl
 | v::r,h=>by
   simp only[Zrz,Bool.and_eq_true] at h
   simp only[DV.encL,ZuX,Ztc v h.1,Zo5 r h.2,Bool.and_self]
theorem ZBp(v:DV)(h:v.retok=true):v.enc.retok=true:=by
 cases v<;>first|rfl|cases h|skip
 case nil q=>exact Ztc (.nil q) h
 case sl q r l=>exact Ztc (.sl q r l) h
 case agg cs=>exact Zo5 cs h
theorem Zxg(v:DV)(h:v.argc=true):v.enc.argc=true:=by cases v<;>first|rfl|cases h
theorem Zxb:∀ (l:List DV),ZB9 l=true→ZBK (DV.encL l)=true
 |[],_=>rfl
 | v::r,h=>by
   simp only[ZB9,Bool.and_eq_true] at h
   simp only[DV.encL,ZBK,Zxg v h.1,Zxb r h.2,Bool.and_self]
theorem Zuk(v:DV)(h:v.argok=true):v.enc.argok=true:=by
 cases v<;>first|rfl|cases h|exact Zxg _ h|skip
 case agg cs=>exact Zxb cs h
theorem Zlk:∀ (l:List DV),ZiU l=true→ZlS (DV.encL l)=true
 |[],_=>rfl
 | v::r,h=>by
   simp only[ZiU,Bool.and_eq_true] at h
   simp only[DV.encL,ZlS,Zuk v h.1,Zlk r h.2,Bool.and_self]
theorem Opnd.dev_ev{d:DS}{s:PS}(h:ES d s)(x:Opnd):EV (x.dev d.sl) (x.pev s.sl):=by
 cases x with
 |t n=>exact h.sl.get n
 | c v=>
   by_cases hv:ZBO v= .any
   · exact .inl hv
   · exact .inr (ZoR v hv).symm
theorem EV.of{v:DV}{p:PV}(h:EV v p)(hn:v≠.any):p=v.enc:=h.resolve_left hn
theorem Zs4{op:BinOp}{k:IntKind}{a b:Int}{g:PX}{v:DV}(h:Ztv op k a b=some (g,v))(hg:g.den):(ZfM op k a b).map PV.fl=some v.enc:=by
 cases op<;>simp only[Ztv,dI,dB,Option.some.injEq,Prod.mk.injEq,reduceCtorEq] at h<;>obtain⟨rfl,rfl⟩:=h<;>simp only[ZfM,ZAz,ZDq,ZGl,ZGY,ZDu,ZGB,ZHp,ZF7,ZzM,ZCl,ZGb,ZGr,ZG6,ZGV,ZGP,DV.enc,BX.b,Option.map_some]
 · rw[if_neg (show ¬ b=0 from hg)];rfl
 · rw[if_neg (show ¬ b=0 from hg)];rfl
theorem ZnT{op:BinOp}{k:IntKind}{a b:Int}{g:PX}{v:DV}(h:ZwT op k a b=some (g,v))(hg:g.den):(Zj5 op k a b).map PV.fl=some v.enc:=by
 cases op<;>simp only[ZwT,Option.some.injEq,Prod.mk.injEq,reduceCtorEq] at h<;>obtain⟨rfl,rfl⟩:=h<;>simp only[Zj5,ZG3,ZG4,DV.enc]<;>rw[if_neg (show ¬ b<0 from Int.not_lt.mpr hg)]<;>rfl
theorem ZsA{k k':IntKind}(h:IntKind.same k k'=true):k=k':=by simpa [IntKind.same] using h
theorem ZxB{op:BinOp}{a b:DV}{p q:PV}{g:PX}{v:DV}(ha:EV a p)(hb:EV b q)(h:ZFH op a b=some (g,v))(hg:g.den):ZyB op p q=some v.enc:=by
 cases a<;>try (simp only[ZFH,reduceCtorEq] at h)
 case int k a=>
  cases b<;>try (simp only[ZFH,reduceCtorEq] at h)
  case int k' b=>
   rw[ha.of (by simp),hb.of (by simp)]
   simp only[DV.enc,ZyB,Zfo]
   by_cases h1:op= .shl
   · subst h1;exact ZnT h hg
   · by_cases h2:op= .shr
     · subst h2;exact ZnT h hg
     · have h3:(if IntKind.same k k'=true then Ztv op k a b else none)=some (g,v):=by cases op<;>first|exact h|exact absurd rfl h1|exact absurd rfl h2
       by_cases hk:IntKind.same k k'=true
       · rw[if_pos hk] at h3
         have:=ZsA hk;subst this
         have h4:=Zs4 h3 hg
         cases op<;>simp only[if_true]<;>first|exact h4|exact absurd rfl h1|exact absurd rfl h2
       · rw[if_neg hk] at h3;cases h3
 case str a=>
  cases b<;>try (simp only[ZFH,reduceCtorEq] at h)
  case str b=>
   rw[ha.of (by simp),hb.of (by simp)]
   cases op<;>simp only[ZFH,dB,Option.some.injEq,Prod.mk.injEq,reduceCtorEq] at h<;>obtain⟨rfl,rfl⟩:=h<;>simp only[DV.enc,ZyB,Zfo,ZDz,ZG0,ZFR,BX.b,Option.map_some]
   rw[if_pos (show a.length+b.length≤9223372036854775807 from hg)];rfl
theorem ZAS(x:BX):x.not.b=!x.b:=by cases x<;>simp only[BX.not,BX.b,Zr2]
theorem ZHi(x y:BX):(x.eq y).b=(x.b == y.b):=by
 cases x with
 | lit a=>cases y with
   |lit b=>rfl
   |dyn b=>cases a<;>cases b<;>simp only[BX.eq,BX.b,Zr2]<;>rfl
 | dyn a=>cases y with
   |lit b=>cases a<;>cases b<;>simp only[BX.eq,BX.b,Zr2]<;>rfl
   |dyn b=>simp only[BX.eq,BX.b,ZDp]
theorem ZxM{neg:Bool}{a b:DV}{p q:PV}{g:PX}{v:DV}(ha:EV a p)(hb:EV b q)(h:ZHd neg a b=some (g,v)):ZyK neg p q=some v.enc:=by
 cases a<;>try (simp only[ZHd,reduceCtorEq] at h)
 case bool a=>
  cases b<;>try (simp only[ZHd,reduceCtorEq] at h)
  case bool b=>
   rw[ha.of (by simp),hb.of (by simp)]
   simp only[dok,Option.some.injEq,Prod.mk.injEq] at h
   obtain⟨rfl,rfl⟩:=h
   cases neg<;>simp only[DV.enc,ZyK,if_true,Bool.false_eq_true,if_false,ZAS,ZHi]
theorem Zx3{neg:Bool}{a:DV}{p:PV}{g:PX}{v:DV}(ha:EV a p)(h:ZHJ neg a=some (g,v)):ZyS neg p=some v.enc:=by
 cases a<;>try (simp only[ZHJ,reduceCtorEq] at h)
 case ifc a=>
  rw[ha.of (by simp)]
  simp only[dB,Option.some.injEq,Prod.mk.injEq] at h
  obtain⟨rfl,rfl⟩:=h
  cases neg<;>simp only[DV.enc,ZyS,if_true,Bool.false_eq_true,if_false,Zr2,BX.b]
theorem ZA2{op:UnOp}{a:DV}{p:PV}{g:PX}{v:DV}(ha:EV a p)(h:dun op a=some (g,v)):ZGI op p=some v.enc:=by
 cases op<;>cases a<;>simp only[dun,dok,dI,Option.some.injEq,Prod.mk.injEq,reduceCtorEq] at h<;>obtain⟨rfl,rfl⟩:=h<;>rw[ha.of (by simp)]<;>simp only[DV.enc,ZGI,ZzS,Option.map_some,ZAS,ZGp]
theorem Zwa{k:IntKind}{a:DV}{p:PV}{g:PX}{v:DV}(ha:EV a p)(h:ZFl k a=some (g,v)):ZtL k p=some v.enc:=by
 cases a<;>simp only[ZFl,dI,Option.some.injEq,Prod.mk.injEq,reduceCtorEq] at h
 obtain⟨rfl,rfl⟩:=h
 rw[ha.of (by simp)]
 simp only[DV.enc,ZtL,ZBA]
theorem ZtO{a:DV}{p:PV}{g:PX}{v:DV}(ha:EV a p)(h:ZzA a=some (g,v)):ZtC p=some v.enc:=by
 cases a<;>simp only[ZzA,dok,Option.some.injEq,Prod.mk.injEq,reduceCtorEq] at h<;>obtain⟨rfl,rfl⟩:=h<;>rw[ha.of (by simp)]<;>rfl
theorem Ztf{off:Nat}{a:DV}{p:PV}{g:PX}{v:DV}(ha:EV a p)(h:Zva off a=some (g,v)):ZoX off p=some v.enc:=by
 cases a<;>simp only[Zva,dok,Option.some.injEq,Prod.mk.injEq,reduceCtorEq] at h<;>obtain⟨rfl,rfl⟩:=h<;>rw[ha.of (by simp)]<;>rfl
theorem Zxs{a:DV}{p:PV}{g:PX}{v:DV}(ha:EV a p)(h:ZIb a=some (g,v)):Zz0 p=some v.enc:=by
 cases a<;>simp only[ZIb,dI,Option.some.injEq,Prod.mk.injEq,reduceCtorEq] at h<;>obtain⟨rfl,rfl⟩:=h<;>rw[ha.of (by simp)]<;>simp only[DV.enc,Zz0,List.length_map,ZAr,List.length_nil]<;>rfl
theorem Zv8{a:DV}{p:PV}{g:PX}{v:DV}(ha:EV a p)(h:ZE4 a=some (g,v)):Zua p=some v.enc:=by
 cases a<;>simp only[ZE4,dI,Option.some.injEq,Prod.mk.injEq,reduceCtorEq] at h
 obtain⟨rfl,rfl⟩:=h
 rw[ha.of (by simp)];simp only[DV.enc,Zua,ZAr]
theorem Zum{a b:DV}{p q:PV}{g:PX}{v:DV}(ha:EV a p)(hb:EV b q)(h:Zws a b=some (g,v))(hg:g.den):Zpk p q=some v.enc:=by
 cases a<;>try (simp only[Zws,reduceCtorEq] at h)
 cases b<;>simp only[Zws,Option.some.injEq,Prod.mk.injEq,reduceCtorEq] at h
 obtain⟨rfl,rfl⟩:=h
 rw[ha.of (by simp),hb.of (by simp)]
 simp only[DV.enc,Zpk,ZGt]
 exact if_pos hg
theorem Zn0:∀ (r:RT) (x:r.D),(RT.enc r x).length=r.w
 |.one _,_=>rfl
 |.cons _ r,x=>by simp only[RT.enc,List.length_cons,RT.w,Zn0 r x.2]
theorem Zd1(r:RT):∀ (l:List r.D),Zm2 r.w (l.map (RT.enc r))=true
 |[]=>rfl
 |x::l=>by simp only[List.map_cons,Zm2,Zn0,beq_self_eq_true,Zd1 r l,Bool.and_self]
theorem ZsP{w:Nat}{x:Opnd}{a b:DV}{p q:PV}{g:PX}{v:DV}(ha:EV a p)(hb:EV b q)(h:Zqu w x a b=some (g,v))(hg:g.den):ZmQ w x p q=some v.enc:=by
 cases a<;>try (simp only[Zqu,reduceCtorEq] at h)
 case sl q' r l=>
  cases b<;>try (simp only[Zqu,reduceCtorEq] at h)
  case int k j=>
   rw[ha.of (by simp),hb.of (by simp)]
   by_cases hw:(r.w == w)=true
   · rw[if_pos hw] at h
     have hw':r.w=w:=by simpa using hw
     subst hw'
     cases hq:ZuW x q' with
     |none=>rw[hq] at h;cases h
     | some q2=>
       rw[hq] at h
       simp only[Option.some.injEq,Prod.mk.injEq] at h
       obtain⟨rfl,rfl⟩:=h
       simp only[DV.enc,ZmQ,List.length_map,ZAs]
       rw[if_pos ⟨hg.1,hg.2,Zd1 r l⟩,hq];rfl
   · rw[if_neg hw] at h;cases h
 case nil q'=>cases b<;>simp only[Zqu,reduceCtorEq] at h
theorem Zxz{a b:DV}{p q:PV}{g:PX}{v:DV}(ha:EV a p)(hb:EV b q)(h:ZH0 a b=some (g,v)):ZzL p q=some v.enc:=by
 unfold ZH0 at h
 split at h
 · simp only[dI,Option.some.injEq,Prod.mk.injEq] at h
   obtain⟨rfl,rfl⟩:=h
   rw[ha.of (by simp),hb.of (by simp)]
   simp only[DV.enc,ZzL,ZGH]
 · cases h
theorem Zyw{a b:DV}{p q:PV}{g:PX}{v:DV}(ha:EV a p)(hb:EV b q)(h:ZHM a b=some (g,v)):ZzR p q=some v.enc:=by
 unfold ZHM at h
 split at h
 · simp only[dI,Option.some.injEq,Prod.mk.injEq] at h
   obtain⟨rfl,rfl⟩:=h
   rw[ha.of (by simp),hb.of (by simp)]
   simp only[DV.enc,ZzR,ZFU]
 · cases h
theorem land_den(a b:PX):(a.land b).den↔a.den∧b.den:=by
 cases a<;>cases b<;>simp[PX.land,PX.den]
theorem ZiX{d:Nat}{x:Option DV}{y:Option PV}{g:PX}{n:Nat}(hx:match x,y with|none,none=>True|some v,some p=>EV v p|_,_=>False)(h:ZkE d x=some (g,n))(hg:g.den):ZmA d y=some n:=by
 cases x with
 | none=>
   cases y with
   |none=>simp only[ZkE,Option.some.injEq,Prod.mk.injEq] at h;rw[← h.2];rfl
   |some p=>cases hx
 | some v=>
   cases y with
   |none=>cases hx
   | some p=>
     cases v<;>simp only[ZkE,Option.some.injEq,Prod.mk.injEq,reduceCtorEq] at h
     obtain⟨rfl,rfl⟩:=h
     rw[EV.of hx (by simp)]
     simp only[DV.enc,ZmA,ZAs]
     exact if_pos hg
theorem Ztj{lo hi:Option DV}{lo' hi':Option PV}{a:DV}{p:PV}{g:PX}{v:DV}(hl:match lo,lo' with|none,none=>True|some v,some p=>EV v p|_,_=>False)(hh:match hi,hi' with|none,none=>True|some v,some p=>EV v p|_,_=>False)(ha:EV a p)(h:Zv4 lo hi a=some (g,v))(hg:g.den):Zmr lo' hi' p=some v.enc:=by
 cases a<;>try (simp only[Zv4,reduceCtorEq] at h)
 case str t=>
  rw[ha.of (by simp)]
  cases h1:ZkE 0 lo with
  |none=>rw[h1] at h;cases h
  | some x=>
    cases h2:ZkE (lN t) hi with
    |none=>rw[h1,h2] at h;cases h
    | some y=>
      obtain⟨g1,a⟩:=x
      obtain⟨g2,b⟩:=y
      rw[h1,h2] at h
      simp only[Option.some.injEq,Prod.mk.injEq] at h
      obtain⟨rfl,rfl⟩:=h
      rw[land_den,land_den] at hg
      have e1:=ZiX hl h1 hg.1.1
      have e2:=ZiX hh h2 hg.1.2
      simp only[ZF0] at e2
      simp only[DV.enc,Zmr,e1,e2,ZBk]
      exact if_pos hg.2
theorem ZuF{w:Nat}{x:Opnd}{lo hi:Option DV}{lo' hi':Option PV}{a:DV}{p:PV}{g:PX}{v:DV}(hl:match lo,lo' with|none,none=>True|some v,some p=>EV v p|_,_=>False)(hh:match hi,hi' with|none,none=>True|some v,some p=>EV v p|_,_=>False)(ha:EV a p)(h:ZA0 w x lo hi a=some (g,v))(hg:g.den):ZpO w x lo' hi' p=some v.enc:=by
 cases a<;>try (simp only[ZA0,reduceCtorEq] at h)
 case sl q r t=>
  rw[ha.of (by simp)]
  cases h1:ZkE 0 lo with
  |none=>rw[h1] at h;cases h
  | some x1 =>
    cases h2:ZkE (lN t) hi with
    |none=>rw[h1,h2] at h;cases h
    | some y=>
      obtain⟨g1,a⟩:=x1
      obtain⟨g2,b⟩:=y
      rw[h1,h2] at h
      simp only at h
      by_cases hw:(r.w == w)=true
      · rw[if_pos hw] at h
        have hw':r.w=w:=by simpa using hw
        subst hw'
        cases hq:ZIh x lo.isNone q with
        |none=>rw[hq] at h;cases h
        | some q'=>
          rw[hq] at h
          simp only[Option.some.injEq,Prod.mk.injEq] at h
          obtain⟨rfl,rfl⟩:=h
          rw[land_den,land_den] at hg
          have e1:=ZiX hl h1 hg.1.1
          have e2:=ZiX hh h2 hg.1.2
          simp only[ZF0] at e2
          have hz:ZuY x (if lo'.isNone=true then 0 else 1) q=some q':=by
           have:lo'.isNone=lo.isNone:=by cases lo<;>cases lo'<;>first|rfl|exact hl.elim
           rw[this];exact hq
          simp only[DV.enc,ZpO,List.length_map,e1,e2,ZBk,hz]
          rw[if_pos ⟨hg.2.1,hg.2.2.1,hg.2.2.2,Zd1 r t⟩,List.map_take,List.map_drop];rfl
      · rw[if_neg hw] at h;cases h
theorem ZDk(hd:Hd)(p:List Nat)(v:DV):(ZFh hd p v).enc=ZnI hd p v.enc:=by
 cases v<;>first|rfl|skip
 case nil q=>cases q<;>rfl
 case sl q r l=>cases q<;>rfl
theorem Zmw(hd:Hd):∀ (n:Nat) (l:List DV),DV.encL (Zrg hd n l)=Zym hd n (DV.encL l)
 |_,[]=>rfl
 |n,v::r=>by simp only[Zrg,DV.encL,Zym,ZDk,Zmw hd (n+1) r]
theorem Zjs{n:Option Nat}{cs:List DV}{v:DV}(h:Zis n cs=some v):Zf5 n (DV.encL cs)=some v.enc:=by
 cases n with
 |some n=>simp only[Zis,Option.some.injEq] at h;subst h;rfl
 | none=>match cs,h with
   |[x],h=>simp only[Zis,Option.some.injEq] at h;subst h;rfl
theorem ZuB{off:Nat}{n:Option Nat}{x:Opnd}{a:DV}{p:PV}{g:PX}{v:DV}(ha:EV a p)(h:Zz2 off n x a=some (g,v)):ZpZ off n x p=some v.enc:=by
 cases a<;>try (simp only[Zz2,reduceCtorEq] at h)
 case agg cs=>
  rw[ha.of (by simp)]
  cases x with
  |c _=>cases h
  | t t =>
    simp only at h
    by_cases hc:(Nat.ble (off+n.getD 1) cs.length&&DV.okL (Zes cs off (n.getD 1)))=true
    · rw[if_pos hc] at h
      rw[Bool.and_eq_true] at hc
      cases hv:Zis n (Zrg (.s t) off (Zes cs off (n.getD 1))) with
      |none=>rw[hv] at h;cases h
      | some w=>
        rw[hv] at h
        simp only[Option.map_some,Option.some.injEq,Prod.mk.injEq] at h
        obtain⟨rfl,rfl⟩:=h
        have:=Zjs hv
        rw[Zmw,Zmp] at this
        simp only[DV.enc,ZpZ,Zez]
        rw[if_pos (Nat.le_of_ble_eq_true hc.1)]
        exact this
    · rw[if_neg hc] at h;cases h
theorem Zup:∀ {r:RT} {l:List r.D} {s:List UInt8},Zw3 r l=some s→Zcc (l.map (RT.enc r))=some s
 | .one (.int .u8),l,s,h=>by
   simp only[Zw3,Option.some.injEq] at h
   subst h
   refine Eq.trans ?_ (congrArg some (ZGw l).symm)
   induction l with
   |nil=>rfl
   | cons x l ih=>
     show (Zcc (l.map (RT.enc (.one (.int .u8))))).map (fun s=>UInt8.ofNat (Int.toNat x)::s)=_
     rw[ih];rfl
theorem Zvd{a:DV}{p:PV}{g:PX}{v:DV}(ha:EV a p)(h:ZFA a=some (g,v)):ZuD p=some v.enc:=by
 cases a<;>try (simp only[ZFA,reduceCtorEq] at h)
 case nil q=>
  rw[ha.of (by simp)]
  simp only[dok,Option.some.injEq,Prod.mk.injEq] at h
  obtain⟨rfl,rfl⟩:=h;rfl
 case sl q r l=>
  rw[ha.of (by simp)]
  cases hs:Zw3 r l with
  |none=>rw[hs] at h;cases h
  | some s=>
    rw[hs] at h
    simp only[Option.map_some,Option.some.injEq,Prod.mk.injEq] at h
    obtain⟨rfl,rfl⟩:=h
    simp only[DV.enc,ZuD,Zup hs,Option.map_some]
theorem ZlP:∀ {a b:List DV} {t:BX},Zi0 a b=some t→∃ x y,unL (DV.encL a)=some x∧unL (DV.encL b)=some y∧x.length=a.length∧y.length=b.length∧x.all V.flat=true∧y.all V.flat=true∧Zd8 x y=some t.b
 | [],[],t,h=>by
   simp only[Zi0,Option.some.injEq] at h;subst h
   exact⟨[],[],rfl,rfl,rfl,rfl,rfl,rfl,rfl⟩
 | .int k a::x,.int k' b::y,t,h=>by
   unfold Zi0 at h
   by_cases hk:IntKind.same k k'=true
   · rw[if_pos hk] at h
     have:=ZsA hk;subst this
     have key:∀ t',Zi0 x y=some t'→t.b=((a == b)&&t'.b)→∃ x1 y1,unL (DV.encL (.int k a::x))=some x1∧unL (DV.encL (.int k b::y))=some y1∧x1.length=(DV.int k a::x).length∧y1.length=(DV.int k b::y).length∧x1.all V.flat=true∧y1.all V.flat=true∧Zd8 x1 y1=some t.b:=by
      intro t' ht hb
      obtain⟨x1,y1,h1,h2,h3,h4,h5,h6,h7⟩:=ZlP ht
      refine⟨.int k a::x1,.int k b::y1,?_,?_,by simp[h3],by simp[h4],?_,?_,?_⟩
      · simp only[DV.encL,DV.enc,unL,h1]
      · simp only[DV.encL,DV.enc,unL,h2]
      · simp only[List.all_cons,V.flat,h5,Bool.and_self]
      · simp only[List.all_cons,V.flat,h6,Bool.and_self]
      · simp only[Zd8,Zsw,if_true]
        cases hab:(a == b) with
        |true=>simp only[h7,hb,hab,Bool.true_and]
        |false=>simp only[hb,hab,Bool.false_and]
     split at h
     · simp only[Option.some.injEq] at h
       subst h
       exact key (.lit true) rfl (by simp only[BX.b,ZCl,Bool.and_true])
     · cases ht:Zi0 x y with
       |none=>rw[ht] at h;cases h
       | some t'=>
         rw[ht] at h
         simp only[Option.map_some,Option.some.injEq] at h
         subst h
         exact key t' ht (by simp only[BX.b,ZCl,Zz7])
   · rw[if_neg hk] at h;cases h
theorem ZxQ{n:Nat}{neg:Bool}{a b:DV}{p q:PV}{g:PX}{v:DV}(ha:EV a p)(hb:EV b q)(h:ZG8 n neg a b=some (g,v)):ZyC n neg p q=some v.enc:=by
 cases a<;>try (simp only[ZG8,reduceCtorEq] at h)
 case agg a=>
  cases b<;>try (simp only[ZG8,reduceCtorEq] at h)
  case agg b=>
   rw[ha.of (by simp),hb.of (by simp)]
   by_cases hl:(a.length == n&&b.length == n)=true
   · rw[if_pos hl] at h
     rw[Bool.and_eq_true,beq_iff_eq,beq_iff_eq] at hl
     cases ht:Zi0 a b with
     |none=>rw[ht] at h;cases h
     | some t=>
       rw[ht] at h
       simp only[dok,Option.some.injEq,Prod.mk.injEq] at h
       obtain⟨rfl,rfl⟩:=h
       obtain⟨x,y,h1,h2,h3,h4,h5,h6,h7⟩:=ZlP ht
       simp only[DV.enc,ZyC,h1,h2]
       rw[if_pos ⟨h3.trans hl.1,h4.trans hl.2,h5,h6⟩,h7]
       cases neg<;>simp only[Option.map_some,if_true,Bool.false_eq_true,if_false,ZAS]
   · rw[if_neg hl] at h;cases h
theorem Zwx{d:DS}{s:PS}(h:ES d s)(x:Option Opnd):match x.map (fun x=>x.dev d.sl),x.map (fun x=>x.pev s.sl) with|none,none=>True|some v,some p=>EV v p|_,_=>False:=by
 cases x with
 |none=>exact trivial
 |some x=>exact x.dev_ev h
theorem Zku{s:PS}{o:Option PV}{v:PV}(h:o=some v):Zfe s o=some (v,s):=by rw[h];rfl
theorem ZvU{d:DS}{s:PS}{o:AOp}{m:Bool}{g:PX}{v:DV}(hs:ES d s)(h:ZxO o (fun x=>x.dev d.sl)=some (g,v))(hg:g.den):Zdg m o s=some (v.enc,s):=by
 have E:=fun x=>Opnd.dev_ev hs x
 cases o<;>simp only[ZxO,reduceCtorEq] at h<;>simp only[Zdg]
 case nilck x=>exact Zku (ZtO (E x) h)
 case bin op x y=>exact Zku (ZxB (E x) (E y) h hg)
 case eqB neg x y=>exact Zku (ZxM (E x) (E y) h)
 case eqN neg x y=>
  split at h
  · exact Zku (Zx3 (E x) h)
  · cases h
 case eqA n neg x y=>exact Zku (ZxQ (E x) (E y) h)
 case un op x=>exact Zku (ZA2 (E x) h)
 case conv k x=>exact Zku (Zwa (E x) h)
 case bstr x=>exact Zku (Zvd (E x) h)
 case slice w x lo hi=>exact Zku (ZuF (Zwx hs lo) (Zwx hs hi) (E x) h hg)
 case substr x lo hi=>exact Zku (Ztj (Zwx hs lo) (Zwx hs hi) (E x) h hg)
 case fieldA off a=>exact Zku (Ztf (E a) h)
 case field off n x=>exact Zku (ZuB (E x) h)
 case indexA w x i=>exact Zku (ZsP (E x) (E i) h hg)
 case index x i=>exact Zku (Zum (E x) (E i) h hg)
 case len x=>exact Zku (Zxs (E x) h)
 case lenT x=>exact Zku (Zv8 (E x) h)
 case minI x y=>exact Zku (Zxz (E x) (E y) h)
 case maxI x y=>exact Zku (Zyw (E x) (E y) h)
theorem Zs9:∀ (l:List DV),DV.okL l=true→EL (news (ZxT l)) (ZoD (DV.encL l))
 |[],_=>trivial
 | v::r,h=>by
   simp only[DV.okL,Bool.and_eq_true] at h
   refine⟨?_,Zs9 r h.2⟩
   simp only[ZjU]
   by_cases ho:v.own=true
   · rw[if_pos ho,if_pos ho];exact .inl rfl
   · rw[if_neg ho,if_neg ho];exact .inr rfl
theorem EL.spliceE:∀ {a:List DC} {b:List PV} (n:Nat) {vs:List DV} {ps:List PV},EL a b→EL (Go.Ag.news vs) ps→EL (Zjf a n vs) (Zap b n ps)
 |[],[],_,[],[],_,_=>trivial
 |[],[],_,_::_,_::_,_,_=>trivial
 |_::_,_::_,0,[],[],h,_=>h
 |_::_,_::_,_+1,[],[],h,_=>h
 |_::_,_::_,0,_::_,_::_,h,hv=>⟨hv.1,EL.spliceE 0 h.2 hv.2⟩
 |_::_,_::_,n+1,_::_,_::_,h,hv=>⟨h.1,EL.spliceE n h.2 hv⟩
theorem EBx.to{a:List DC}{b:List PV}(h:EBx a b)(hn:0<a.length):EL a b:=by
 rcases h with rfl|h
 · exact absurd hn (Nat.lt_irrefl 0)
 · exact h
theorem EBx.segm{a:List DC}{b:List PV}{o n:Nat}(h:EBx a b)(hl:o+n≤a.length)(hk:DV.okL (Zes (Zkr a) o n)=true):o+n≤b.length∧Go.Ag.segm b o n=DV.encL (Zes (Zkr a) o n):=by
 rcases h with rfl|h
 · have h0:o=0∧n=0:=by simp only[List.length_nil] at hl;omega
   rw[h0.1,h0.2]
   exact⟨Nat.zero_le _,by cases b<;>rfl⟩
 · exact⟨by rw[← h.len];exact hl,h.segm o n hk⟩
theorem EBx.splice{a:List DC}{b:List PV}{o:Nat}{vs:List DV}{ps:List PV}(h:EBx a b)(hv:EL (news vs) ps)(hl:o+vs.length≤a.length):EBx (Zjf a o vs) (Zap b o ps):=by
 rcases h with rfl|h
 · have h0:vs=[]:=by
    cases vs with
    |nil=>rfl
    |cons _ _=>simp only[List.length_cons,List.length_nil] at hl;omega
   subst h0
   exact .inl rfl
 · exact .inr (h.spliceE o hv)
theorem Zmq:∀ (l:List DV) (o n:Nat),o+n≤l.length→(Zes l o n).length=n
 |[],0,0,_=>rfl
 |[],0,_+1,h=>by simp only[List.length_nil] at h;omega
 |[],_+1,_,h=>by simp only[List.length_nil] at h;omega
 |_::_,0,0,_=>rfl
 |_::r,0,n+1,h=>by simp only[Zes,List.length_cons] at h ⊢;rw[Zmq r 0 n (by omega)]
 |_::r,o+1,n,h=>by simp only[Zes,List.length_cons] at h ⊢;exact Zmq r o n (by omega)
theorem ZpW:∀ (l:List DV),(ZxT l).length=l.length
 |[]=>rfl
 |_::r=>by simp only[ZxT,List.length_cons,ZpW r]
theorem Zn2{m:Bool}{i:Nat}{n:Option Nat}{a:DV}{p:PV}{d d':DS}{s:PS}{g:PX}{v:DV}(hs:ES d s)(ha:EV a p)(h:Zp4 m i n a d=some (g,v,d')):∃ s',Zme m i n p s=some (v.enc,s')∧ES d' s':=by
 cases a<;>try (simp only[Zp4,reduceCtorEq] at h)
 case box j o=>
  rw[ha.of (by simp)]
  by_cases hc:(i == j&&Nat.ble (o+n.getD 1) (ZdU d.bx i).length&&DV.okL (Zes (Zkr (ZdU d.bx i)) o (n.getD 1)))=true
  · rw[if_pos hc] at h
    rw[Bool.and_eq_true,Bool.and_eq_true,beq_iff_eq] at hc
    obtain⟨⟨rfl,hl⟩,hk⟩:=hc
    have hl:=Nat.le_of_ble_eq_true hl
    obtain⟨h1,h2⟩:=(hs.bx.get i).segm hl hk
    simp only[DV.enc,Zme]
    rw[if_pos ⟨trivial,h1⟩,h2]
    cases m with
    | true=>
      simp only[if_true] at h ⊢
      cases hv:Zis n (Zes (Zkr (ZdU d.bx i)) o (n.getD 1)) with
      |none=>rw[hv] at h;cases h
      | some w=>
        rw[hv] at h
        simp only[Option.map_some,Option.some.injEq,Prod.mk.injEq] at h
        obtain⟨_,rfl,rfl⟩:=h
        rw[Zjs hv]
        refine⟨_,rfl,hs.sl.clr _,hs.bx.put i ((hs.bx.get i).splice (Zs9 _ hk) ?_),hs.hp⟩
        rw[ZpW,Zmq _ _ _ (by rw[Zo1];exact hl)]
        exact hl
    | false=>
      simp only[Bool.false_eq_true,if_false] at h ⊢
      cases hv:Zis n (Zrg (.b i) o (Zes (Zkr (ZdU d.bx i)) o (n.getD 1))) with
      |none=>rw[hv] at h;cases h
      | some w=>
        rw[hv] at h
        simp only[Option.map_some,Option.some.injEq,Prod.mk.injEq] at h
        obtain⟨_,rfl,rfl⟩:=h
        have:=Zjs hv
        rw[Zmw] at this
        rw[this]
        exact⟨_,rfl,hs⟩
  · rw[if_neg hc] at h;cases h
theorem ZDH{q q':Ql}(h:ZFK q=some q'):∀ (t:CT) (x:t.D),(CT.dv q' t x).enc=ZBZ q (CT.enc t x)
 |.int _,_|.bool,_|.str,_=>by cases q<;>rfl
 |.ifc,_=>by cases q<;>rfl
 |.sl r,l=>by cases q<;>simp only[ZFK,Option.some.injEq,reduceCtorEq] at h<;>subst h<;>rfl
theorem ZDv{q q':Ql}(h:ZFK q=some q'):∀ (r:RT) (x:r.D),DV.encL (r.dv q' x)=Zvz q (RT.enc r x)
 |.one t,x=>by simp only[RT.dv,DV.encL,RT.enc,Zvz,ZDH h t x]
 |.cons t r,x=>by simp only[RT.dv,DV.encL,RT.enc,Zvz,ZDH h t x.1,ZDv h r x.2]
theorem Zhr(r:RT):∀ (l:List r.D) (j:Nat),j<l.length→elt (l.map (RT.enc r)) j=RT.enc r (l.getD j r.dflt)
 |_::_,0,_=>rfl
 |_::l,j+1,h=>Zhr r l j (by simpa using h)
theorem Zpu(q:Ql):∀ (l:List PV) (o n:Nat),Zvz q (Go.Ag.segm l o n)=Go.Ag.segm (Zvz q l) o n
 |[],0,0=>rfl
 |[],0,_+1=>rfl
 |[],_+1,_=>rfl
 |_::_,0,0=>rfl
 |c::r,0,n+1=>by simp only[Go.Ag.segm,Zvz,Zpu q r 0 n]
 |_::r,o+1,n=>by simp only[Go.Ag.segm,Zvz];exact Zpu q r o n
theorem Zxv{q q':Ql}(h:ZFK q=some q'):q.isOwn=false:=by cases q<;>first|rfl|cases h
theorem ZnZ{m:Bool}{n:Option Nat}{a:DV}{p:PV}{d d':DS}{s:PS}{g:PX}{v:DV}(hs:ES d s)(ha:EV a p)(h:ZnL m n a d=some (g,v,d'))(hg:g.den):∃ s',ZkP m n p s=some (v.enc,s')∧ES d' s':=by
 cases a<;>try (simp only[ZnL,reduceCtorEq] at h)
 case ep q r l j o=>
  rw[ha.of (by simp)]
  cases hq:ZFK q with
  |none=>rw[hq] at h;cases h
  | some q'=>
    rw[hq] at h
    simp only at h
    by_cases hc:Nat.ble (o+n.getD 1) r.w=true
    · rw[if_pos hc] at h
      cases hv:Zis n (Zes (r.dv q' (lGet l j r.dflt)) o (n.getD 1)) with
      |none=>rw[hv] at h;cases h
      | some w=>
        rw[hv] at h
        simp only[Option.map_some,Option.some.injEq,Prod.mk.injEq] at h
        obtain⟨rfl,rfl,rfl⟩:=h
        have hj:j<l.length:=hg
        have:=Zjs hv
        rw[Zmp,ZDv hq,← Zpu,Zsj,← Zhr r l j hj] at this
        simp only[DV.enc,ZkP,List.length_map]
        rw[if_pos ⟨hj,by rw[Zhr r l j hj,Zn0];exact Nat.le_of_ble_eq_true hc,Zxv hq⟩,this]
        exact⟨_,rfl,hs⟩
    · rw[if_neg hc] at h;cases h
 case ptr i o=>
  rw[ha.of (by simp)]
  by_cases hc:(Nat.blt i d.hp.length&&Nat.ble (o+n.getD 1) (ZdU d.hp i).length&&DV.okL (Zes (Zkr (ZdU d.hp i)) o (n.getD 1)))=true
  · rw[if_pos hc] at h
    rw[Bool.and_eq_true,Bool.and_eq_true] at hc
    obtain⟨⟨hi,hl⟩,hk⟩:=hc
    have hi:=Nat.le_of_ble_eq_true hi
    have hl:=Nat.le_of_ble_eq_true hl
    obtain⟨h1,h2⟩:=(hs.hp.get i).segm hl hk
    simp only[DV.enc,ZkP]
    rw[if_pos ⟨by rw[← hs.hp.len];exact hi,h1⟩,h2]
    cases m with
    | true=>
      simp only[if_true] at h ⊢
      cases hv:Zis n (Zes (Zkr (ZdU d.hp i)) o (n.getD 1)) with
      |none=>rw[hv] at h;cases h
      | some w=>
        rw[hv] at h
        simp only[Option.map_some,Option.some.injEq,Prod.mk.injEq] at h
        obtain⟨_,rfl,rfl⟩:=h
        rw[Zjs hv]
        refine⟨_,rfl,hs.sl.clr _,hs.bx,hs.hp.put i ((hs.hp.get i).splice (Zs9 _ hk) ?_)⟩
        rw[ZpW,Zmq _ _ _ (by rw[Zo1];exact hl)]
        exact hl
    | false=>
      simp only[Bool.false_eq_true,if_false] at h ⊢
      cases hv:Zis n (Zrg (.h i) o (Zes (Zkr (ZdU d.hp i)) o (n.getD 1))) with
      |none=>rw[hv] at h;cases h
      | some w=>
        rw[hv] at h
        simp only[Option.map_some,Option.some.injEq,Prod.mk.injEq] at h
        obtain⟨_,rfl,rfl⟩:=h
        have:=Zjs hv
        rw[Zmw] at this
        rw[this]
        exact⟨_,rfl,hs⟩
  · rw[if_neg hc] at h;cases h
theorem EL.clrD(hd:Hd):∀ {a:List DC} {b:List PV},EL a b→EL (Zq1 hd a) b
 |[],[],_=>trivial
 | c::_,p::_,h=>by
   refine⟨?_,EL.clrD hd h.2⟩
   by_cases hb:c.v.bor hd=true
   · rw[if_pos hb];exact .inl rfl
   · rw[if_neg hb];exact h.1
theorem EL.clr2{hd:Hd}{a:List DC}{b:List PV}{x:Bool}{y:Bool}(h:EL a b)(hxy:x=false→y=false):EL (if x then Zq1 hd a else a) (if y then Go.Ag.clr hd b else b):=by
 cases x with
 |false=>rw[hxy rfl];exact h
 | true=>cases y with
   |false=>exact h.clrD hd
   |true=>exact h.clr hd
theorem Ztl{i n:Nat}{a x:Opnd}{d d':DS}{s:PS}{g:PX}{v:DV}(hs:ES d s)(h:Zp0 i n a x d=some (g,v,d')):∃ s',ZmF i n a x s=some (v.enc,s')∧ES d' s':=by
 unfold Zp0 at h
 have ha:=a.dev_ev hs
 generalize hm:Za8 x d=w at h
 obtain⟨w,d1⟩:=w
 simp only at h
 generalize a.dev d.sl=av at h ha
 cases av<;>try (simp only[reduceCtorEq] at h)
 case box j o=>
  by_cases hc:(i == j&&Nat.blt i d1.bx.length&&w.cells.length == n&&Nat.ble (o+n) (ZdU d1.bx i).length&&Zfd w.cells)=true
  · rw[if_pos hc] at h
    simp only[Bool.and_eq_true,beq_iff_eq] at hc
    obtain⟨⟨⟨⟨rfl,hi⟩,rfl⟩,hl⟩,hcl⟩:=hc
    have hi:=Nat.le_of_ble_eq_true hi
    have hl:=Nat.le_of_ble_eq_true hl
    have hok:=ZmR w hcl
    obtain⟨m1,m2⟩:=Zbv x hs (by rw[hm];exact hok)
    rw[hm] at m1 m2
    simp only[Option.some.injEq,Prod.mk.injEq] at h
    obtain⟨rfl,rfl,rfl⟩:=h
    have hbx:=m2.bx.get i
    have hel:o+w.cells.length≤(Zaq (mvOut x s).2.bx i).length:=by
     rcases hbx with he|he
     · rw[he] at hl;simp only[List.length_nil] at hl;omega
     · rw[← he.len];exact hl
    simp only[ZmF,ha.of (by simp:DV.box i o≠.any),DV.enc,m1,ZfT,Zez,ZjU]
    rw[if_pos ⟨trivial,by rw[← m2.bx.len];exact hi,trivial,hel,ZiE _ hcl⟩]
    refine⟨_,rfl,m2.sl.clr2 fun hx=>?_,m2.bx.put i (hbx.splice (EL.news w.cells) hl),m2.hp⟩
    simp only[Bool.or_eq_false_iff,Bool.not_eq_false'] at hx ⊢
    rw[(hbx.segm hl hx.1.1).2,Zk9]
    exact⟨hx.1.2,hx.2⟩
  · rw[if_neg hc] at h;cases h
theorem ZoS{r' r:RT}{l:List r'.D}{m:List r.D}(h:ZvT l=some m):r'=r∧l.map (RT.enc r')=m.map (RT.enc r):=by
 unfold ZvT at h
 split at h
 · rename_i hb
   have hr:=RT.beq_eq hb
   subst hr
   simp only[Option.some.injEq] at h
   subst h
   exact⟨rfl,rfl⟩
 · cases h
theorem ZFT:∀ {t:CT} {v:DV} {x:t.D},t.of v=some x→v.enc=CT.enc t x
 | .int k,.int k' n,x,h=>by
   have h':(if k=k' then some n else none)=some x:=h
   by_cases hk:k=k'
   · subst hk
     rw[if_pos rfl] at h'
     have:n=x:=Option.some.inj h'
     rw[← this];rfl
   · rw[if_neg hk] at h';cases h'
 | .bool,.bool b,x,h=>by
   have:b.b=x:=Option.some.inj h
   rw[← this];rfl
 | .str,.str s,x,h=>by
   have:s=x:=Option.some.inj h
   rw[← this];rfl
 | .ifc,.ifc b,x,h=>by
   have:b=x:=Option.some.inj h
   rw[← this];rfl
 | .sl r,.nil .own,x,h=>by
   have:([]:List r.D)=x:=Option.some.inj h
   rw[← this];rfl
 | .sl r,.sl .own r' l,x,h=>by
   show PV.sl .own _=PV.sl .own _
   rw[(ZoS (r:=r) h).2]
theorem Zx0:∀ {r:RT} {vs:List DV} {x:r.D},r.of vs=some x→DV.encL vs=RT.enc r x
 |.one t,[v],x,h=>by simp only[DV.encL,RT.enc,ZFT (t:=t) h]
 | .cons t r,v::vs,x,h=>by
   have h':(match t.of v,r.of vs with|some x,some y=>some (x,y)|_,_=>none)=some x:=h
   clear h
   cases h1:t.of v with
   |none=>rw[h1] at h';cases h'
   | some a=>
     cases h2:r.of vs with
     |none=>rw[h1,h2] at h';cases h'
     | some b=>
       rw[h1,h2] at h'
       have:(a,b)=x:=Option.some.inj h'
       rw[← this]
       simp only[DV.encL,RT.enc,ZFT h1,Zx0 h2]
theorem ZDo:∀ (t:CT) (x:t.D),(CT.dv .own t x).enc=CT.enc t x
 |.int _,_|.bool,_|.str,_|.ifc,_|.sl _,_=>rfl
theorem Zw6:∀ (r:RT) (x:r.D),DV.encL (r.dv .own x)=RT.enc r x
 |.one t,x=>by simp only[RT.dv,DV.encL,RT.enc,ZDo t x]
 |.cons t r,x=>by simp only[RT.dv,DV.encL,RT.enc,ZDo t x.1,Zw6 r x.2]
theorem Zms(r:RT):∀ (l:List r.D) (j:Nat) (y:r.D),ZhF (l.map (RT.enc r)) j (RT.enc r y)=(l.set j y).map (RT.enc r)
 |[],_,_=>rfl
 |_::_,0,_=>rfl
 |_::l,j+1,y=>by simp only[List.map_cons,ZhF,List.set_cons_succ,Zms r l j y]
theorem ZAo(v:DV)(p:List Nat)(h:v.fcell p≠.any):v.enc.fcell p=(v.fcell p).enc:=by
 cases v with
 | agg cs=>
   match p with
   |[]=>exact absurd rfl h
   |[c]=>exact(Zlc cs c).symm
   |_::_::_=>exact absurd rfl h
 | tup vs=>
   match p with
   |[]=>exact absurd rfl h
   |[_]=>exact absurd rfl h
   | [i,c]=>
     show Zag (Zag (DV.encL vs) i).cells c=(ZxJ (ZxJ vs i).cells c).enc
     rw[← Zlc,ZfT,← Zlc]
   |_::_::_::_=>exact absurd rfl h
 |any=>match p with|[]=>exact absurd rfl h|[0]=>exact absurd rfl h|[_+1]=>exact absurd rfl h|0::_::_=>exact absurd rfl h|(_+1)::_::_=>exact absurd rfl h
 |undef=>match p with|[]=>exact absurd rfl h|[0]=>rfl|[_+1]=>exact absurd rfl h|0::_::_=>exact absurd rfl h|(_+1)::_::_=>exact absurd rfl h
 |bool _=>match p with|[]=>exact absurd rfl h|[0]=>rfl|[_+1]=>exact absurd rfl h|0::_::_=>exact absurd rfl h|(_+1)::_::_=>exact absurd rfl h
 |int _ _=>match p with|[]=>exact absurd rfl h|[0]=>rfl|[_+1]=>exact absurd rfl h|0::_::_=>exact absurd rfl h|(_+1)::_::_=>exact absurd rfl h
 |str _=>match p with|[]=>exact absurd rfl h|[0]=>rfl|[_+1]=>exact absurd rfl h|0::_::_=>exact absurd rfl h|(_+1)::_::_=>exact absurd rfl h
 |ifc _=>match p with|[]=>exact absurd rfl h|[0]=>rfl|[_+1]=>exact absurd rfl h|0::_::_=>exact absurd rfl h|(_+1)::_::_=>exact absurd rfl h
 |nil _=>match p with|[]=>exact absurd rfl h|[0]=>rfl|[_+1]=>exact absurd rfl h|0::_::_=>exact absurd rfl h|(_+1)::_::_=>exact absurd rfl h
 |sl _ _ _=>match p with|[]=>exact absurd rfl h|[0]=>rfl|[_+1]=>exact absurd rfl h|0::_::_=>exact absurd rfl h|(_+1)::_::_=>exact absurd rfl h
 |ep _ _ _ _ _=>match p with|[]=>exact absurd rfl h|[0]=>rfl|[_+1]=>exact absurd rfl h|0::_::_=>exact absurd rfl h|(_+1)::_::_=>exact absurd rfl h
 |box _ _=>match p with|[]=>exact absurd rfl h|[0]=>rfl|[_+1]=>exact absurd rfl h|0::_::_=>exact absurd rfl h|(_+1)::_::_=>exact absurd rfl h
 |ptr _ _=>match p with|[]=>exact absurd rfl h|[0]=>rfl|[_+1]=>exact absurd rfl h|0::_::_=>exact absurd rfl h|(_+1)::_::_=>exact absurd rfl h
theorem Zg1{d:DS}{s:PS}(hs:ES d s)(hd:Hd)(p:List Nat)(h:Zfg d hd p≠.any):Zo8 s hd p=(Zfg d hd p).enc:=by
 cases hd with
 | s t=>
   rcases hs.sl.get t with hg|hg
   · simp only[Zfg,hg] at h
     refine absurd ?_ h
     match p with
     |[]=>rfl
     |[0]=>rfl
     |[_+1]=>rfl
     |0::_::_=>rfl
     |(_+1)::_::_=>rfl
   · simp only[Zfg,Zo8,hg] at h ⊢
     exact ZAo _ p h
 | b i=>
   match p with
   |[]=>exact absurd rfl h
   |_::_::_=>exact absurd rfl h
   | [c]=>
     rcases hs.bx.get i with hb|hb
     · simp only[Zfg,hb,Zip] at h;exact absurd rfl h
     · exact(hb.get c).of h
 | h i=>
   match p with
   |[]=>exact absurd rfl h
   |_::_::_=>exact absurd rfl h
   | [c]=>
     rcases hs.hp.get i with hb|hb
     · simp only[Zfg,hb,Zip] at h;exact absurd rfl h
     · exact(hb.get c).of h
 |x i=>exact absurd rfl h
theorem ZBT(v:DV)(p:List Nat)(w:DV):v.enc.setc p w.enc=(v.setc p w).enc:=by
 cases v with
 | agg cs=>
   match p with
   |[]=>rfl
   |[c]=>exact congrArg PV.agg (ZoU cs c w).symm
   |_::_::_=>rfl
 | tup vs=>
   match p with
   |[]=>rfl
   |[0]=>rfl
   |[_+1]=>rfl
   |0::_::_=>rfl
   |(_+1)::_::_=>rfl
 |any=>match p with|[]=>rfl|[0]=>rfl|[_+1]=>rfl|0::_::_=>rfl|(_+1)::_::_=>rfl
 |undef=>match p with|[]=>rfl|[0]=>rfl|[_+1]=>rfl|0::_::_=>rfl|(_+1)::_::_=>rfl
 |bool _=>match p with|[]=>rfl|[0]=>rfl|[_+1]=>rfl|0::_::_=>rfl|(_+1)::_::_=>rfl
 |int _ _=>match p with|[]=>rfl|[0]=>rfl|[_+1]=>rfl|0::_::_=>rfl|(_+1)::_::_=>rfl
 |str _=>match p with|[]=>rfl|[0]=>rfl|[_+1]=>rfl|0::_::_=>rfl|(_+1)::_::_=>rfl
 |ifc _=>match p with|[]=>rfl|[0]=>rfl|[_+1]=>rfl|0::_::_=>rfl|(_+1)::_::_=>rfl
 |nil _=>match p with|[]=>rfl|[0]=>rfl|[_+1]=>rfl|0::_::_=>rfl|(_+1)::_::_=>rfl
 |sl _ _ _=>match p with|[]=>rfl|[0]=>rfl|[_+1]=>rfl|0::_::_=>rfl|(_+1)::_::_=>rfl
 |ep _ _ _ _ _=>match p with|[]=>rfl|[0]=>rfl|[_+1]=>rfl|0::_::_=>rfl|(_+1)::_::_=>rfl
 |box _ _=>match p with|[]=>rfl|[0]=>rfl|[_+1]=>rfl|0::_::_=>rfl|(_+1)::_::_=>rfl
 |ptr _ _=>match p with|[]=>rfl|[0]=>rfl|[_+1]=>rfl|0::_::_=>rfl|(_+1)::_::_=>rfl
theorem EBx.put{a:List DC}{b:List PV}{v:DV}{p:PV}(n:Nat)(h:EBx a b)(hv:EV v p):EBx (ZqZ a n v) (ZjK b n p):=by
 rcases h with rfl|h
 · exact .inl rfl
 · exact .inr (h.put n hv)
theorem ZgE{d:DS}{s:PS}(hs:ES d s)(hd:Hd)(p:List Nat)(w:DV)(h:Zfg d hd p≠.any):ES (Znv d w hd p) (setK s w.enc hd p):=by
 cases hd with
 | s t=>
   refine⟨(hs.sl.put t (.inr ?_)).clr _,hs.bx,hs.hp⟩
   rcases hs.sl.get t with hg|hg
   · simp only[Zfg,hg] at h
     refine absurd ?_ h
     match p with
     |[]=>rfl
     |[0]=>rfl
     |[_+1]=>rfl
     |0::_::_=>rfl
     |(_+1)::_::_=>rfl
   · rw[hg];exact ZBT _ p w
 | b i=>
   match p with
   |[]=>exact absurd rfl h
   |_::_::_=>exact absurd rfl h
   |[c]=>exact⟨hs.sl.clr _,hs.bx.put i ((hs.bx.get i).put c (.inr rfl)),hs.hp⟩
 | h i=>
   match p with
   |[]=>exact absurd rfl h
   |_::_::_=>exact absurd rfl h
   |[c]=>exact⟨hs.sl.clr _,hs.bx,hs.hp.put i ((hs.hp.get i).put c (.inr rfl))⟩
 |x i=>exact absurd rfl h
theorem Zto{n:Nat}{a x:Opnd}{d d':DS}{s:PS}{g:PX}{v:DV}(hs:ES d s)(h:Zpo n a x d=some (g,v,d'))(hg:g.den):∃ s',Zmo n a x s=some (v.enc,s')∧ES d' s':=by
 unfold Zpo at h
 generalize hm:Za8 x d=w at h
 obtain⟨w,d1⟩:=w
 simp only at h
 have hw:Zfd w.cells=true→ES d1 (mvOut x s).2∧(mvOut x s).1=w.enc:=fun hcl=>by
  obtain⟨m1,m2⟩:=Zbv x hs (by rw[hm];exact ZmR w hcl)
  rw[hm] at m1 m2
  exact⟨m2,m1⟩
 split at h
 · rename_i i o ha
   by_cases hc:(Nat.blt i d1.hp.length&&w.cells.length == n&&Nat.ble (o+n) (ZdU d1.hp i).length&&Zfd w.cells)=true
   · rw[if_pos hc] at h
     simp only[Bool.and_eq_true,beq_iff_eq] at hc
     obtain⟨⟨⟨hi,rfl⟩,hl⟩,hcl⟩:=hc
     have hi:=Nat.le_of_ble_eq_true hi
     have hl:=Nat.le_of_ble_eq_true hl
     obtain⟨m2,m1⟩:=hw hcl
     have ha':=a.dev_ev m2
     rw[ha] at ha'
     simp only[Option.some.injEq,Prod.mk.injEq] at h
     obtain⟨rfl,rfl,rfl⟩:=h
     have hbx:=m2.hp.get i
     have hel:o+w.cells.length≤(Zaq (mvOut x s).2.hp i).length:=by
      rcases hbx with he|he
      · rw[he] at hl;simp only[List.length_nil] at hl;omega
      · rw[← he.len];exact hl
     simp only[Zmo,ha'.of (by simp:DV.ptr i o≠.any),DV.enc,m1,ZfT,Zez,ZjU]
     rw[if_pos ⟨by rw[← m2.hp.len];exact hi,trivial,hel,ZiE _ hcl⟩]
     refine⟨_,rfl,m2.sl.clr2 fun hx=>?_,m2.bx,m2.hp.put i (hbx.splice (EL.news w.cells) hl)⟩
     simp only[Bool.or_eq_false_iff,Bool.not_eq_false'] at hx ⊢
     rw[(hbx.segm hl hx.1.1).2,Zk9]
     exact⟨hx.1.2,hx.2⟩
   · rw[if_neg hc] at h;cases h
 · rename_i hd p r0 l0 j o ha
   cases hk:Zfg d1 hd [p]<;>rw[hk] at h<;>try (cases h;done)
   rename_i q r l
   cases q<;>try (cases h;done)
   simp only at h
   by_cases hc:(w.cells.length == n&&Nat.ble (o+n) r.w&&Zfd w.cells)=true
   · rw[if_pos hc] at h
     simp only[Bool.and_eq_true,beq_iff_eq] at hc
     obtain⟨⟨rfl,hl⟩,hcl⟩:=hc
     have hl:=Nat.le_of_ble_eq_true hl
     cases hof:r.of (Zjo (r.dv .own (lGet l j r.dflt)) o w.cells) with
     |none=>rw[hof] at h;cases h
     | some y=>
       rw[hof] at h
       simp only[Option.some.injEq,Prod.mk.injEq] at h
       obtain⟨rfl,rfl,rfl⟩:=h
       obtain⟨m2,m1⟩:=hw hcl
       have ha':=a.dev_ev m2
       rw[ha] at ha'
       have hne:Zfg d1 hd [p]≠.any:=by rw[hk];simp
       have hj:j<l.length:=hg
       have e1:=Zg1 m2 hd [p] hne
       rw[hk] at e1
       have e2:=Zx0 hof
       rw[ZiG,Zw6,Zsj,← Zhr r l j hj] at e2
       have e3:=ZgE m2 hd [p] (.sl .own r (lSet l j y)) hne
       simp only[Zmo,ha'.of (by simp:DV.ep (.bor hd [p] true) r0 l0 j o≠.any),DV.enc,m1,ZfT,Zez,e1,List.length_map]
       rw[if_pos ⟨hj,trivial,by rw[Zhr r l j hj,Zn0];exact hl,ZiE _ hcl⟩,e2,Zms]
       simp only[DV.enc,ZtM] at e3
       exact⟨_,rfl,by rw[ZtM];exact e3⟩
   · rw[if_neg hc] at h;cases h
 · cases h
theorem Zvc{m:Bool}{n:Option Nat}{a:DV}{p:PV}{d d':DS}{s:PS}{r:DOS}{g:PX}{v:DV}(hs:ES d s)(ha:EV a p)(h:Zn3 m n a d=some r)(hr:r=some (g,v,d'))(hg:g.den):ZuG m n p s=some (some v.enc)∧d'=d:=by
 unfold Zn3 at h
 split at h
 · rename_i hd c r1 l j
   simp only[Option.some.injEq] at h
   rw[hr] at h
   split at h
   · rename_i r2 l2 hk
     simp only[Option.some.injEq,Prod.mk.injEq] at h
     obtain⟨rfl,rfl,rfl⟩:=h
     obtain⟨g1,g2⟩:=hg
     have hne:Zfg d hd [c]≠.any:=by rw[hk];simp
     have e1:=Zg1 hs hd [c] hne
     rw[hk] at e1
     have e2:elt (List.map (RT.enc (.one (.sl r1))) l) j=[PV.sl .own (List.map (RT.enc r1) (List.getD (α:=List r1.D) l j []))]:=Zhr (.one (.sl r1)) l j g1
     have e3:elt (List.map (RT.enc (.one (.sl r2))) l2) j=[PV.sl .own (List.map (RT.enc r2) (List.getD (α:=List r2.D) l2 j []))]:=Zhr (.one (.sl r2)) l2 j g2
     refine⟨?_,rfl⟩
     rw[ha.of (by simp)]
     simp only[DV.enc,ZuG,e1,List.length_map]
     rw[e2,if_pos g2,e3]
     rw[show lGet (α:=List r2.D) l2 j []=List.getD (α:=List r2.D) l2 j [] from Zsj l2 j []]
   · cases h
 · cases h
theorem Zyj{m:Bool}{n:Option Nat}{a:DV}{p:PV}{d:DS}{s:PS}(ha:EV a p)(hne:a≠.any)(h:Zn3 m n a d=none):ZuG m n p s=none:=by
 unfold ZuG
 split
 · rename_i hd c es j
   have hp:=ha.of hne
   cases a<;>simp only[DV.enc,PV.ep.injEq,reduceCtorEq] at hp
   rename_i q r l j' o
   obtain⟨rfl,rfl,rfl,rfl⟩:=hp
   split
   · rename_i x he
     rcases Nat.lt_or_ge j l.length with hj|hj
     · rw[Zhr r l j hj] at he
       cases r with
       | one t=>
         cases t with
         |sl r1=>simp[Zn3] at h
         |_=>simp only[RT.enc,CT.enc,List.cons.injEq,reduceCtorEq,false_and] at he
       |cons t r=>cases r<;>simp[RT.enc] at he
     · have hz:elt (l.map (RT.enc r)) j=[]:=by rw[Zpi,List.getElem?_eq_none (by simpa using hj)];rfl
       rw[hz] at he;cases he
   · rfl
 · rfl
theorem ZCd{a:DV}{p:PV}(ha:EV a p)(hne:a≠.any):p.nest=a.nest:=by
 rw[ha.of hne]
 cases a<;>try rfl
 rename_i q r l j o
 cases q<;>try rfl
 rename_i hd pt tp
 match pt,tp with
 |[],_=>cases tp<;>rfl
 |[_],_=>cases tp<;>rfl
 |[_,_],true=>rfl
 |[_,_],false=>rfl
 |_::_::_::_,_=>cases tp<;>rfl
theorem ZrZ:∀ {vs:List DV},ZqO vs=true→ZiV (DV.encL vs)=true
 |[],_=>rfl
 | v::r,h=>by
   simp only[ZqO,Bool.and_eq_true] at h
   simp only[DV.encL,ZiV,Bool.and_eq_true]
   refine⟨?_,ZrZ h.2⟩
   cases v<;>first|rfl|cases h.1
theorem Zzg{v:DV}(h:ZqO v.cells=true):v≠.any:=by
 rintro rfl;simp[DV.cells,ZqO,DV.nflat] at h
theorem ZtG{n:Nat}{hd:Hd}{p k j o:Nat}{w:DV}{pw:PV}{d d':DS}{s:PS}{g:PX}{v:DV}(hs:ES d s)(hw:EV w pw)(h:ZqM n hd p k j o w d=some (g,v,d'))(hg:g.den):∃ s',ZmK n hd p k j o pw s=some (v.enc,s')∧ES d' s':=by
 unfold ZqM at h
 split at h
 · rename_i r l hk
   by_cases hc:(w.cells.length == n&&Nat.ble (o+n) r.w&&ZqO w.cells)=true
   · rw[if_pos hc] at h
     simp only[Bool.and_eq_true,beq_iff_eq] at hc
     obtain⟨⟨rfl,hl⟩,hf⟩:=hc
     have hl:=Nat.le_of_ble_eq_true hl
     cases hof:r.of (Zjo (r.dv .own (lGet (lGet (α:=List r.D) l k []) j r.dflt)) o w.cells) with
     |none=>rw[hof] at h;cases h
     | some y=>
       rw[hof] at h
       simp only[Option.some.injEq,Prod.mk.injEq] at h
       obtain⟨rfl,rfl,rfl⟩:=h
       obtain⟨g1,g2⟩:=hg
       have hne:Zfg d hd [p]≠.any:=by rw[hk];simp
       have e1:=Zg1 hs hd [p] hne
       rw[hk] at e1
       have hL:lGet (α:=List r.D) l k []=List.getD (α:=List r.D) l k []:=Zsj (α:=List r.D) l k []
       rw[hL] at g2 hof
       have g2':j<List.length (α:=r.D) (List.getD (α:=List r.D) l k []):=g2
       have e4:=Zhr r (List.getD (α:=List r.D) l k []) j g2'
       have e5:=Zx0 hof
       rw[ZiG,Zw6,Zsj] at e5
       have e6:ZhF (List.map (RT.enc r) (List.getD (α:=List r.D) l k [])) j (RT.enc r y)=List.map (RT.enc r) (List.set (α:=r.D) (List.getD (α:=List r.D) l k []) j y):=Zms r _ j y
       have e7:ZhF (List.map (RT.enc (.one (.sl r))) l) k [PV.sl .own (List.map (RT.enc r) (List.set (α:=r.D) (List.getD (α:=List r.D) l k []) j y))]=List.map (RT.enc (.one (.sl r))) (List.set (α:=List r.D) l k (List.set (α:=r.D) (List.getD (α:=List r.D) l k []) j y)):=Zms (.one (.sl r)) l k (List.set (α:=r.D) (List.getD (α:=List r.D) l k []) j y)
       have e3:=ZgE hs hd [p] (.sl .own (.one (.sl r)) (lSet (α:=List r.D) l k (lSet (lGet (α:=List r.D) l k []) j y))) hne
       have hS:lSet (α:=List r.D) l k (lSet (lGet (α:=List r.D) l k []) j y)=List.set (α:=List r.D) l k (List.set (α:=r.D) (List.getD (α:=List r.D) l k []) j y):=by
        rw[hL]
        exact(ZtM (α:=List r.D) l k _).trans (congrArg (fun z=>List.set (α:=List r.D) l k z) (ZtM (α:=r.D) _ j y))
       rw[hw.of (Zzg hf)]
       have e1':Zo8 s hd [p]= .sl .own (List.map (RT.enc (.one (.sl r))) l):=e1
       have e2':elt (List.map (RT.enc (.one (.sl r))) l) k=[.sl .own (List.map (RT.enc r) (List.getD (α:=List r.D) l k []))]:=Zhr (.one (.sl r)) l k g1
       have e5':Zap (RT.enc r (List.getD (α:=r.D) (List.getD (α:=List r.D) l k []) j r.dflt)) o (DV.encL w.cells)=RT.enc r y:=e5
       unfold ZmK
       rw[e1']
       simp only[List.length_map]
       rw[if_pos g1,e2']
       simp only[List.length_map,ZfT,Zez]
       rw[if_pos ⟨g2',trivial,by rw[e4,Zn0];exact hl,ZrZ hf⟩,e4,e5',e6,e7]
       refine⟨_,rfl,?_⟩
       rw[hS] at e3 ⊢
       exact e3
   · rw[if_neg hc] at h;cases h
 · cases h
theorem ZCv(hd:Hd)(v:DV)(h:v≠.any):(ZFB hd v).enc=Zze hd v.enc:=by
 cases v<;>first|rfl|exact absurd rfl h|skip
 case nil q=>cases q<;>rfl
 case sl q r l=>cases q<;>rfl
 case agg cs=>show PV.agg _=PV.agg _;rw[Zmw]
 case tup vs=>
  simp only[ZFB,DV.enc,Zze,Zk9]
  split<;>rfl
theorem Zu9{d:DS}{s:PS}(x:Opnd)(h:ES d s)(hk:(ZmS x d).1.ok=true):(Zue x s).1=(ZmS x d).1.enc∧ES (ZmS x d).2 (Zue x s).2:=by
 cases x with
 | c v=>
   refine⟨?_,h⟩
   refine(ZoR v fun he=>?_).symm
   simp only[ZmS,he,DV.ok,Bool.false_eq_true] at hk
 | t n=>
   simp only[ZmS] at hk
   have hn:Zip d.sl n≠.any:=by intro e;rw[e] at hk;cases hk
   simp only[ZmS,Zue]
   rw[(h.sl.get n).of hn,ZCv _ _ hn]
   exact⟨rfl,h⟩
theorem Zdx:∀ (l:List V),Zhp l=true→l.all V.flat=true∧DV.encL (Zys l)=l.map ofV∧Zfd (Zys l)=true
 |[],_=>⟨rfl,rfl,rfl⟩
 | v::r,h=>by
   simp only[Zhp,Bool.and_eq_true] at h
   obtain⟨h1,h2,h3⟩:=Zdx r h.2
   have hv:(ZBO v).cell=true∧(ZBO v).enc=ofV v:=by cases v<;>first|exact⟨rfl,rfl⟩|(have:=h.1;cases this)
   refine⟨by simp only[List.all_cons,h.1,h1,Bool.and_self],?_,?_⟩
   · simp only[Zys,DV.encL,List.map_cons,h2,hv.2]
   · simp only[Zys,Zfd,hv.1,h3,Bool.and_self]
theorem Zmc:∀ (ps:List (Nat×Nat×Opnd)) {cs cs':List DV} {d d':DS} {s:PS},ES d s→ZrL cs ps d=some (cs',d')→∃ s',Zkt (DV.encL cs) ps s=some (DV.encL cs',s')∧ES d' s'
 | [],cs,cs',d,d',s,hs,h=>by
   simp only[ZrL,Option.some.injEq,Prod.mk.injEq] at h
   obtain⟨rfl,rfl⟩:=h
   exact⟨s,rfl,hs⟩
 | (off,size,x)::r,cs,cs',d,d',s,hs,h=>by
   unfold ZrL at h
   by_cases hc:((Za8 x d).1.cells.length == size&&Nat.ble (off+size) cs.length&&Zfd (Za8 x d).1.cells)=true
   · rw[if_pos hc] at h
     simp only[Bool.and_eq_true,beq_iff_eq] at hc
     obtain⟨⟨h1,h2⟩,h3⟩:=hc
     obtain⟨m1,m2⟩:=Zbv x hs (ZmR _ h3)
     obtain⟨s',e1,e2⟩:=Zmc r m2 h
     refine⟨s',?_,e2⟩
     unfold Zkt
     rw[m1,ZfT,Zez,Zez,if_pos ⟨h1,Nat.le_of_ble_eq_true h2,ZiE _ h3⟩,← ZiG]
     exact e1
   · rw[if_neg hc] at h;cases h
theorem Zuv:∀ (n:Nat) (l:List DV),DV.encL (l.take n)=(DV.encL l).take n
 |0,_=>rfl
 |_+1,[]=>rfl
 |n+1,_::r=>by simp only[List.take_succ_cons,DV.encL,Zuv n r]
theorem Zuo:∀ (n:Nat) (l:List DV),DV.encL (l.drop n)=(DV.encL l).drop n
 |0,_=>rfl
 |_+1,[]=>rfl
 |n+1,_::r=>by simp only[List.drop_succ_cons,DV.encL,Zuo n r]
theorem Zm1(r:RT)(w:Nat):∀ (n:Nat) (cs:List DV) (l:List r.D),Zm8 r w n cs=some l→ZgC w n (DV.encL cs)=l.map (RT.enc r)
 | 0,cs,l,h=>by
   simp only[Zm8,Option.some.injEq] at h;subst h;rfl
 | n + 1,cs,l,h=>by
   unfold Zm8 at h
   cases h1:r.of (cs.take w) with
   |none=>rw[h1] at h;cases h
   | some x=>
     cases h2:Zm8 r w n (cs.drop w) with
     |none=>rw[h1,h2] at h;cases h
     | some y=>
       rw[h1,h2] at h
       have:=Option.some.inj h
       subst this
       simp only[ZgC,List.map_cons,← Zuv,← Zuo,Zx0 h1,Zm1 r w n _ y h2]
def DSrc.es:DSrc→List (List PV)
 |.nil=>[]
 |.sl r l=>l.map (RT.enc r)
theorem ZAX{r:RT}{x:DSrc}{l:List r.D}(h:x.to r=some l):x.es=l.map (RT.enc r):=by
 cases x with
 |nil=>have:=Option.some.inj h;subst this;rfl
 |sl r' l'=>exact(ZoS h).2
theorem ZBs:∀ (t:CT) (x:t.D),t.flat=true→(CT.enc t x).flatc=true
 |.int _,_,_|.bool,_,_|.str,_,_|.ifc,_,_=>rfl
theorem ZBq:∀ (r:RT) (x:r.D),r.flat=true→ZiV (RT.enc r x)=true
 |.one t,x,h=>by simp only[RT.enc,ZiV,ZBs t x h,Bool.and_self]
 | .cons t r,x,h=>by
   simp only[RT.flat,Bool.and_eq_true] at h
   simp only[RT.enc,ZiV,ZBs t x.1 h.1,ZBq r x.2 h.2,Bool.and_self]
theorem Zxc(r:RT)(h:r.flat=true):∀ (l:List r.D),Zrt (l.map (RT.enc r))=true
 |[]=>rfl
 |x::l=>by simp only[List.map_cons,Zrt,ZBq r x h,Zxc r h l,Bool.and_self]
theorem ZD8{w:Nat}{x:DSrc}(h:x.w w=true):Zm2 w x.es=true:=by
 cases x with
 |nil=>rfl
 | sl r l=>
   have:r.w=w:=by simpa [DSrc.w] using h
   subst this;exact Zd1 r l
theorem mv_ok{d:DS}{x:Opnd}(v:DV)(hx:x.dev d.sl=v)(ho:v.own=true)(hb:∀ hd,v.bor hd=false)(hk:v.ok=true):(Za8 x d).1=v:=by
 cases x with
 |c c=>exact hx
 | t n=>
   have hx':Zip d.sl n=v:=hx
   simp only[Za8,ZFW,hx',ho,hb,if_true,Bool.false_eq_true,if_false]
theorem ZnB{w:Nat}{y:Opnd}{d d':DS}{s:PS}{new:DSrc}(hs:ES d s)(h:ZBM w y d=some (new,d')):∃ s',ZlC w y s=some (new.es,s')∧ES d' s':=by
 have hy:=y.dev_ev hs
 unfold ZBM at h
 unfold ZlC
 cases hv:y.dev d.sl with
 | str t=>
   rw[hv] at h hy
   simp only at h
   by_cases hw:(w == 1)=true
   · rw[if_pos hw] at h
     simp only[Option.some.injEq,Prod.mk.injEq] at h
     obtain⟨rfl,rfl⟩:=h
     rw[hy.of (by simp)]
     simp only[DV.enc]
     rw[if_pos (by simpa using hw)]
     refine⟨s,?_,hs⟩
     have:(DSrc.sl (.one (.int .u8)) (sRow t)).es=t.map fun b=>[PV.fl (.int .u8 b.toNat)]:=by
      unfold DSrc.es;rw[ZFZ]
      clear hy hv
      induction t with
      |nil=>rfl
      |cons b t ih=>exact congrArg (List.cons _) ih
     rw[this]
   · rw[if_neg hw] at h;cases h
 | nil q=>
   rw[hv] at h hy
   have hp:=hy.of (by simp)
   cases q with
   | own=>
     simp only[Option.some.injEq,Prod.mk.injEq] at h
     obtain⟨rfl,rfl⟩:=h
     have hk:=mv_ok (.nil .own) hv rfl (fun _=>rfl) rfl
     obtain⟨m1,m2⟩:=Zbv y hs (by rw[hk];rfl)
     rw[hp]
     exact⟨_,rfl,m2⟩
   | frz=>
     simp only[Option.some.injEq,Prod.mk.injEq] at h
     obtain⟨rfl,rfl⟩:=h
     rw[hp];exact⟨s,rfl,hs⟩
   | ownw w'=>
     simp only[Option.some.injEq,Prod.mk.injEq] at h
     obtain⟨rfl,rfl⟩:=h
     rw[hp];exact⟨s,rfl,hs⟩
   | bor a b c=>
     simp only[Option.some.injEq,Prod.mk.injEq] at h
     obtain⟨rfl,rfl⟩:=h
     rw[hp];exact⟨s,rfl,hs⟩
   | pre a b=>
     simp only[Option.some.injEq,Prod.mk.injEq] at h
     obtain⟨rfl,rfl⟩:=h
     rw[hp];exact⟨s,rfl,hs⟩
 | sl q r l=>
   rw[hv] at h hy
   have hp:=hy.of (by simp)
   have key:(if (r.w == w&&r.flat)=true then some (DSrc.sl r l,d) else none)=some (new,d')→Zm2 w (l.map (RT.enc r))=true∧Zrt (l.map (RT.enc r))=true∧new.es=l.map (RT.enc r)∧d'=d:=fun h=>by
    by_cases hw:(r.w == w&&r.flat)=true
    · rw[if_pos hw] at h
      simp only[Bool.and_eq_true,beq_iff_eq] at hw
      simp only[Option.some.injEq,Prod.mk.injEq] at h
      obtain⟨rfl,rfl⟩:=h
      exact⟨hw.1▸Zd1 r l,Zxc r hw.2 l,rfl,rfl⟩
    · rw[if_neg hw] at h;cases h
   rw[hp]
   cases q with
   | own=>
     simp only at h
     by_cases hw:(r.w == w)=true
     · rw[if_pos hw] at h
       simp only[Option.some.injEq,Prod.mk.injEq] at h
       obtain⟨rfl,rfl⟩:=h
       have hk:=mv_ok (.sl .own r l) hv rfl (fun _=>rfl) rfl
       obtain⟨m1,m2⟩:=Zbv y hs (by rw[hk];rfl)
       have hw':r.w=w:=by simpa using hw
       simp only[DV.enc]
       rw[if_pos (hw'▸Zd1 r l)]
       exact⟨_,rfl,m2⟩
     · rw[if_neg hw] at h;cases h
   |ownw w'=>cases h
   |frz=>obtain⟨k1,k2,k3,rfl⟩:=key h;simp only[DV.enc];rw[if_pos ⟨k1,k2⟩,k3];exact⟨s,rfl,hs⟩
   |bor a b c=>obtain⟨k1,k2,k3,rfl⟩:=key h;simp only[DV.enc];rw[if_pos ⟨k1,k2⟩,k3];exact⟨s,rfl,hs⟩
   |pre a b=>obtain⟨k1,k2,k3,rfl⟩:=key h;simp only[DV.enc];rw[if_pos ⟨k1,k2⟩,k3];exact⟨s,rfl,hs⟩
 |_=>rw[hv] at h;cases h
theorem Zqc{x:DSrc}{r:RT}{l:List r.D}(h:x.to r=some l):x.es.length=l.length:=by rw[ZAX h,List.length_map]
theorem Zr0{w:Nat}{x:Opnd}{new:DSrc}{d d':DS}{s:PS}{g:PX}{v:DV}(hs:ES d s)(h:ZD3 w x new d=some (g,v,d'))(hg:g.den):∃ s',Zqa w x new.es s=some (v.enc,s')∧ES d' s':=by
 have hx:=x.dev_ev hs
 unfold ZD3 at h
 by_cases h0:(Nat.blt 0 w&&new.w w)=true
 · simp only [h0,Bool.not_true,Bool.false_eq_true,if_false] at h
   simp only[Bool.and_eq_true] at h0
   have hw0:0<w:=Nat.le_of_ble_eq_true h0.1
   unfold Zqa
   cases hv:x.dev d.sl with
   | nil q =>
     rw[hv] at h hx
     rw[hx.of (by simp)]
     cases q with
     | own=>
       have hk:=mv_ok (.nil .own) hv rfl (fun _=>rfl) rfl
       obtain⟨m1,m2⟩:=Zbv x hs (by rw[hk];rfl)
       cases new with
       | nil=>
         simp only[Option.some.injEq,Prod.mk.injEq] at h
         obtain⟨rfl,rfl,rfl⟩:=h
         simp only[DV.enc,DSrc.es,List.length_nil,Nat.add_zero,Nat.zero_mul,List.append_nil]
         rw[if_pos ⟨hw0,rfl,Nat.zero_le _⟩]
         exact⟨_,rfl,m2⟩
       | sl r l=>
         simp only[Option.some.injEq,Prod.mk.injEq] at h
         obtain⟨rfl,rfl,rfl⟩:=h
         simp only[DV.enc,DSrc.es,List.length_nil,Nat.zero_add,List.length_map,List.nil_append]
         rw[if_pos ⟨hw0,rfl,hg⟩]
         exact⟨_,rfl,m2⟩
     | bor hd p t=>
       cases t with
       | false=>cases p with
         |nil=>cases h
         |cons c p=>cases p<;>cases h
       | true=>
         match p,h with
         | [c],h=>
           simp only at h ⊢
           cases hk:Zfg d hd [c]<;>rw[hk] at h<;>try (cases h;done)
           rename_i q
           cases q<;>try (cases h;done)
           have hne:Zfg d hd [c]≠.any:=by rw[hk];simp
           have e1:=Zg1 hs hd [c] hne
           rw[hk] at e1
           have e3:=ZgE hs hd [c] .undef hne
           cases new with
           | nil=>
             simp only[Option.some.injEq,Prod.mk.injEq] at h
             obtain⟨rfl,rfl,rfl⟩:=h
             simp only[DV.enc,e1,DSrc.es,List.length_nil,Nat.add_zero,Nat.zero_mul,List.append_nil]
             rw[if_pos ⟨hw0,rfl,trivial,Nat.zero_le _⟩]
             exact⟨_,rfl,e3⟩
           | sl r l=>
             simp only[Option.some.injEq,Prod.mk.injEq] at h
             obtain⟨rfl,rfl,rfl⟩:=h
             simp only[DV.enc,e1,DSrc.es,List.length_nil,Nat.zero_add,List.length_map,List.nil_append]
             rw[if_pos ⟨hw0,rfl,trivial,hg⟩]
             exact⟨_,rfl,e3⟩
         |[],h=>cases h
         |_::_::_,h=>cases h
     |_=>cases h
   | sl q r l=>
     rw[hv] at h hx
     rw[hx.of (by simp)]
     cases q with
     | own =>
       simp only at h
       by_cases hw:(r.w == w)=true
       · rw[if_pos hw] at h
         have hw':r.w=w:=by simpa using hw
         cases ht:new.to r with
         |none=>rw[ht] at h;cases h
         | some n=>
           rw[ht] at h
           simp only[Option.some.injEq,Prod.mk.injEq] at h
           obtain⟨rfl,rfl,rfl⟩:=h
           have hk:=mv_ok (.sl .own r l) hv rfl (fun _=>rfl) rfl
           obtain⟨m1,m2⟩:=Zbv x hs (by rw[hk];rfl)
           simp only[DV.enc,List.length_map,Zqc ht]
           rw[if_pos ⟨hw0,hw'▸Zd1 r l,hg⟩,ZAX ht]
           refine⟨_,?_,m2⟩
           simp only[Zpx,List.map_append]
       · rw[if_neg hw] at h;cases h
     | bor hd p t=>
       cases t with
       | false=>cases p with
         |nil=>cases h
         |cons c p=>cases p<;>cases h
       | true=>
         match p,h with
         | [c],h=>
           simp only at h ⊢
           cases hk:Zfg d hd [c]<;>rw[hk] at h<;>try (cases h;done)
           rename_i q rh lh
           cases q<;>try (cases h;done)
           simp only at h
           by_cases hw:(rh.w == w)=true
           · rw[if_pos hw] at h
             have hw':rh.w=w:=by simpa using hw
             cases ht:new.to rh with
             |none=>rw[ht] at h;cases h
             | some n=>
               rw[ht] at h
               simp only[Option.some.injEq,Prod.mk.injEq] at h
               obtain⟨rfl,rfl,rfl⟩:=h
               have hne:Zfg d hd [c]≠.any:=by rw[hk];simp
               have e1:=Zg1 hs hd [c] hne
               rw[hk] at e1
               have e3:=ZgE hs hd [c] .undef hne
               simp only[DV.enc,e1,List.length_map,Zqc ht]
               rw[if_pos ⟨hw0,hw'▸Zd1 rh lh,hg.1,hg.2⟩,ZAX ht]
               refine⟨_,?_,e3⟩
               simp only[Zpx,List.map_append,DV.enc]
           · rw[if_neg hw] at h;cases h
         |[],h=>cases h
         |_::_::_,h=>cases h
     | pre hd p=>
      match p,h with
      | [c],h=>
        simp only at h ⊢
        cases hk:Zfg d hd [c]<;>rw[hk] at h<;>try (cases h;done)
        rename_i q rh lh
        cases q<;>try (cases h;done)
        simp only at h
        by_cases hw:(rh.w == w)=true
        · rw[if_pos hw] at h
          have hw':rh.w=w:=by simpa using hw
          cases ht:new.to rh with
          |none=>rw[ht] at h;cases h
          | some n=>
            rw[ht] at h
            simp only[Option.some.injEq,Prod.mk.injEq] at h
            obtain⟨rfl,rfl,rfl⟩:=h
            have hne:Zfg d hd [c]≠.any:=by rw[hk];simp
            have e1:=Zg1 hs hd [c] hne
            rw[hk] at e1
            have e3:=ZgE hs hd [c] .undef hne
            simp only[DV.enc,e1,List.length_map,Zqc ht]
            rw[if_pos ⟨hw0,hw'▸Zd1 rh lh,hg.1,hg.2.1,hg.2.2.2⟩,ZAX ht,if_neg (Nat.ne_of_gt hg.2.2.1)]
            refine⟨_,?_,e3⟩
            simp only[Zpx,ZvR,ZF0,List.map_append,List.map_take,DV.enc]
        · rw[if_neg hw] at h;cases h
      |[],h=>cases h
      |_::_::_,h=>cases h
     |_=>cases h
   |_=>rw[hv] at h;cases h
 · simp only[h0] at h;cases h
theorem ZtV{zs:List V}(h:Zhp zs=true):EL (news (Zys zs)) (zs.map ofV):=by rw[← (Zdx zs h).2.1];exact EL.news _
theorem EB.append{c:List DC}{p:List PV}:∀ {a:List (List DC)} {b:List (List PV)},EB a b→EBx c p→EB (a++[c]) (b++[p])
 |[],[],_,h=>⟨h,trivial⟩
 |_::_,_::_,h,h'=>⟨h.1,EB.append h.2 h'⟩
theorem ZtH(r:RT)(x:r.D)(n:Nat):(List.replicate n x).map (RT.enc r)=List.replicate n (RT.enc r x):=by simp
theorem Zp6{m:Bool}{o:AOp}{ty:Option RT}{d d':DS}{s:PS}{g:PX}{v:DV}(hs:ES d s)(h:ZdA m o ty d=some (g,v,d'))(hg:g.den):∃ s',Zdg m o s=some (v.enc,s')∧ES d' s':=by
 have E:=fun x=>Opnd.dev_ev hs x
 have pure:(ZxO o (fun x=>x.dev d.sl)).map (fun r=>(r.1,r.2,d))=some (g,v,d')→∃ s',Zdg m o s=some (v.enc,s')∧ES d' s':=fun h=>by
  cases hp:ZxO o (fun x=>x.dev d.sl) with
  |none=>rw[hp] at h;cases h
  | some r=>
    obtain⟨g1,v1⟩:=r
    rw[hp] at h
    simp only[Option.map_some,Option.some.injEq,Prod.mk.injEq] at h
    obtain⟨rfl,rfl,rfl⟩:=h
    exact⟨s,ZvU hs hp hg,hs⟩
 cases o<;>first|exact pure h|skip
 case mv x=>
  cases m with
  | false=>
    simp only[ZdA,Bool.false_eq_true,if_false] at h
    by_cases hk:(Za8 x d).1.ok=true
    · rw[if_pos hk] at h
      simp only[Option.some.injEq,Prod.mk.injEq] at h
      obtain⟨rfl,rfl,rfl⟩:=h
      obtain⟨m1,m2⟩:=Zbv x hs hk
      exact⟨_,by simp only[Zdg,Bool.false_eq_true,if_false,← m1],m2⟩
    · rw[if_neg hk] at h;cases h
  | true=>
    simp only[ZdA,if_true] at h
    by_cases hk:(ZmS x d).1.ok=true
    · rw[if_pos hk] at h
      simp only[Option.some.injEq,Prod.mk.injEq] at h
      obtain⟨rfl,rfl,rfl⟩:=h
      obtain⟨m1,m2⟩:=Zu9 x hs hk
      exact⟨_,by simp only[Zdg,if_true,← m1],m2⟩
    · rw[if_neg hk] at h;cases h
 case loadB i n a=>exact Zn2 hs (E a) h
 case loadH n a=>
  simp only[ZdA] at h
  cases hn:Zn3 m n (a.dev d.sl) d with
  | none=>
    rw[hn] at h
    obtain⟨s',h1,h2⟩:=ZnZ hs (E a) h hg
    refine⟨s',?_,h2⟩
    have hne:a.dev d.sl≠.any:=by
     intro e
     simp only[e,ZnL] at h
     cases h
    simp only[Zdg,Zyj (s:=s) (E a) hne hn]
    exact h1
  | some r=>
    rw[hn] at h
    obtain⟨h1,rfl⟩:=Zvc hs (E a) hn h hg
    exact⟨s,by simp only[Zdg,h1];rfl,hs⟩
 case storeB i n a x=>exact Ztl hs h
 case storeH n a x=>
  simp only[ZdA] at h
  split at h
  · rename_i hok
    have hn:=ZCd (E a) (fun e=>by rw[e] at hok;cases hok)
    split at h
    · rename_i hd p k j o hm
      obtain⟨s',h1,h2⟩:=ZtG hs (E x) h hg
      exact⟨s',by simp only[Zdg,hn,hm];exact h1,h2⟩
    · rename_i hm
      obtain⟨s',h1,h2⟩:=Zto hs h hg
      exact⟨s',by simp only[Zdg,hn,hm];exact h1,h2⟩
  · cases h
 case appN w x y=>
  simp only[ZdA] at h
  split at h
  · rename_i hx
    cases h1:ZBM w y d with
    |none=>rw[h1] at h;cases h
    | some r=>
      obtain⟨new,d1⟩:=r
      rw[h1] at h
      obtain⟨s1,e1,e2⟩:=ZnB hs h1
      obtain⟨s2,e3,e4⟩:=Zr0 e2 h hg
      have ex:=(E x).of (by rw[hx];simp)
      rw[hx] at ex
      exact⟨s2,by simp only[Zdg,ex,DV.enc,e1];exact e3,e4⟩
  · cases h
 case app w x y=>
  simp only[ZdA] at h
  cases h1:ZBM w y d with
  |none=>rw[h1] at h;cases h
  | some r=>
    obtain⟨new,d1⟩:=r
    rw[h1] at h
    obtain⟨s1,e1,e2⟩:=ZnB hs h1
    obtain⟨s2,e3,e4⟩:=Zr0 e2 h hg
    exact⟨s2,by simp only[Zdg,e1];exact e3,e4⟩
 case allocB i zs=>
  simp only[ZdA] at h
  by_cases hc:(Nat.blt i d.bx.length&&Zhp zs)=true
  · rw[if_pos hc] at h
    simp only[Bool.and_eq_true] at hc
    simp only[Option.some.injEq,Prod.mk.injEq] at h
    obtain⟨rfl,rfl,rfl⟩:=h
    simp only[Zdg]
    rw[if_pos ⟨by rw[← hs.bx.len];exact Nat.le_of_ble_eq_true hc.1,(Zdx zs hc.2).1⟩]
    exact⟨_,rfl,(hs.sl.clearBox i).clr _,hs.bx.put i (.inr (ZtV hc.2)),hs.hp⟩
  · rw[if_neg hc] at h;cases h
 case boxB i n x=>
  simp only[ZdA] at h
  by_cases hc:(Nat.blt i (Za8 x d).2.bx.length&&(Za8 x d).1.cells.length == n&&Zfd (Za8 x d).1.cells)=true
  · rw[if_pos hc] at h
    simp only[Bool.and_eq_true,beq_iff_eq] at hc
    obtain⟨⟨h1,rfl⟩,h3⟩:=hc
    obtain⟨m1,m2⟩:=Zbv x hs (ZmR _ h3)
    simp only[Option.some.injEq,Prod.mk.injEq] at h
    obtain⟨rfl,rfl,rfl⟩:=h
    simp only[Zdg,m1,ZfT,Zez]
    rw[if_pos ⟨by rw[← m2.bx.len];exact Nat.le_of_ble_eq_true h1,trivial,ZiE _ h3⟩]
    exact⟨_,rfl,(m2.sl.clearBox i).clr _,m2.bx.put i (.inr (EL.news _)),m2.hp⟩
  · rw[if_neg hc] at h;cases h
 case allocH zs=>
  simp only[ZdA] at h
  by_cases hc:Zhp zs=true
  · rw[if_pos hc] at h
    simp only[Option.some.injEq,Prod.mk.injEq] at h
    obtain⟨rfl,rfl,rfl⟩:=h
    simp only[Zdg]
    rw[if_pos (Zdx zs hc).1,← hs.hp.len]
    exact⟨_,rfl,hs.sl.clr _,hs.bx,hs.hp.append (.inr (ZtV hc))⟩
  · rw[if_neg hc] at h;cases h
 case boxH n x=>
  simp only[ZdA] at h
  by_cases hc:((Za8 x d).1.cells.length == n&&Zfd (Za8 x d).1.cells)=true
  · rw[if_pos hc] at h
    simp only[Bool.and_eq_true,beq_iff_eq] at hc
    obtain⟨rfl,h3⟩:=hc
    obtain⟨m1,m2⟩:=Zbv x hs (ZmR _ h3)
    simp only[Option.some.injEq,Prod.mk.injEq] at h
    obtain⟨rfl,rfl,rfl⟩:=h
    simp only[Zdg,m1,ZfT,Zez]
    rw[if_pos ⟨trivial,ZiE _ h3⟩,← m2.hp.len]
    exact⟨_,rfl,m2.sl.clr _,m2.bx,m2.hp.append (.inr (EL.news _))⟩
  · rw[if_neg hc] at h;cases h
 case build zs ps=>
  simp only[ZdA] at h
  by_cases hc:Zhp zs=true
  · rw[if_pos hc] at h
    cases hf:ZrL (Zys zs) ps d with
    |none=>rw[hf] at h;cases h
    | some r=>
      obtain⟨cs,d1⟩:=r
      rw[hf] at h
      simp only[Option.some.injEq,Prod.mk.injEq] at h
      obtain⟨rfl,rfl,rfl⟩:=h
      obtain⟨s',e1,e2⟩:=Zmc ps hs hf
      rw[(Zdx zs hc).2.1] at e1
      simp only[Zdg]
      rw[if_pos (Zdx zs hc).1,e1]
      exact⟨s',rfl,e2⟩
  · rw[if_neg hc] at h;cases h
 case mkSlice w z len=>
  simp only[ZdA] at h
  cases he:len.dev d.sl with
  | int k n=>
    rw[he] at h
    cases k<;>try (cases h)
    simp only at h
    split at h
    · rename_i r hr
      split at h
      · rename_i x hx
        split at h
        · rename_i hc
          simp only[Bool.and_eq_true,beq_iff_eq] at hc
          obtain⟨⟨⟨h1,h2⟩,h3⟩,h4⟩:=hc
          simp only[Option.some.injEq,Prod.mk.injEq] at h
          obtain⟨rfl,rfl,rfl⟩:=h
          have hp:=E len
          rw[he] at hp
          simp only[Zdg,hp.of (by simp),DV.enc]
          rw[if_pos ⟨hg.1,h1,Nat.le_of_ble_eq_true h3,(Zdx z h4).1,hg.2⟩]
          refine⟨s,?_,hs⟩
          rw[ZDW]
          rw[ZtH,← Zx0 hx,(Zdx z h4).2.1]
        · cases h
      · cases h
    · cases h
  |_=>rw[he] at h;cases h
 case litSlice w n zs ps=>
  simp only[ZdA] at h
  by_cases hn:(n == 0)=true
  · rw[if_pos hn] at h
    simp only[Option.some.injEq,Prod.mk.injEq] at h
    obtain⟨rfl,rfl,rfl⟩:=h
    simp only[Zdg]
    rw[if_pos (by simpa using hn)]
    refine⟨s,?_,hs⟩
    cases ty<;>rfl
  · rw[if_neg hn] at h
    split at h
    · rename_i hc
      simp only[Bool.and_eq_true,beq_iff_eq] at hc
      obtain⟨⟨h1,h2⟩,h3⟩:=hc
      split at h
      · rename_i cs d1 hf
        split at h
        · rename_i r hr
          split at h
          · split at h
            · rename_i l hl
              simp only[Option.some.injEq,Prod.mk.injEq] at h
              obtain⟨rfl,rfl,rfl⟩:=h
              obtain⟨s',e1,e2⟩:=Zmc ps hs hf
              rw[(Zdx zs h1).2.1] at e1
              simp only[Zdg]
              rw[if_neg (by simpa using hn),if_pos ⟨(Zdx zs h1).1,h2,Nat.le_of_ble_eq_true h3⟩,e1]
              refine⟨s',?_,e2⟩
              simp only[Option.map_some,DV.enc,Zm1 r w n cs l hl]
            · cases h
          · cases h
        · cases h
      · cases h
    · cases h
 case extract x i=>
  simp only[ZdA] at h
  cases x with
  |c v=>cases h
  | t t =>
    simp only at h
    have ht:EV (Zip d.sl t) (Zag s.sl t):=hs.sl.get t
    cases hv:Zip d.sl t with
    | tup vs=>
      rw[hv] at h ht
      simp only at h
      have hp:Zag s.sl t= .tup (DV.encL vs):=ht.of (by simp)
      split at h
      · rename_i hc
        simp only[Bool.and_eq_true] at hc
        simp only[Zdg,hp]
        rw[Zez,if_pos (show i<vs.length from Nat.le_of_ble_eq_true hc.1),← Zlc,ZjU,Ztz]
        split at h
        · rename_i ho
          rw[if_pos ho]
          split at h
          · cases h
          · rename_i hb
            rw[if_neg hb]
            simp only[Option.some.injEq,Prod.mk.injEq] at h
            obtain⟨rfl,rfl,rfl⟩:=h
            refine⟨_,rfl,?_,hs.bx,hs.hp⟩
            refine(EL.put t hs.sl (.inr ?_)).clr _
            show PV.tup _=PV.tup _
            rw[ZoU];rfl
        · rename_i ho
          rw[if_neg ho]
          simp only[Option.some.injEq,Prod.mk.injEq] at h
          obtain⟨rfl,rfl,rfl⟩:=h
          exact⟨_,rfl,hs⟩
      · cases h
    |_=>rw[hv] at h;cases h
theorem ZvX{w:Nat}{new:DSrc}{r:RT}{n:List r.D}(h:new.to r=some n)(l:List r.D)(hw:r.w=w):l.map (RT.enc r)++new.es=(l++n).map (RT.enc r)∧Zm2 w (l.map (RT.enc r)++new.es)=true:=by
 have:l.map (RT.enc r)++new.es=(l++n).map (RT.enc r):=by rw[ZAX h,List.map_append]
 exact⟨this,by rw[this];exact hw▸Zd1 r (l++n)⟩
theorem Zxe{w:Nat}{es:List (List PV)}(h:Zm2 w es=true):pwk [(0,w)] (.sl .own es)=some (.sl (.ownw w) es):=by
 show wk1 w (.sl .own es)=_
 simp only[wk1];rw[if_pos h]
theorem ZEK{w:Nat}{es:List (List PV)}:pwk [(0,w)] (.sl (.ownw w) es)=some (.sl (.ownw w) es):=by
 show wk1 w (.sl (.ownw w) es)=_
 simp only[wk1,if_true]
theorem ZtI{w:Nat}{es:List (List PV)}{c:Prop} [Decidable c](h:Zm2 w es=true):pwk [(0,w)] (.sl (if c then .ownw w else .own) es)=some (.sl (.ownw w) es):=by
 split
 · exact ZEK
 · exact Zxe h
theorem Zvu{w:Nat}{x:Opnd}{new:DSrc}{d d':DS}{s:PS}{g:PX}{v:DV}(hs:ES d s)(h:ZzG w x new d=some (g,v,d'))(hg:g.den):∃ s' v0,Zqa w x new.es s=some (v0,s')∧pwk [(0,w)] v0=some v.enc∧ES d' s':=by
 have hx:=x.dev_ev hs
 unfold ZzG at h
 by_cases h0:(Nat.blt 0 w&&new.w w)=true
 · simp only [h0,Bool.not_true,Bool.false_eq_true,if_false] at h
   simp only[Bool.and_eq_true] at h0
   have hw0:0<w:=Nat.le_of_ble_eq_true h0.1
   have haw:=ZD8 h0.2
   unfold Zqa
   cases hv:x.dev d.sl with
   | nil q =>
     rw[hv] at h hx
     rw[hx.of (by simp)]
     cases q with
     | own=>
       have hk:=mv_ok (.nil .own) hv rfl (fun _=>rfl) rfl
       obtain⟨m1,m2⟩:=Zbv x hs (by rw[hk];rfl)
       simp only[DV.enc,List.length_nil,Nat.zero_add,List.nil_append]
       cases new with
       | nil=>
         simp only[ZtR,Option.some.injEq,Prod.mk.injEq] at h
         obtain⟨rfl,rfl,rfl⟩:=h
         rw[if_pos ⟨hw0,rfl,by simp[DSrc.es,Zbu]⟩]
         exact⟨_,_,rfl,Zxe haw,m2⟩
       | sl r l=>
         simp only[ZtR,Option.some.injEq,Prod.mk.injEq] at h
         obtain⟨rfl,rfl,rfl⟩:=h
         rw[if_pos ⟨hw0,rfl,by simpa [DSrc.es,PX.den] using hg⟩]
         exact⟨_,_,rfl,Zxe haw,m2⟩
     | ownw w'=>
       simp only at h
       by_cases hw':(w' == w)=true
       · rw[if_pos hw'] at h
         have hw':w'=w:=by simpa using hw'
         subst hw'
         have hk:=mv_ok (.nil (.ownw w')) hv rfl (fun _=>rfl) rfl
         obtain⟨m1,m2⟩:=Zbv x hs (by rw[hk];rfl)
         simp only[DV.enc,List.length_nil,Nat.zero_add,List.nil_append]
         cases new with
         | nil=>
           simp only[ZtR,Option.some.injEq,Prod.mk.injEq] at h
           obtain⟨rfl,rfl,rfl⟩:=h
           rw[if_pos ⟨hw0,trivial,rfl,by simp[DSrc.es,Zbu]⟩]
           exact⟨_,_,rfl,ZtI haw,m2⟩
         | sl r l=>
           simp only[ZtR,Option.some.injEq,Prod.mk.injEq] at h
           obtain⟨rfl,rfl,rfl⟩:=h
           rw[if_pos ⟨hw0,trivial,rfl,by simpa [DSrc.es,PX.den] using hg⟩]
           exact⟨_,_,rfl,ZtI haw,m2⟩
       · rw[if_neg hw'] at h;cases h
     |_=>cases h
   | sl q r l=>
     rw[hv] at h hx
     rw[hx.of (by simp)]
     cases q with
     | own =>
       simp only at h
       by_cases hw:(r.w == w)=true
       · rw[if_pos hw] at h
         have hw':r.w=w:=by simpa using hw
         cases ht:new.to r with
         |none=>rw[ht] at h;cases h
         | some n=>
           rw[ht] at h
           simp only[Option.some.injEq,Prod.mk.injEq] at h
           obtain⟨rfl,rfl,rfl⟩:=h
           have hk:=mv_ok (.sl .own r l) hv rfl (fun _=>rfl) rfl
           obtain⟨m1,m2⟩:=Zbv x hs (by rw[hk];rfl)
           obtain⟨a1,a2⟩:=ZvX ht l hw'
           simp only[DV.enc,List.length_map,Zqc ht]
           rw[if_pos ⟨hw0,hw'▸Zd1 r l,hg⟩]
           exact⟨_,_,rfl,by rw[Zxe a2,a1];simp only[Zpx],m2⟩
       · rw[if_neg hw] at h;cases h
     | ownw w'=>
       simp only at h
       by_cases hw:(w' == w&&r.w == w)=true
       · rw[if_pos hw] at h
         simp only[Bool.and_eq_true,beq_iff_eq] at hw
         obtain⟨rfl,hw'⟩:=hw
         cases ht:new.to r with
         |none=>rw[ht] at h;cases h
         | some n=>
           rw[ht] at h
           simp only[Option.some.injEq,Prod.mk.injEq] at h
           obtain⟨rfl,rfl,rfl⟩:=h
           have hk:=mv_ok (.sl (.ownw w') r l) hv rfl (fun _=>rfl) rfl
           obtain⟨m1,m2⟩:=Zbv x hs (by rw[hk];rfl)
           obtain⟨a1,a2⟩:=ZvX ht l hw'
           simp only[DV.enc,List.length_map,Zqc ht]
           rw[if_pos ⟨hw0,trivial,hw'▸Zd1 r l,hg⟩]
           exact⟨_,_,rfl,by rw[ZtI a2,a1];simp only[Zpx],m2⟩
       · rw[if_neg hw] at h;cases h
     | pre hd p=>
      match p,h with
      | [c],h=>
        simp only at h ⊢
        cases hk:Zfg d hd [c]<;>rw[hk] at h<;>try (cases h;done)
        rename_i q rh lh
        have hne:Zfg d hd [c]≠.any:=by rw[hk];simp
        have e1:=Zg1 hs hd [c] hne
        rw[hk] at e1
        have e3:=ZgE hs hd [c] .undef hne
        have tk:∀ {n:List rh.D},new.to rh=some n→rh.w=w→(lh.map (RT.enc rh)).take l.length++new.es=(lApp (lTake lh (lN l)) n).map (RT.enc rh)∧Zm2 w ((lh.map (RT.enc rh)).take l.length++new.es)=true:=by
         intro n ht hw'
         have:=ZvX ht (lh.take l.length) hw'
         rw[List.map_take] at this
         simp only[Zpx,ZvR,ZF0]
         exact this
        cases q<;>try (cases h;done)
        case own=>
         simp only at h
         by_cases hw:(rh.w == w)=true
         · rw[if_pos hw] at h
           have hw':rh.w=w:=by simpa using hw
           cases ht:new.to rh with
           |none=>rw[ht] at h;cases h
           | some n=>
             rw[ht] at h
             simp only[Option.some.injEq,Prod.mk.injEq] at h
             obtain⟨rfl,rfl,rfl⟩:=h
             obtain⟨a1,a2⟩:=tk ht hw'
             simp only[DV.enc,e1,List.length_map,Zqc ht]
             rw[if_pos ⟨hw0,hw'▸Zd1 rh lh,hg.1,hg.2.1,hg.2.2⟩]
             exact⟨_,_,rfl,by rw[ZtI a2,a1],e3⟩
         · rw[if_neg hw] at h;cases h
        case ownw w'=>
         simp only at h
         by_cases hw:(w' == w&&rh.w == w)=true
         · rw[if_pos hw] at h
           simp only[Bool.and_eq_true,beq_iff_eq] at hw
           obtain⟨rfl,hw'⟩:=hw
           cases ht:new.to rh with
           |none=>rw[ht] at h;cases h
           | some n=>
             rw[ht] at h
             simp only[Option.some.injEq,Prod.mk.injEq] at h
             obtain⟨rfl,rfl,rfl⟩:=h
             obtain⟨a1,a2⟩:=tk ht hw'
             simp only[DV.enc,e1,List.length_map,Zqc ht]
             rw[if_pos ⟨hw0,trivial,hw'▸Zd1 rh lh,hg.1,hg.2.1,hg.2.2⟩]
             exact⟨_,_,rfl,by rw[ZtI a2,a1],e3⟩
         · rw[if_neg hw] at h;cases h
      |[],h=>cases h
      |_::_::_,h=>cases h
     |_=>cases h
   |_=>rw[hv] at h;cases h
 · simp only[h0] at h;cases h
theorem ZBl{w:Nat}{v v':DV}(h:ZF1 w v=some v'):wk1 w v.enc=some v'.enc:=by
 unfold ZF1 at h
 split at h
 · cases h;rfl
 · split at h
   · rename_i hw;have hw:=beq_iff_eq.mp hw;subst hw;cases h;simp only[DV.enc,wk1,if_true]
   · cases h
 · rename_i r l
   split at h
   · rename_i hw;have hw:=beq_iff_eq.mp hw;cases h;simp only[DV.enc,wk1];rw[if_pos (hw▸Zd1 r l)]
   · cases h
 · split at h
   · rename_i hw;have hw:=beq_iff_eq.mp hw;subst hw;cases h;simp only[DV.enc,wk1,if_true]
   · cases h
 · cases h
theorem ZDS:∀ (ws:List (Nat×Nat)) {l l':List DV},ZHg ws l=some l'→wkL ws (DV.encL l)=some (DV.encL l')
 |[],l,l',h=>by cases h;rfl
 | (c,w)::r,l,l',h=>by
   unfold ZHg at h
   split at h
   · rename_i v hv
     unfold wkL
     rw[← Zlc,ZBl hv]
     simp only
     rw[← ZoU]
     exact ZDS r h
   · cases h
theorem ZHy{ws:List (Nat×Nat)}{v v':DV}(h:dwk ws v=some v'):pwk ws v.enc=some v'.enc:=by
 unfold dwk at h
 split at h
 · simp only[Option.map_eq_some_iff] at h
   obtain⟨l',h1,rfl⟩:=h
   show (wkL ws _).map PV.agg=_
   rw[ZDS ws h1];rfl
 · rename_i q
   split at h
   · exact ZBl (v:=.nil q) h
   · cases h
 · rename_i q r l
   split at h
   · exact ZBl (v:=.sl q r l) h
   · cases h
 · cases h
theorem Zui{ws:List (Nat×Nat)}{m:Bool}{o:AOp}{ty:Option RT}{d d':DS}{s:PS}{g:PX}{v:DV}(hs:ES d s)(h:Zqd ws m o ty d=some (g,v,d'))(hg:g.den):∃ s' v0,Zdg m o s=some (v0,s')∧pwk ws v0=some v.enc∧ES d' s':=by
 have gen:(match ZdA m o ty d with|some (g,v,st)=>(match dwk ws v with|some v=>some (g,v,st)|none=>none)|none=>none)=some (g,v,d')→∃ s' v0,Zdg m o s=some (v0,s')∧pwk ws v0=some v.enc∧ES d' s':=by
  intro h
  cases h1:ZdA m o ty d with
  |none=>rw[h1] at h;cases h
  | some r=>
    obtain⟨g1,v1,d1⟩:=r
    rw[h1] at h
    simp only at h
    cases h2:dwk ws v1 with
    |none=>rw[h2] at h;cases h
    | some v2=>
      rw[h2] at h
      simp only[Option.some.injEq,Prod.mk.injEq] at h
      obtain⟨rfl,rfl,rfl⟩:=h
      obtain⟨s',e1,e2⟩:=Zp6 hs h1 hg
      exact⟨s',_,e1,ZHy h2,e2⟩
 cases o<;>first|exact gen h|skip
 case app w x y=>
  simp only[Zqd] at h
  split at h
  · rename_i w'
    split at h
    · rename_i hw
      have hw:=beq_iff_eq.mp hw
      subst hw
      cases h1:ZBM w' y d with
      |none=>rw[h1] at h;cases h
      | some r=>
        obtain⟨new,d1⟩:=r
        rw[h1] at h
        obtain⟨s1,e1,e2⟩:=ZnB hs h1
        obtain⟨s2,v0,e3,e4,e5⟩:=Zvu e2 h hg
        exact⟨s2,v0,by simp only[Zdg,e1];exact e3,e4,e5⟩
    · cases h
  · cases h
def Chg:List DC→List DC→Prop
 |_,[]=>True
 |[],c::r=>c.d=true∧Chg [] r
 |b::a,c::r=>(c.d=true∨c=b)∧Chg a r
def ChgB:List (List DC)→List (List DC)→Prop
 |_,[]=>True
 |[],c::r=>Chg [] c∧ChgB [] r
 |b::a,c::r=>Chg b c∧ChgB a r
structure ChgS (x y:DS):Prop where
 sl:Chg x.sl y.sl
 bx:ChgB x.bx y.bx
 hp:ChgB x.hp y.hp
theorem Chg.refl:∀ (x:List DC),Chg x x
 |[]=>trivial
 |_::r=>⟨.inr rfl,Chg.refl r⟩
theorem Chg.trans:∀ {x y z:List DC},Chg x y→Chg y z→Chg x z
 |_,_,[],_,_=>by cases ‹List DC›<;>trivial
 |[],[],_::_,_,h=>h
 |_::a,[],c::r,_,h=>⟨.inl h.1,Chg.trans (x:=a) (y:=[]) (by cases a<;>trivial) h.2⟩
 | [],b::a,c::r,h,h'=>by
   refine⟨?_,Chg.trans h.2 h'.2⟩
   rcases h'.1 with h1|h1
   · exact h1
   · rw[h1];exact h.1
 | e::x,b::a,c::r,h,h'=>by
   refine⟨?_,Chg.trans h.2 h'.2⟩
   rcases h'.1 with h1|h1
   · exact .inl h1
   · rw[h1];exact h.1
theorem ChgB.refl:∀ (x:List (List DC)),ChgB x x
 |[]=>trivial
 |b::r=>⟨Chg.refl b,ChgB.refl r⟩
theorem ChgB.trans:∀ {x y z:List (List DC)},ChgB x y→ChgB y z→ChgB x z
 |_,_,[],_,_=>by cases ‹List (List DC)›<;>trivial
 |[],[],_::_,_,h=>h
 |b::a,[],c::r,_,h=>⟨Chg.trans (y:=[]) (by trivial) h.1,ChgB.trans (x:=a) (y:=[]) (by cases a<;>trivial) h.2⟩
 |[],b::a,c::r,h,h'=>⟨h.1.trans h'.1,ChgB.trans h.2 h'.2⟩
 |e::x,b::a,c::r,h,h'=>⟨h.1.trans h'.1,ChgB.trans h.2 h'.2⟩
theorem ChgS.refl(x:DS):ChgS x x:=⟨Chg.refl _,ChgB.refl _,ChgB.refl _⟩
theorem ChgS.trans{x y z:DS}(h:ChgS x y)(h':ChgS y z):ChgS x z:=⟨h.sl.trans h'.sl,h.bx.trans h'.bx,h.hp.trans h'.hp⟩
theorem Chg.put:∀ (x:List DC) (n:Nat) (v:DV),Chg x (ZqZ x n v)
 |[],_,_=>trivial
 |_::r,0,_=>⟨.inl rfl,Chg.refl r⟩
 |_::r,n+1,v=>⟨.inr rfl,Chg.put r n v⟩
theorem Chg.clr(hd:Hd):∀ (x:List DC),Chg x (Zq1 hd x)
 |[]=>trivial
 | c::r=>by
   refine⟨?_,Chg.clr hd r⟩
   split
   · exact .inl rfl
   · exact .inr rfl
theorem Chg.clearBox(i:Nat):∀ (x:List DC),Chg x (ZkA i x)
 |[]=>trivial
 | c::r=>by
   refine⟨?_,Chg.clearBox i r⟩
   split
   · exact .inl rfl
   · exact .inr rfl
theorem Chg.keep(live:List Nat):∀ (n:Nat) (x:List DC),Chg x (ZwG live n x)
 |_,[]=>trivial
 | n,c::r=>by
   refine⟨?_,Chg.keep live (n+1) r⟩
   split
   · split
     · exact .inl rfl
     · exact .inr rfl
   · exact .inl rfl
theorem Chg.trim(live:List Nat):∀ (n:Nat) (x:List DC),Chg x (ZB7 live n x)
 |_,[]=>trivial
 | n,c::r=>by
   refine⟨?_,Chg.trim live (n+1) r⟩
   split
   · exact .inr rfl
   · exact .inl rfl
theorem Chg.splice:∀ (x:List DC) (n:Nat) (vs:List DV),Chg x (Zjf x n vs)
 |[],n,[]=>trivial
 |_::_,0,[]=>Chg.refl _
 |_::_,_+1,[]=>Chg.refl _
 |[],_,_::_=>trivial
 |_::r,0,v::vs=>⟨.inl rfl,Chg.splice r 0 vs⟩
 |_::r,n+1,v::vs=>⟨.inr rfl,Chg.splice r n (v::vs)⟩
theorem Chg.news:∀ (x:List DC) (vs:List DV),Chg x (Go.Ag.news vs)
 |x,[]=>by cases x<;>trivial
 |[],v::vs=>⟨rfl,Chg.news [] vs⟩
 |_::a,v::vs=>⟨.inl rfl,Chg.news a vs⟩
theorem ChgB.put:∀ (x:List (List DC)) (i:Nat) {v:List DC},Chg (ZdU x i) v→ChgB x (Zml x i v)
 |[],_,_,_=>trivial
 |_::r,0,_,h=>⟨h,ChgB.refl r⟩
 |_::r,n+1,v,h=>⟨Chg.refl _,ChgB.put r n h⟩
theorem ChgB.app:∀ (x:List (List DC)) (vs:List DV),ChgB x (x++[Go.Ag.news vs])
 |[],vs=>⟨Chg.news [] vs,trivial⟩
 |b::r,vs=>⟨Chg.refl b,ChgB.app r vs⟩
theorem Chg.rem:∀ {x y:List DC},Chg (Go.Ag.clean x) y→Chg x (ZFL x y)
 |x,[],_=>by cases x<;>trivial
 |[],_::_,h=>h
 | b :: a,c::r,h=>by
   refine⟨?_,Chg.rem h.2⟩
   rcases h.1 with h1|h1
   · left;simp[h1]
   · subst h1
     cases hb:b.d with
     |true=>left;rfl
     |false=>right;obtain⟨d,v⟩:=b;simp only at hb;subst hb;rfl
theorem ChgB.rem:∀ {x y:List (List DC)},ChgB (Zsq x) y→ChgB x (ZF9 x y)
 |x,[],_=>by cases x<;>trivial
 |[],_::_,h=>h
 |b::a,c::r,h=>⟨h.1.rem,ChgB.rem h.2⟩
theorem ChgS.rem{x y:DS}(h:ChgS x.clean y):ChgS x (ZDJ x y):=⟨h.sl.rem,h.bx.rem,h.hp.rem⟩
theorem ChgS.put(d:DS)(n:Option Nat)(v:DV):ChgS d (d.put n v):=by
 cases n with
 |none=>exact ChgS.refl d
 | some n=>
   simp only[DS.put]
   split
   · exact⟨(Chg.put _ _ _).trans (Chg.clr _ _),ChgB.refl _,ChgB.refl _⟩
   · exact⟨Chg.put _ _ _,ChgB.refl _,ChgB.refl _⟩
theorem ChgS.mvOut(x:Opnd)(d:DS):ChgS d (Za8 x d).2:=by
 cases x with
 |c v=>exact ChgS.refl d
 | t n=>
   simp only[Za8,ZFW]
   split
   · split
     · exact ChgS.refl d
     · exact⟨(Chg.put _ _ _).trans (Chg.clr _ _),ChgB.refl _,ChgB.refl _⟩
   · exact ChgS.refl d
theorem ChgS.fzOut(x:Opnd)(d:DS):ChgS d (Zqn x d).2:=by
 cases x with
 |c v=>exact ChgS.refl d
 | t n=>
   simp only[Zqn,ZHh]
   split
   · split
     · exact⟨(Chg.put _ _ _).trans (Chg.clr _ _),ChgB.refl _,ChgB.refl _⟩
     · exact ChgS.refl d
   · exact ChgS.refl d
theorem ChgS.setK(d:DS)(v:DV):∀ (hd:Hd) (p:List Nat),ChgS d (Znv d v hd p)
 |.s t,p=>⟨(Chg.put _ _ _).trans (Chg.clr _ _),ChgB.refl _,ChgB.refl _⟩
 |.b i,[c]=>⟨Chg.clr _ _,ChgB.put _ _ (Chg.put _ _ _),ChgB.refl _⟩
 |.h i,[c]=>⟨Chg.clr _ _,ChgB.refl _,ChgB.put _ _ (Chg.put _ _ _)⟩
 |.b i,[]=>ChgS.refl d
 |.b i,_::_::_=>ChgS.refl d
 |.h i,[]=>ChgS.refl d
 |.h i,_::_::_=>ChgS.refl d
 |.x i,_=>ChgS.refl d
theorem Zqw:∀ (ps:List (Nat×Nat×Opnd)) {cs cs':List DV} {d d':DS},ZrL cs ps d=some (cs',d')→ChgS d d'
 | [],cs,cs',d,d',h=>by
   simp only[ZrL,Option.some.injEq,Prod.mk.injEq] at h
   obtain⟨_,rfl⟩:=h
   exact ChgS.refl d
 | (off,size,x)::r,cs,cs',d,d',h=>by
   unfold ZrL at h
   split at h
   · exact(ChgS.mvOut x d).trans (Zqw r h)
   · cases h
theorem Zs1{w:Nat}{y:Opnd}{d d':DS}{new:DSrc}(h:ZBM w y d=some (new,d')):ChgS d d':=by
 unfold ZBM at h
 split at h<;>(try split at h)<;>first|(cases h;done)|(simp only[Option.some.injEq,Prod.mk.injEq] at h;obtain⟨_,rfl⟩:=h;first|exact ChgS.refl _|exact ChgS.mvOut y d)
theorem Zw5{w:Nat}{x:Opnd}{new:DSrc}{d d':DS}{g:PX}{v:DV}(h:ZD3 w x new d=some (g,v,d')):ChgS d d':=by
 unfold ZD3 at h
 split at h
 · cases h
 · repeat' split at h
   all_goals first|(cases h;done)|(simp only[Option.some.injEq,Prod.mk.injEq] at h;obtain⟨_,_,rfl⟩:=h;first|exact ChgS.mvOut x d|exact ChgS.setK _ _ _ _)
theorem Zx6{m:Bool}{i:Nat}{n:Option Nat}{a:DV}{d d':DS}{g:PX}{v:DV}(h:Zp4 m i n a d=some (g,v,d')):ChgS d d':=by
 unfold Zp4 at h
 split at h
 · cases m with
   | true=>
     simp only[if_true] at h
     split at h
     · simp only[Option.map_eq_some_iff,Prod.mk.injEq] at h
       obtain⟨_,_,_,_,rfl⟩:=h
       exact⟨Chg.clr _ _,ChgB.put _ _ (Chg.splice _ _ _),ChgB.refl _⟩
     · cases h
   | false=>
     simp only[Bool.false_eq_true,if_false] at h
     split at h
     · simp only[Option.map_eq_some_iff,Prod.mk.injEq] at h
       obtain⟨_,_,_,_,rfl⟩:=h
       exact ChgS.refl _
     · cases h
 · cases h
theorem ZxG{m:Bool}{n:Option Nat}{a:DV}{d d':DS}{g:PX}{v:DV}(h:ZnL m n a d=some (g,v,d')):ChgS d d':=by
 unfold ZnL at h
 split at h
 · cases m with
   | true=>
     simp only[if_true] at h
     split at h
     · simp only[Option.map_eq_some_iff,Prod.mk.injEq] at h
       obtain⟨_,_,_,_,rfl⟩:=h
       exact⟨Chg.clr _ _,ChgB.refl _,ChgB.put _ _ (Chg.splice _ _ _)⟩
     · cases h
   | false=>
     simp only[Bool.false_eq_true,if_false] at h
     split at h
     · simp only[Option.map_eq_some_iff,Prod.mk.injEq] at h
       obtain⟨_,_,_,_,rfl⟩:=h
       exact ChgS.refl _
     · cases h
 · split at h
   · split at h
     · simp only[Option.map_eq_some_iff,Prod.mk.injEq] at h
       obtain⟨_,_,_,_,rfl⟩:=h
       exact ChgS.refl _
     · cases h
   · cases h
 · cases h
theorem Zvx{i n:Nat}{a x:Opnd}{d d':DS}{g:PX}{v:DV}(h:Zp0 i n a x d=some (g,v,d')):ChgS d d':=by
 unfold Zp0 at h
 simp only at h
 split at h
 · split at h
   · simp only[Option.some.injEq,Prod.mk.injEq] at h
     obtain⟨_,_,rfl⟩:=h
     refine(ChgS.mvOut x d).trans ⟨?_,ChgB.put _ _ (Chg.splice _ _ _),ChgB.refl _⟩
     split
     · exact Chg.clr _ _
     · exact Chg.refl _
   · cases h
 · cases h
theorem ZvF{n:Nat}{a x:Opnd}{d d':DS}{g:PX}{v:DV}(h:Zpo n a x d=some (g,v,d')):ChgS d d':=by
 unfold Zpo at h
 simp only at h
 split at h
 · split at h
   · simp only[Option.some.injEq,Prod.mk.injEq] at h
     obtain⟨_,_,rfl⟩:=h
     refine(ChgS.mvOut x d).trans ⟨?_,ChgB.refl _,ChgB.put _ _ (Chg.splice _ _ _)⟩
     dsimp only
     split
     · exact Chg.clr _ _
     · exact Chg.refl _
   · cases h
 · split at h
   · split at h
     · split at h
       · simp only[Option.some.injEq,Prod.mk.injEq] at h
         obtain⟨_,_,rfl⟩:=h
         exact(ChgS.mvOut x d).trans (ChgS.setK _ _ _ _)
       · cases h
     · cases h
   · cases h
 · cases h
theorem ZyZ{m:Bool}{n:Option Nat}{a:DV}{d d':DS}{r:DOS}{g:PX}{v:DV}(h:Zn3 m n a d=some r)(hr:r=some (g,v,d')):ChgS d d':=by
 unfold Zn3 at h
 split at h
 · simp only[Option.some.injEq] at h
   rw[hr] at h
   split at h
   · simp only[Option.some.injEq,Prod.mk.injEq] at h
     obtain⟨_,_,rfl⟩:=h
     exact ChgS.refl _
   · cases h
 · cases h
theorem Zwb{n:Nat}{hd:Hd}{p k j o:Nat}{w:DV}{d d':DS}{g:PX}{v:DV}(h:ZqM n hd p k j o w d=some (g,v,d')):ChgS d d':=by
 unfold ZqM at h
 split at h
 · split at h
   · split at h
     · simp only[Option.some.injEq,Prod.mk.injEq] at h
       obtain⟨_,_,rfl⟩:=h
       exact ChgS.setK _ _ _ _
     · cases h
   · cases h
 · cases h
theorem ZGd(x:Opnd)(d:DS):(ZmS x d).2=d:=by cases x<;>rfl
theorem ZzW{w:Nat}{new:DSrc}{d d':DS}{g:PX}{v:DV}(h:ZtR w new d=some (g,v,d')):d'=d:=by
 unfold ZtR at h
 split at h<;>(simp only[Option.some.injEq,Prod.mk.injEq] at h;exact h.2.2.symm)
theorem ZAc{w:Nat}{x:Opnd}{new:DSrc}{d d':DS}{g:PX}{v:DV}(h:ZzG w x new d=some (g,v,d')):ChgS d d':=by
 unfold ZzG at h
 split at h
 · cases h
 · repeat' split at h
   all_goals first|(cases h;done)|(have:=ZzW h;subst this;exact ChgS.mvOut x d)|(simp only[Option.some.injEq,Prod.mk.injEq] at h;obtain⟨_,_,rfl⟩:=h;first|exact ChgS.mvOut x d|exact ChgS.setK _ _ _ _)
theorem Zuu{m:Bool}{o:AOp}{ty:Option RT}{d d':DS}{g:PX}{v:DV}(h:ZdA m o ty d=some (g,v,d')):ChgS d d':=by
 have pure:(ZxO o (fun x=>x.dev d.sl)).map (fun r=>(r.1,r.2,d))=some (g,v,d')→ChgS d d':=fun h=>by
  simp only[Option.map_eq_some_iff,Prod.mk.injEq] at h
  obtain⟨_,_,_,_,rfl⟩:=h
  exact ChgS.refl _
 cases o<;>first|exact pure h|skip
 case mv x=>
  cases m with
  | true=>
    simp only[ZdA,if_true] at h
    split at h
    · simp only[Option.some.injEq,Prod.mk.injEq] at h
      obtain⟨_,_,rfl⟩:=h
      rw[ZGd];exact ChgS.refl d
    · cases h
  | false=>
    simp only[ZdA,Bool.false_eq_true,if_false] at h
    split at h
    · simp only[Option.some.injEq,Prod.mk.injEq] at h
      obtain⟨_,_,rfl⟩:=h
      exact ChgS.mvOut x d
    · cases h
 case loadB i n a=>exact Zx6 h
 case loadH n a=>
  simp only[ZdA] at h
  split at h
  · rename_i h1;exact ZyZ h1 h
  · exact ZxG h
 case storeB i n a x=>exact Zvx h
 case storeH n a x=>
  simp only[ZdA] at h
  split at h
  · split at h
    · exact Zwb h
    · exact ZvF h
  · cases h
 case app w x y=>
  simp only[ZdA] at h
  split at h
  · rename_i h1
    exact(Zs1 h1).trans (Zw5 h)
  · cases h
 case appN w x y=>
  simp only[ZdA] at h
  split at h
  · split at h
    · rename_i h1
      exact(Zs1 h1).trans (Zw5 h)
    · cases h
  · cases h
 case allocB i zs=>
  simp only[ZdA] at h
  split at h
  · simp only[Option.some.injEq,Prod.mk.injEq] at h
    obtain⟨_,_,rfl⟩:=h
    exact⟨(Chg.clearBox _ _).trans (Chg.clr _ _),ChgB.put _ _ (Chg.news _ _),ChgB.refl _⟩
  · cases h
 case boxB i n x=>
  simp only[ZdA] at h
  split at h
  · simp only[Option.some.injEq,Prod.mk.injEq] at h
    obtain⟨_,_,rfl⟩:=h
    exact(ChgS.mvOut x d).trans ⟨(Chg.clearBox _ _).trans (Chg.clr _ _),ChgB.put _ _ (Chg.news _ _),ChgB.refl _⟩
  · cases h
 case allocH zs=>
  simp only[ZdA] at h
  split at h
  · simp only[Option.some.injEq,Prod.mk.injEq] at h
    obtain⟨_,_,rfl⟩:=h
    exact⟨Chg.clr _ _,ChgB.refl _,ChgB.app _ _⟩
  · cases h
 case boxH n x=>
  simp only[ZdA] at h
  split at h
  · simp only[Option.some.injEq,Prod.mk.injEq] at h
    obtain⟨_,_,rfl⟩:=h
    exact(ChgS.mvOut x d).trans ⟨Chg.clr _ _,ChgB.refl _,ChgB.app _ _⟩
  · cases h
 case build zs ps=>
  simp only[ZdA] at h
  split at h
  · split at h
    · rename_i hf
      simp only[Option.some.injEq,Prod.mk.injEq] at h
      obtain⟨_,_,rfl⟩:=h
      exact Zqw ps hf
    · cases h
  · cases h
 case mkSlice w z len=>
  simp only[ZdA] at h
  repeat' split at h
  all_goals first|(cases h;done)|(simp only[Option.some.injEq,Prod.mk.injEq] at h;obtain⟨_,_,rfl⟩:=h;exact ChgS.refl _)
 case litSlice w n zs ps=>
  simp only[ZdA] at h
  split at h
  · simp only[Option.some.injEq,Prod.mk.injEq] at h
    obtain⟨_,_,rfl⟩:=h
    exact ChgS.refl _
  · split at h
    · split at h
      · rename_i hf
        have:=Zqw ps hf
        repeat' split at h
        all_goals first|(cases h;done)|(simp only[Option.some.injEq,Prod.mk.injEq] at h;obtain⟨_,_,rfl⟩:=h;exact this)
      · cases h
    · cases h
 case extract x i=>
  simp only[ZdA] at h
  repeat' split at h
  all_goals first|(cases h;done)|(simp only[Option.some.injEq,Prod.mk.injEq] at h;obtain⟨_,_,rfl⟩:=h;first|exact ChgS.refl _|exact⟨(Chg.put _ _ _).trans (Chg.clr _ _),ChgB.refl _,ChgB.refl _⟩)
theorem Zyi{ws:List (Nat×Nat)}{m:Bool}{o:AOp}{ty:Option RT}{d d':DS}{g:PX}{v:DV}(h:Zqd ws m o ty d=some (g,v,d')):ChgS d d':=by
 have gen:(match ZdA m o ty d with|some (g,v,st)=>(match dwk ws v with|some v=>some (g,v,st)|none=>none)|none=>none)=some (g,v,d')→ChgS d d':=by
  intro h
  cases h1:ZdA m o ty d with
  |none=>rw[h1] at h;cases h
  | some r=>
    obtain⟨g1,v1,d1⟩:=r
    rw[h1] at h
    simp only at h
    cases h2:dwk ws v1 with
    |none=>rw[h2] at h;cases h
    | some v2=>
      rw[h2] at h
      simp only[Option.some.injEq,Prod.mk.injEq] at h
      obtain⟨_,_,rfl⟩:=h
      exact Zuu h1
 cases o<;>first|exact gen h|skip
 case app w x y=>
  simp only[Zqd] at h
  split at h
  · split at h
    · split at h
      · rename_i h1
        exact(Zs1 h1).trans (ZAc h)
      · cases h
    · cases h
  · cases h
theorem Zjx{α:Type}(x y:α):bSel true x y=x:=by simp only[ZAt,cond_true,cond_false]
theorem Zj9{α:Type}(x y:α):bSel false x y=y:=by simp only[ZAt,cond_true,cond_false]
theorem ZDO(c:Bool)(x y:BX):(ZHc c x y).b=bif c then x.b else y.b:=by
 cases x<;>cases y<;>rename_i x y<;>cases c<;>cases x<;>cases y<;>simp[ZHc,BX.b,Zr2,ZGh,Zz7,ZAt]
theorem Zpq{q q':Ql}(h:qeq q q'=true):q=q':=of_decide_eq_true h
mutual
theorem Zw0(c:Bool):∀ (x y:DV),Zpz c x y= .any∨(Zpz c x y).enc=(bif c then x.enc else y.enc)
 | .undef,y=>by
   cases y<;>first|exact .inl rfl|skip
   case undef=>cases c<;>exact .inr rfl
 | .bool a,y=>by
   cases y<;>first|exact .inl rfl|skip
   case bool b=>right;simp only[Zpz,DV.enc,ZDO];cases c<;>rfl
 | .int k a,y=>by
   cases y<;>first|exact .inl rfl|skip
   case int k' b=>
    simp only[Zpz]
    split
    · rename_i hk;have:=ZsA hk;subst this
      right;cases c<;>simp only[DV.enc,Zjx,Zj9,cond_true,cond_false]
    · exact .inl rfl
 | .str a,y=>by
   cases y<;>first|exact .inl rfl|skip
   case str b=>right;cases c<;>simp only[Zpz,DV.enc,Zjx,Zj9,cond_true,cond_false]
 | .ifc a,y=>by
   cases y<;>first|exact .inl rfl|skip
   case ifc b=>right;cases c<;>simp only[Zpz,DV.enc,Zjx,Zj9,cond_true,cond_false]
 | .nil q,y=>by
   cases y<;>first|exact .inl rfl|skip
   case nil q'=>
    simp only[Zpz]
    split
    · rename_i hq;have:=Zpq hq;subst this;right;cases c<;>rfl
    · exact .inl rfl
   case sl q' r l=>
    simp only[Zpz]
    split
    · rename_i hq;have:=Zpq hq;subst this;right
      cases c<;>simp only[DV.enc,Zjx,Zj9,cond_true,cond_false,List.map_nil]
    · exact .inl rfl
 | .sl q r l,y=>by
   cases y<;>first|exact .inl rfl|skip
   case nil q'=>
    simp only[Zpz]
    split
    · rename_i hq;have:=Zpq hq;subst this;right
      cases c<;>simp only[DV.enc,Zjx,Zj9,cond_true,cond_false,List.map_nil]
    · exact .inl rfl
   case sl q' r' l'=>
    simp only[Zpz]
    split
    · rename_i hq;have:=Zpq hq;subst this
      split
      · rename_i l2 hl
        right
        cases c<;>simp only[DV.enc,Zjx,Zj9,cond_true,cond_false,(ZoS hl).2]
      · exact .inl rfl
    · exact .inl rfl
 | .box i o,y=>by
   cases y<;>first|exact .inl rfl|skip
   case box i' o'=>
    simp only[Zpz]
    split
    · rename_i h;simp only[Bool.and_eq_true,beq_iff_eq] at h;obtain⟨rfl,rfl⟩:=h;right;cases c<;>rfl
    · exact .inl rfl
 | .ptr i o,y=>by
   cases y<;>first|exact .inl rfl|skip
   case ptr i' o'=>
    simp only[Zpz]
    split
    · rename_i h;simp only[Bool.and_eq_true,beq_iff_eq] at h;obtain⟨rfl,rfl⟩:=h;right;cases c<;>rfl
    · exact .inl rfl
 | .agg a,y=>by
   cases y<;>first|exact .inl rfl|skip
   case agg b=>
    simp only[Zpz]
    split
    · rename_i h;simp only[Bool.and_eq_true,beq_iff_eq] at h
      right
      have:=Zvv c a b h.1 h.2
      cases c<;>simp only[DV.enc,this,cond_true,cond_false]
    · exact .inl rfl
 | .tup a,y=>by
   cases y<;>first|exact .inl rfl|skip
   case tup b=>
    simp only[Zpz]
    split
    · rename_i h;simp only[Bool.and_eq_true,beq_iff_eq] at h
      right
      have:=Zvv c a b h.1 h.2
      cases c<;>simp only[DV.enc,this,cond_true,cond_false]
    · exact .inl rfl
 |.any,y=>by cases y<;>exact .inl rfl
 |.ep _ _ _ _ _,y=>by cases y<;>exact .inl rfl
theorem Zvv(c:Bool):∀ (x y:List DV),x.length=y.length→DV.okL (ZsK c x y)=true→DV.encL (ZsK c x y)=(bif c then DV.encL x else DV.encL y)
 |[],[],_,_=>by cases c<;>rfl
 |[],_::_,h,_=>by cases h
 |_::_,[],h,_=>by cases h
 | x :: a,y::b,h,hk=>by
   simp only[ZsK,DV.okL,Bool.and_eq_true] at hk
   have h1:=Zvv c a b (by simpa using h) hk.2
   rcases Zw0 c x y with h2|h2
   · rw[h2] at hk;cases hk.1
   · simp only[ZsK,DV.encL,h1,h2]
     cases c<;>rfl
end
theorem ZFo{c:Bool}{x y:DV}{p:PV}(h:EV (bif c then x else y) p):EV (Zpz c x y) p:=by
 rcases Zw0 c x y with h1|h1
 · exact .inl h1
 · cases c with
   | true=>
     rcases h with h|h
     · simp only[cond_true] at h
       subst h
       exact .inl (by cases y<;>rfl)
     · exact .inr (by rw[h1];exact h)
   | false=>
     rcases h with h|h
     · simp only[cond_false] at h
       subst h
       exact .inl (by cases x<;>rfl)
     · exact .inr (by rw[h1];exact h)
theorem Zve{c:Bool}:∀ {b x y:List DC} {p:List PV},Chg b x→Chg b y→x.length=y.length→EL (bif c then x else y) p→EL (ZyD c x y) p
 |_,[],[],p,_,_,_,h=>by cases c<;>exact h
 |_,[],_::_,_,_,_,h,_=>by cases h
 |_,_::_,[],_,_,_,h,_=>by cases h
 |b,x::a,y::e,[],_,_,_,h=>by cases c<;>exact h.elim
 | b,x::a,y::e,q::p,h1,h2,hl,h=>by
   have hr:∃ b',Chg b' a∧Chg b' e∧((x.d=true∨y.d=true)∨x=y):=by
    cases b with
    |nil=>exact⟨[],h1.2,h2.2,.inl (.inl h1.1)⟩
    | cons b0 b=>
      refine⟨b,h1.2,h2.2,?_⟩
      rcases h1.1 with e1|e1
      · exact .inl (.inl e1)
      · rcases h2.1 with e2|e2
        · exact .inl (.inr e2)
        · exact .inr (e1.trans e2.symm)
   obtain⟨b',h3,h4,h5⟩:=hr
   have ih:=Zve (c:=c) (p:=p) h3 h4 (by simpa using hl) (by cases c<;>exact h.2)
   refine⟨?_,ih⟩
   have hv:EV (bif c then x.v else y.v) q:=by cases c<;>exact h.1
   unfold ZG7
   split
   · exact ZFo hv
   · rename_i hd
     rcases h5 with h5|h5
     · exfalso;apply hd;rcases h5 with h5|h5<;>simp[h5]
     · subst h5;cases c<;>exact hv
theorem ZvY{c:Bool}:∀ {b x y:List (List DC)} {p:List (List PV)},ChgB b x→ChgB b y→x.length=y.length→EB (bif c then x else y) p→EB (ZyM c x y) p
 |_,[],[],p,_,_,_,h=>by cases c<;>exact h
 |_,[],_::_,_,_,_,h,_=>by cases h
 |_,_::_,[],_,_,_,h,_=>by cases h
 |b,x::a,y::e,[],_,_,_,h=>by cases c<;>exact h.elim
 | b,x::a,y::e,q::p,h1,h2,hl,h=>by
   have hr:∃ b0 b',Chg b0 x∧Chg b0 y∧ChgB b' a∧ChgB b' e:=by
    cases b with
    |nil=>exact⟨[],[],h1.1,h2.1,h1.2,h2.2⟩
    |cons b0 b=>exact⟨b0,b,h1.1,h2.1,h1.2,h2.2⟩
   obtain⟨b0,b',h3,h4,h5,h6⟩:=hr
   have ih:=ZvY (c:=c) (p:=p) h5 h6 (by simpa using hl) (by cases c<;>exact h.2)
   refine⟨?_,ih⟩
   have hv:EBx (bif c then x else y) q:=by cases c<;>exact h.1
   split
   · rename_i hxy
     have hxy:x.length=y.length:=by simpa using hxy
     rcases hv with hv|hv
     · cases c
       · simp only[cond_false] at hv
         subst hv
         have:x=[]:=List.eq_nil_of_length_eq_zero hxy
         subst this;exact .inl rfl
       · simp only[cond_true] at hv
         subst hv
         have:y=[]:=List.eq_nil_of_length_eq_zero hxy.symm
         subst this;exact .inl rfl
     · exact .inr (Zve h3 h4 hxy hv)
   · exact .inl rfl
theorem ZFY{c:Bool}{b x y z:DS}{s:PS}(hx:ChgS b x)(hy:ChgS b y)(h:ZEr c x y=some z)(hs:ES (bif c then x else y) s):ES z s:=by
 unfold ZEr at h
 split at h
 · rename_i hl
   simp only[Bool.and_eq_true,beq_iff_eq] at hl
   simp only[Option.some.injEq] at h
   subst h
   exact⟨Zve hx.sl hy.sl hl.1.1 (by cases c<;>exact hs.sl),ZvY hx.bx hy.bx hl.1.2 (by cases c<;>exact hs.bx),ZvY hx.hp hy.hp hl.2 (by cases c<;>exact hs.hp)⟩
 · cases h
theorem ZkU{c:Bool}:∀ {b x y:List DC},Chg b x→Chg b y→Chg b (ZyD c x y)
 |b,[],_,_,_=>by cases b<;>trivial
 |b,_::_,[],_,_=>by cases b<;>trivial
 |[],x::a,y::e,h,h'=>⟨by simp[ZG7,h.1],ZkU h.2 h'.2⟩
 | b::_,x::a,y::e,h,h'=>by
   refine⟨?_,ZkU h.2 h'.2⟩
   unfold ZG7
   split
   · exact .inl rfl
   · exact h.1
theorem ZmY{c:Bool}:∀ {b x y:List (List DC)},ChgB b x→ChgB b y→ChgB b (ZyM c x y)
 |b,[],_,_,_=>by cases b<;>trivial
 |b,_::_,[],_,_=>by cases b<;>trivial
 | [],x::a,y::e,h,h'=>by
   refine⟨?_,ZmY h.2 h'.2⟩
   split
   · exact ZkU h.1 h'.1
   · trivial
 | b::_,x::a,y::e,h,h'=>by
   refine⟨?_,ZmY h.2 h'.2⟩
   split
   · exact ZkU h.1 h'.1
   · cases b<;>trivial
theorem ZCg{c:Bool}{b x y z:DS}(hx:ChgS b x)(hy:ChgS b y)(h:ZEr c x y=some z):ChgS b z:=by
 unfold ZEr at h
 split at h
 · simp only[Option.some.injEq] at h
   subst h
   exact⟨ZkU hx.sl hy.sl,ZmY hx.bx hy.bx,ZmY hx.hp hy.hp⟩
 · cases h
theorem PX.land_den:∀ (a b:PX),(a.land b).den↔a.den∧b.den
 |.tt,b=>by simp[PX.land,PX.den]
 |.ff,b=>by simp[PX.land,PX.den]
 |.p h,b=>by cases b<;>simp[PX.land,PX.den]
 |.and x y,b=>by cases b<;>simp[PX.land,PX.den]
 |.ite c x y,b=>by cases b<;>simp[PX.land,PX.den]
theorem PX.if_den(c:Bool)(a b:PX):(PX.if' c a b).den↔(c=true→a.den)∧(c=false→b.den):=by
 cases a<;>cases b<;>simp[PX.if',PX.den]
def AExit.isN:AExit→Bool
 |.normal=>true
 |_=>false
def DT.lf:DT→Option (AExit×DS)
 |.leaf e st=>some (e,st)
 |.node c a b=>(match c with|true=>a.lf|false=>b.lf)
 |.chk _ t=>t.lf
 |.bad=>none
def DT.All(P:DS→Prop):DT→Prop
 |.leaf _ st=>P st
 |.node _ a b=>a.All P∧b.All P
 |.chk _ t=>t.All P
 |.bad=>True
theorem DT.All.imp{P Q:DS→Prop}(h:∀ st,P st→Q st):∀ {t:DT},t.All P→t.All Q
 |.leaf _ _,a=>h _ a
 |.node _ _ _,a=>⟨DT.All.imp h a.1,DT.All.imp h a.2⟩
 |.chk _ t,a=>DT.All.imp h (t:=t) a
 |.bad,_=>trivial
theorem DT.ok_lf:∀ {t:DT},t.ok.den→∃ e st,t.lf=some (e,st)
 |.leaf e st,_=>⟨e,st,rfl⟩
 | .node c a b,h=>by
   have h:=(PX.if_den c a.ok b.ok).mp h
   cases c
   · exact DT.ok_lf (t:=b) (h.2 rfl)
   · exact DT.ok_lf (t:=a) (h.1 rfl)
 |.chk g t,h=>DT.ok_lf (t:=t) ((PX.land_den g t.ok).mp h).2
 |.bad,h=>h.elim
theorem DT.All.lf{P:DS→Prop}:∀ {t:DT} {e:AExit} {st:DS},t.All P→t.lf=some (e,st)→P st
 |.leaf e st,_,_,h,hl=>by simp only[DT.lf,Option.some.injEq,Prod.mk.injEq] at hl;obtain⟨_,rfl⟩:=hl;exact h
 | .node c a b,_,_,h,hl=>by
   cases c
   · exact DT.All.lf (t:=b) h.2 hl
   · exact DT.All.lf (t:=a) h.1 hl
 |.chk g t,_,_,h,hl=>DT.All.lf (t:=t) h hl
 |.bad,_,_,_,hl=>by cases hl
theorem DT.norm_chg{b:DS}:∀ {t:DT} {m:DS},t.All (ChgS b)→t.norm= .some m→ChgS b m
 | .leaf e st,m,h,hn=>by
   cases e<;>simp only[DT.norm,reduceCtorEq,NS.some.injEq] at hn
   subst hn;exact h
 | .node c x y,m,h,hn=>by
   simp only[DT.norm] at hn
   cases h1:x.norm with
   |none=>rw[h1] at hn;exact DT.norm_chg h.2 hn
   | fail=>
     rw[h1] at hn
     cases h2:y.norm<;>rw[h2] at hn<;>cases hn
   | some a=>
     rw[h1] at hn
     cases h2:y.norm with
     |none=>rw[h2] at hn;exact DT.norm_chg h.1 (h1.trans hn)
     |fail=>rw[h2] at hn;cases hn
     | some e=>
       rw[h2] at hn
       simp only at hn
       cases h3:ZEr c a e with
       |none=>rw[h3] at hn;cases hn
       | some z=>
         rw[h3] at hn
         simp only[NS.some.injEq] at hn
         subst hn
         exact ZCg (DT.norm_chg h.1 h1) (DT.norm_chg h.2 h2) h3
 |.chk g t,m,h,hn=>DT.norm_chg (t:=t) h hn
 |.bad,m,h,hn=>by cases hn
theorem DT.norm_none:∀ {t:DT} {e:AExit} {st:DS},t.norm= .none→t.lf=some (e,st)→e.isN=false
 | .leaf e st,_,_,hn,hl=>by
   simp only[DT.lf,Option.some.injEq,Prod.mk.injEq] at hl
   obtain⟨rfl,_⟩:=hl
   cases e<;>first|rfl|cases hn
 | .node c x y,e,st,hn,hl=>by
   simp only[DT.norm] at hn
   have hxy:x.norm= .none∧y.norm= .none:=by
    cases h1:x.norm<;>rw[h1] at hn<;>cases h2:y.norm<;>rw[h2] at hn<;>first|exact⟨rfl,rfl⟩|(cases hn;done)|(simp only at hn;split at hn<;>cases hn)
   cases c
   · exact DT.norm_none hxy.2 hl
   · exact DT.norm_none hxy.1 hl
 |.chk g t,_,_,hn,hl=>DT.norm_none (t:=t) hn hl
 |.bad,_,_,_,hl=>by cases hl
theorem DT.norm_s{b:DS}:∀ {t:DT} {m st:DS} {s:PS},t.All (ChgS b)→t.norm= .some m→t.lf=some (.normal,st)→ES st s→ES m s
 | .leaf e st0,m,st,s,h,hn,hl,hs=>by
   simp only[DT.lf,Option.some.injEq,Prod.mk.injEq] at hl
   obtain⟨rfl,rfl⟩:=hl
   simp only[DT.norm,NS.some.injEq] at hn
   subst hn;exact hs
 | .node c x y,m,st,s,h,hn,hl,hs=>by
   simp only[DT.norm] at hn
   cases h1:x.norm with
   | none=>
     rw[h1] at hn
     cases c with
     |true=>have:=DT.norm_none h1 hl;cases this
     |false=>exact DT.norm_s h.2 hn hl hs
   | fail=>
     rw[h1] at hn
     cases h2:y.norm<;>rw[h2] at hn<;>cases hn
   | some a=>
     rw[h1] at hn
     cases h2:y.norm with
     | none=>
       rw[h2] at hn
       cases c with
       |true=>exact DT.norm_s h.1 (h1.trans hn) hl hs
       |false=>have:=DT.norm_none h2 hl;cases this
     |fail=>rw[h2] at hn;cases hn
     | some e=>
       rw[h2] at hn
       simp only at hn
       cases h3:ZEr c a e with
       |none=>rw[h3] at hn;cases hn
       | some z=>
         rw[h3] at hn
         simp only[NS.some.injEq] at hn
         subst hn
         refine ZFY (DT.norm_chg h.1 h1) (DT.norm_chg h.2 h2) h3 ?_
         cases c with
         |true=>exact DT.norm_s h.1 h1 hl hs
         |false=>exact DT.norm_s h.2 h2 hl hs
 |.chk g t,m,st,s,h,hn,hl,hs=>DT.norm_s (t:=t) h hn hl hs
 |.bad,m,st,s,h,hn,hl,hs=>by cases hl
theorem DT.cont_s:∀ {t:DT} {b:BX} {e:AExit} {st:DS},t.cont=some b→t.lf=some (e,st)→b.b=e.isN
 | .leaf e st0,b,e',st,hc,hl=>by
   simp only[DT.lf,Option.some.injEq,Prod.mk.injEq] at hl
   obtain⟨rfl,_⟩:=hl
   cases e<;>simp only[DT.cont,Option.some.injEq] at hc<;>subst hc<;>rfl
 | .node c x y,b,e,st,hc,hl=>by
   have hno:∀ {t:DT},t.cont=none→t.lf=none:=by
    intro t
    induction t with
    |leaf e st=>intro h;cases e<;>cases h
    | node c x y ih1 ih2=>
      intro h
      simp only[DT.cont] at h
      cases h1:x.cont<;>rw[h1] at h<;>cases h2:y.cont<;>rw[h2] at h<;>first|(cases h;done)|skip
      cases c
      · exact ih2 h2
      · exact ih1 h1
    |chk g t ih=>intro h;exact ih h
    |bad=>intro _;rfl
   simp only[DT.cont] at hc
   cases h1:x.cont with
   | none=>
     rw[h1] at hc
     cases c with
     |true=>simp only[DT.lf,hno h1] at hl;cases hl
     |false=>exact DT.cont_s hc hl
   | some p=>
     rw[h1] at hc
     cases h2:y.cont with
     | none=>
       rw[h2] at hc
       cases c with
       |true=>exact DT.cont_s (h1.trans hc) hl
       |false=>simp only[DT.lf,hno h2] at hl;cases hl
     | some q=>
       rw[h2] at hc
       simp only[Option.some.injEq] at hc
       subst hc
       rw[ZDO]
       cases c with
       |true=>exact DT.cont_s h1 hl
       |false=>exact DT.cont_s h2 hl
 |.chk g t,b,e,st,hc,hl=>DT.cont_s (t:=t) hc hl
 |.bad,b,e,st,hc,hl=>by cases hl
theorem DT.cont_none:∀ {t:DT},t.cont=none→t.lf=none
 |.leaf e st,h=>by cases e<;>cases h
 | .node c x y,h=>by
   simp only[DT.cont] at h
   cases h1:x.cont<;>rw[h1] at h<;>cases h2:y.cont<;>rw[h2] at h<;>first|(cases h;done)|skip
   cases c
   · exact DT.cont_none (t:=y) h2
   · exact DT.cont_none (t:=x) h1
 |.chk g t,h=>DT.cont_none (t:=t) h
 |.bad,_=>rfl
theorem DT.drop_lf:∀ {t:DT} {e:AExit} {st:DS},t.lf=some (e,st)→e.isN=false→t.drop.lf=some (e,st)
 | .leaf e st0,e',st,hl,he=>by
   simp only[DT.lf,Option.some.injEq,Prod.mk.injEq] at hl
   obtain⟨rfl,rfl⟩:=hl
   cases e<;>first|rfl|cases he
 | .node c x y,e,st,hl,he=>by
   have hnb:∀ a b:DT,(DT.nodeB c a b).lf=some (e,st)∨(match c with|true=>a.lf|false=>b.lf)≠some (e,st):=by
    intro a b
    cases c with
    | true=>
      cases ha:a with
      |bad=>right;simp[DT.lf]
      | _ =>
        rw[← ha]
        by_cases h:a.lf=some (e,st)
        · left
          cases hb:b<;>rw[ha] at h ⊢<;>exact h
        · right;exact h
    | false=>
      cases hb:b with
      |bad=>right;simp[DT.lf]
      | _ =>
        rw[← hb]
        by_cases h:b.lf=some (e,st)
        · left
          cases ha:a<;>rw[hb] at h ⊢<;>exact h
        · right;exact h
   simp only[DT.drop]
   rcases hnb x.drop y.drop with h|h
   · exact h
   · exfalso;apply h
     cases c with
     |true=>exact DT.drop_lf (t:=x) hl he
     |false=>exact DT.drop_lf (t:=y) hl he
 |.chk g t,e,st,hl,he=>DT.drop_lf (t:=t) hl he
 |.bad,e,st,hl,he=>by cases hl
theorem DT.drop_all{P:DS→Prop}:∀ {t:DT},t.All P→t.drop.All P
 |.leaf e st,h=>by cases e<;>first|trivial|exact h
 | .node c x y,h=>by
   have h1:=DT.drop_all h.1
   have h2:=DT.drop_all h.2
   simp only[DT.drop]
   cases hx:x.drop<;>cases hy:y.drop<;>rw[hx] at h1<;>rw[hy] at h2<;>first|trivial|exact h1|exact h2|exact⟨h1,h2⟩
 |.chk g t,h=>DT.drop_all (t:=t) h
 |.bad,_=>trivial
theorem DT.map_lf(f:DS→DS):∀ (t:DT),(t.map f).lf=t.lf.map fun x=>(x.1,f x.2)
 |.leaf _ _=>rfl
 | .node c a b=>by
   cases c
   · exact DT.map_lf f b
   · exact DT.map_lf f a
 |.chk _ t=>DT.map_lf f t
 |.bad=>rfl
theorem DT.map_ok(f:DS→DS):∀ (t:DT),(t.map f).ok=t.ok
 |.leaf _ _=>rfl
 |.node c a b=>by simp only[DT.map,DT.ok,DT.map_ok f a,DT.map_ok f b]
 |.chk _ t=>by simp only[DT.map,DT.ok,DT.map_ok f t]
 |.bad=>rfl
theorem DT.map_all{P Q:DS→Prop}{f:DS→DS}(h:∀ st,P st→Q (f st)):∀ {t:DT},t.All P→(t.map f).All Q
 |.leaf _ _,a=>h _ a
 |.node _ _ _,a=>⟨DT.map_all h a.1,DT.map_all h a.2⟩
 |.chk _ t,a=>DT.map_all h (t:=t) a
 |.bad,_=>trivial
theorem DT.unexit_ok(i:Nat):∀ (t:DT),(t.unexit i).ok=t.ok
 | .leaf e st=>by
   cases e<;>first|rfl|skip
   simp only[DT.unexit];split<;>rfl
 |.node c a b=>by simp only[DT.unexit,DT.ok,DT.unexit_ok i a,DT.unexit_ok i b]
 |.chk _ t=>by simp only[DT.unexit,DT.ok,DT.unexit_ok i t]
 |.bad=>rfl
def AExit.un(i:Nat):AExit→AExit
 |.exit j=>if j=i then .normal else .exit j
 |e=>e
theorem DT.unexit_lf(i:Nat):∀ (t:DT),(t.unexit i).lf=t.lf.map fun x=>(x.1.un i,x.2)
 | .leaf e st=>by
   cases e<;>first|rfl|skip
   rename_i j
   simp only[DT.unexit,DT.lf,Option.map_some,AExit.un]
   by_cases h:j=i
   · rw[if_pos (by simpa using h),if_pos h];rfl
   · rw[if_neg (by simpa using h),if_neg h];rfl
 | .node c a b=>by
   cases c
   · exact DT.unexit_lf i b
   · exact DT.unexit_lf i a
 |.chk _ t=>DT.unexit_lf i t
 |.bad=>rfl
theorem DT.unexit_all{P:DS→Prop}(i:Nat):∀ {t:DT},t.All P→(t.unexit i).All P
 | .leaf e st,a=>by
   cases e<;>first|exact a|skip
   simp only[DT.unexit];split<;>exact a
 |.node _ _ _,a=>⟨DT.unexit_all i a.1,DT.unexit_all i a.2⟩
 |.chk _ t,a=>DT.unexit_all i (t:=t) a
 |.bad,_=>trivial
theorem DT.chk_ok(g:PX)(t:DT):(DT.chk' g t).ok.den↔g.den∧t.ok.den:=by
 cases g<;>simp only[DT.chk',DT.ok,PX.land_den,PX.den,true_and]
theorem DT.chk_lf(g:PX)(t:DT):(DT.chk' g t).lf=t.lf:=by cases g<;>rfl
theorem DT.chk_all{P:DS→Prop}(g:PX){t:DT}(h:t.All P):(DT.chk' g t).All P:=by cases g<;>exact h
theorem DT.bind_s{f:DS→DT}{h:DS→DS}:∀ {t:DT} {e:AExit} {st:DS},(t.bind f h).ok.den→(t.bind f h).lf=some (e,st) →
 t.ok.den∧((∃ st0,t.lf=some (.normal,st0)∧(f st0).ok.den∧(f st0).lf=some (e,st))∨(e.isN=false∧∃ st0,t.lf=some (e,st0)∧st=h st0))
 | .leaf e0 st0,e,st,ho,hl=>by
   cases e0 with
   |normal=>exact⟨trivial,.inl ⟨st0,rfl,ho,hl⟩⟩
   | ret=>
     simp only[DT.bind,DT.lf,Option.some.injEq,Prod.mk.injEq] at hl
     obtain⟨rfl,rfl⟩:=hl
     exact⟨trivial,.inr ⟨rfl,st0,rfl,rfl⟩⟩
   | exit i=>
     simp only[DT.bind,DT.lf,Option.some.injEq,Prod.mk.injEq] at hl
     obtain⟨rfl,rfl⟩:=hl
     exact⟨trivial,.inr ⟨rfl,st0,rfl,rfl⟩⟩
 | .node c a b,e,st,ho,hl=>by
   have ho:=(PX.if_den c _ _).mp ho
   cases c with
   | true=>
     obtain⟨h1,h2⟩:=DT.bind_s (t:=a) (ho.1 rfl) hl
     exact⟨(PX.if_den _ _ _).mpr ⟨fun _=>h1,fun h=>by cases h⟩,h2⟩
   | false=>
     obtain⟨h1,h2⟩:=DT.bind_s (t:=b) (ho.2 rfl) hl
     exact⟨(PX.if_den _ _ _).mpr ⟨fun h=>(by cases h),fun _=>h1⟩,h2⟩
 | .chk g t,e,st,ho,hl=>by
   have ho:=(PX.land_den g _).mp ho
   obtain⟨h1,h2⟩:=DT.bind_s (t:=t) ho.2 hl
   exact⟨(PX.land_den _ _).mpr ⟨ho.1,h1⟩,h2⟩
 |.bad,e,st,ho,hl=>ho.elim
theorem DT.bind_all{P Q:DS→Prop}{f:DS→DT}{h:DS→DS}(hf:∀ st,P st→(f st).All Q)(hh:∀ st,P st→Q (h st)):∀ {t:DT},t.All P→(t.bind f h).All Q
 |.leaf e st,a=>by cases e<;>first|exact hf _ a|exact hh _ a
 |.node _ _ _,a=>⟨DT.bind_all hf hh a.1,DT.bind_all hf hh a.2⟩
 |.chk _ t,a=>DT.bind_all hf hh (t:=t) a
 |.bad,_=>trivial
theorem DT.then_s{b:DS}{f:DS→DT}{h:DS→DS}{t:DT}{e:AExit}{st:DS}(hb:t.All (ChgS b))(ho:(t.then f h).ok.den)(hl:(t.then f h).lf=some (e,st)) :
 t.ok.den∧((∃ st0 m,t.lf=some (.normal,st0)∧(∀ s,ES st0 s→ES m s)∧ChgS b m∧(f m).ok.den∧(f m).lf=some (e,st))∨(e.isN=false∧∃ st0,t.lf=some (e,st0)∧st=h st0)):=by
 have viaBind:(t.bind f h).ok.den→(t.bind f h).lf=some (e,st)→t.ok.den∧((∃ st0 m,t.lf=some (.normal,st0)∧(∀ s,ES st0 s→ES m s)∧ChgS b m∧(f m).ok.den∧(f m).lf=some (e,st))∨(e.isN=false∧∃ st0,t.lf=some (e,st0)∧st=h st0)):=fun ho hl=>by
  obtain⟨h1,h2⟩:=DT.bind_s ho hl
  refine⟨h1,h2.imp ?_ id⟩
  rintro⟨st0,h3,h4,h5⟩
  exact⟨st0,st0,h3,fun _ h=>h,hb.lf h3,h4,h5⟩
 unfold DT.then at ho hl
 split at ho
 · rename_i hn
   rw[if_pos hn] at hl
   exact viaBind ho hl
 · rename_i hn
   rw[if_neg hn] at hl
   cases hm:t.norm with
   |none=>rw[hm] at ho hl;exact viaBind ho hl
   |fail=>rw[hm] at ho hl;exact viaBind ho hl
   | some m=>
     rw[hm] at ho hl
     simp only[DT.chk_ok,DT.chk_lf] at ho hl
     obtain⟨ho1,ho2⟩:=ho
     refine⟨ho1,?_⟩
     obtain⟨e0,st0,h0⟩:=DT.ok_lf ho1
     have nrm:e0.isN=true→(f m).ok.den→(f m).lf=some (e,st)→((∃ st0 m,t.lf=some (.normal,st0)∧(∀ s,ES st0 s→ES m s)∧ChgS b m∧(f m).ok.den∧(f m).lf=some (e,st))∨(e.isN=false∧∃ st0,t.lf=some (e,st0)∧st=h st0)):=fun he h1 h2=>by
      have he:e0= .normal:=by cases e0<;>first|rfl|cases he
      subst he
      exact .inl ⟨st0,m,h0,fun s hs=>DT.norm_s hb hm h0 hs,DT.norm_chg hb hm,h1,h2⟩
     cases hc:t.cont with
     |none=>rw[hc] at ho2;exact ho2.elim
     | some c=>
       have hcs:=DT.cont_s hc h0
       cases c with
       | lit c=>
         cases c with
         |false=>rw[hc] at ho2;exact ho2.elim
         | true=>
           rw[hc] at ho2 hl
           exact nrm hcs.symm ho2 hl
       | dyn c=>
         rw[hc] at ho2 hl
         simp only[BX.b] at hcs
         subst hcs
         have ho2:=(PX.if_den _ _ _).mp ho2
         cases he:e0.isN with
         | true=>
           rw[he] at hl
           exact nrm he (ho2.1 he) hl
         | false=>
           rw[he] at hl
           simp only[DT.lf,DT.map_lf,DT.drop_lf h0 he,Option.map_some,Option.some.injEq,Prod.mk.injEq] at hl
           obtain⟨rfl,rfl⟩:=hl
           exact .inr ⟨he,st0,h0,rfl⟩
theorem DT.then_all{b:DS}{Q:DS→Prop}{f:DS→DT}{h:DS→DS}{t:DT}(hb:t.All (ChgS b))(hf:∀ st,ChgS b st→(f st).All Q)(hh:∀ st,ChgS b st→Q (h st)):(t.then f h).All Q:=by
 unfold DT.then
 split
 · exact DT.bind_all hf hh hb
 · cases hm:t.norm with
   |none=>exact DT.bind_all hf hh hb
   |fail=>exact DT.bind_all hf hh hb
   | some m=>
     have h1:=hf m (DT.norm_chg hb hm)
     refine DT.chk_all _ ?_
     cases hc:t.cont with
     |none=>trivial
     | some c=>
       cases c with
       |lit c=>cases c<;>first|trivial|exact h1
       |dyn c=>exact⟨h1,DT.map_all hh (DT.drop_all hb)⟩
theorem Zzk(v:DV):v.enc.isAgg=v.isAgg:=by cases v<;>rfl
theorem Zy9{v:DV}(h:v.flatc=true):v.enc.flatc=true∧∀ q es,v.enc≠.sl q es:=by cases v<;>first|(cases h;done)|exact⟨rfl,fun _ _ h=>(by cases h)⟩
theorem ZzK{s:PS}{hd:Hd}{c:Nat}{v:PV}{os as:List PV}(h:v.flatc=true)(hr:ZBG s hd (c+1) os as):ZBG s hd c (v::os) (v::as):=by
 cases v<;>first|exact⟨rfl,h,hr⟩|(cases h;done)
theorem Zr7{d:DS}{s:PS}(hs:ES d s){hd:Hd}:∀ (vs:List DV) (c:Nat) {g:PX} {os:List DV},Zxx d hd c vs=some (g,os)→g.den→ZBG s hd c (DV.encL os) (DV.encL vs)
 | [],c,g,os,h,_=>by
   simp only[Zxx,Option.some.injEq,Prod.mk.injEq] at h
   rw[← h.2];trivial
 | v :: vs,c,g,os,h,hg=>by
   have flat:v.flatc=true→(match Zxx d hd (c+1) vs with|some (g,os)=>some (g,v::os)|none=>none)=some (g,os)→ZBG s hd c (DV.encL os) (DV.encL (v::vs)):=by
    intro hf h
    cases h1:Zxx d hd (c+1) vs with
    |none=>rw[h1] at h;cases h
    | some r=>
      obtain⟨g1,os1⟩:=r
      rw[h1] at h
      simp only[Option.some.injEq,Prod.mk.injEq] at h
      obtain⟨rfl,rfl⟩:=h
      exact ZzK (Zy9 hf).1 (Zr7 hs vs (c+1) h1 hg)
   have flat':(if v.flatc=true then (match Zxx d hd (c+1) vs with|some (g,os)=>some (g,v::os)|none=>none) else none)=some (g,os)→ZBG s hd c (DV.encL os) (DV.encL (v::vs)):=by
    intro h
    split at h
    · exact flat (by assumption) h
    · cases h
   cases v with
   | sl q r l=>
     simp only[Zxx] at h
     split at h
     · rename_i hq
       have hq:q= .bor hd [c] true:=by simpa [qeq] using hq
       subst hq
       cases h1:Zxx d hd (c+1) vs with
       |none=>rw[h1] at h;split at h<;>simp_all
       | some r=>
         obtain⟨g1,os1⟩:=r
         rw[h1] at h
         have hk:Zfg d hd [c]≠.any:=by intro e;rw[e] at h;cases h
         have ek:=Zg1 hs hd [c] hk
         split at h
         · rename_i r' l' g2 os2 e1 e2
           simp only[Option.some.injEq,Prod.mk.injEq] at h e2
           obtain⟨rfl,rfl⟩:=h
           obtain⟨rfl,rfl⟩:=e2
           have hg:=(PX.land_den _ _).mp hg
           have hl:l.length=l'.length:=hg.1
           refine⟨rfl,by rw[ek,e1];rfl,⟨_,rfl,?_⟩,Zr7 hs vs (c+1) h1 hg.2⟩
           rw[List.length_map,List.length_map];exact hl
         · rename_i g2 os2 e1 e2
           simp only[Option.some.injEq,Prod.mk.injEq] at h e2
           obtain⟨rfl,rfl⟩:=h
           obtain⟨rfl,rfl⟩:=e2
           have hg:=(PX.land_den _ _).mp hg
           have hl:l.length=0:=hg.1
           refine⟨rfl,by rw[ek,e1];rfl,⟨_,rfl,?_⟩,Zr7 hs vs (c+1) h1 hg.2⟩
           rw[List.length_map];exact hl
         · cases h
     · cases h
   | nil q =>
     simp only[Zxx] at h
     split at h
     · rename_i hq
       have hq:q= .bor hd [c] true:=by simpa [qeq] using hq
       subst hq
       cases h1:Zxx d hd (c+1) vs with
       |none=>rw[h1] at h;split at h<;>simp_all
       | some r=>
         obtain⟨g1,os1⟩:=r
         rw[h1] at h
         have hk:Zfg d hd [c]≠.any:=by intro e;rw[e] at h;cases h
         have ek:=Zg1 hs hd [c] hk
         split at h
         · rename_i r' l' g2 os2 e1 e2
           simp only[Option.some.injEq,Prod.mk.injEq] at h e2
           obtain⟨rfl,rfl⟩:=h
           obtain⟨rfl,rfl⟩:=e2
           have hg:=(PX.land_den _ _).mp hg
           have hl:l'.length=0:=hg.1
           refine⟨rfl,by rw[ek,e1];rfl,⟨_,rfl,?_⟩,Zr7 hs vs (c+1) h1 hg.2⟩
           rw[List.length_map];exact hl.symm
         · rename_i g2 os2 e1 e2
           simp only[Option.some.injEq,Prod.mk.injEq] at h e2
           obtain⟨rfl,rfl⟩:=h
           obtain⟨rfl,rfl⟩:=e2
           exact⟨rfl,by rw[ek,e1];rfl,⟨_,rfl,rfl⟩,Zr7 hs vs (c+1) h1 hg⟩
         · cases h
     · cases h
   |_=>exact flat' h
def DV.flag:List DV→Prop
 |[]=>True
 |.sl q _ _::r=>q= .own∧DV.flag r
 |_::r=>DV.flag r
theorem Zv7:∀ (r:RT) (x:r.D),DV.flag (r.dv .own x)
 |.one t,x=>by cases t<;>first|trivial|exact⟨rfl,trivial⟩
 |.cons t r,x=>by cases t<;>first|exact⟨rfl,Zv7 r x.2⟩|exact Zv7 r x.2
theorem ZAQ{hd:Hd}{D':DS}{K:PS→Prop}(hK:∀ s',ES D' s'→K s'):∀ (vs:List DV) (c:Nat) {d:DS} {s:PS},ES d s→ZAV hd c vs d=some D'→DV.flag vs→ZFf hd c (DV.encL vs) K s
 | [],c,d,s,hs,h,_=>by
   simp only[ZAV,Option.some.injEq] at h
   subst h;exact hK _ hs
 | v :: vs,c,d,s,hs,h,hf=>by
   cases v with
   | sl q r l=>
     simp only[ZAV] at h
     have hk:Zfg d hd [c]≠.any:=by intro e;rw[e] at h;cases h
     have ek:=Zg1 hs hd [c] hk
     have hn:ZAV hd (c+1) vs (Znv d (.sl q r l) hd [c])=some D'∧∃ es0,Zo8 s hd [c]= .sl .own es0:=by
      split at h
      · rename_i e1;exact⟨h,_,by rw[ek,e1];rfl⟩
      · rename_i e1;exact⟨h,_,by rw[ek,e1];rfl⟩
      · cases h
     obtain⟨rfl,hf⟩:=hf
     exact⟨hn.2,ZAQ hK vs (c+1) (ZgE hs hd [c] (.sl .own r l) hk) hn.1 hf⟩
   |nil q=>cases h
   |_=>exact ZAQ hK vs (c+1) hs h hf
theorem Zv1:∀ (r:RT) (x y:r.D),ZDY (RT.enc r x) (RT.enc r y)
 |.one t,x,y=>by cases t<;>first|exact⟨⟨_,rfl⟩,trivial⟩|exact⟨fun _ _ h=>(by cases h),trivial⟩
 |.cons t r,x,y=>by cases t<;>first|exact⟨⟨_,rfl⟩,Zv1 r x.2 y.2⟩|exact⟨fun _ _ h=>(by cases h),Zv1 r x.2 y.2⟩
theorem ZwP:∀ {vs:List DV} {c:Nat} {hd:Hd} {b:Nat},ZC6 c vs=some (hd,b)→hd.sb=true
 |[],_,_,_,h=>by cases h
 | v :: vs,c,hd,b,h=>by
   unfold ZC6 at h
   split at h
   · cases h
   · split at h
     · rename_i hc
       simp only[Bool.and_eq_true] at hc
       simp only[Option.some.injEq,Prod.mk.injEq] at h
       rw[← h.1];exact hc.2
     · cases h
   · split at h
     · rename_i hc
       simp only[Bool.and_eq_true] at hc
       simp only[Option.some.injEq,Prod.mk.injEq] at h
       rw[← h.1];exact hc.2
     · cases h
   · rename_i h1;cases h1;exact ZwP h
theorem ZEy {d d1:DS}{s:PS}(hs:ES d s){M:DMk}{x y:Opnd}{g:PX}{v:DV}(h:Zu2 M x y d=some (g,v,d1))(hg:g.den){dst:Option Nat}{k:PS→Prop}(hk:∀ s',ES d1 s'→k (s'.put dst v.enc)):ZEI M.P x y dst k s:=by
 unfold Zu2 at h
 split at h
 · rename_i m hm
   split at h
   · rename_i hc
     simp only[Bool.and_eq_true] at hc
     split at h
     · rename_i hd b hh
       split at h
       · rename_i g1 os ho
         split at h
         · rename_i z hz
           split at h
           · rename_i st' hS
             simp only[Option.some.injEq,Prod.mk.injEq] at h
             obtain⟨rfl,rfl,rfl⟩:=h
             have hg:=(PX.land_den _ _).mp hg
             have hy:y.pev s.sl= .fl (.int .i64 m):=by
              have:=y.dev_ev hs
              rw[hm] at this
              exact this.of (by simp)
             have hx:x.pev s.sl=(x.dev d.sl).enc:=(x.dev_ev hs).of (by intro e;rw[e] at hc;cases hc.2)
             refine⟨m,hd,b,M.r.enc z,hy,?_,ZwP hh,?_,?_,⟨z,rfl,hg.2,Zv1 _ _ _,?_⟩⟩
             · rw[hx,Zzk];exact eq_of_beq hc.1
             · rw[hx];exact Zuk _ hc.2
             · rw[hx,ZfT,← Zx0 hz];exact Zr7 hs _ b ho hg.1
             · rw[← Zw6]
               have hP:M.P.vd=M.vd:=rfl
               refine ZAQ (fun s' hs'=>?_) _ b hs hS (Zv7 _ _)
               have h:=hk s' hs'
               rw[hP]
               cases hvd:M.vd with
               |true=>rw[hvd] at h;exact h
               |false=>rw[hvd] at h;exact h
           · cases h
         · cases h
       · cases h
     · cases h
   · cases h
 · cases h
theorem Zpc{hd:Hd}{D':DS}:∀ (vs:List DV) (c:Nat) {d:DS},ZAV hd c vs d=some D'→ChgS d D'
 | [],c,d,h=>by
   simp only[ZAV,Option.some.injEq] at h
   subst h;exact ChgS.refl _
 | v :: vs,c,d,h=>by
   cases v with
   | sl q r l=>
     simp only[ZAV] at h
     split at h
     · exact(ChgS.setK _ _ _ _).trans (Zpc vs _ h)
     · exact(ChgS.setK _ _ _ _).trans (Zpc vs _ h)
     · cases h
   |nil q=>cases h
   |_=>exact Zpc vs _ h
theorem Zza{d d1:DS}{M:DMk}{x y:Opnd}{g:PX}{v:DV}(h:Zu2 M x y d=some (g,v,d1)):ChgS d d1:=by
 unfold Zu2 at h
 repeat' split at h
 all_goals first|(cases h;done)|skip
 all_goals
  simp only[Option.some.injEq,Prod.mk.injEq] at h
  obtain⟨_,_,rfl⟩:=h
  exact Zpc _ _ (by assumption)
end
end Go.Ag
