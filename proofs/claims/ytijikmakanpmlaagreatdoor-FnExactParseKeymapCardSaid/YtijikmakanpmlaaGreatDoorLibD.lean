/- Part 4 of what FnExactParseKeymap needs. No conditions. -/
import Derived.Test.YtijikmakanpmlaaGreatDoorLibC
namespace Go.Ag
set_option linter.unusedSimpArgs false
set_option linter.unusedVariables false
noncomputable section
theorem Mq{v:PV}(h:v.retc=true):v.argc=true:=by
 cases v with
 |sl q es=>rfl
 |ep=>cases h
 |fl x=>exact h
 |ptr=>rfl
 |_=>cases h
theorem rq{cs:List PV}(h:Et cs=true):H6 cs=true:=by
 induction cs with
 |nil=>rfl
 |cons x r ih=>simp only[Et,H6,Ai] at h ⊢;exact⟨Mq h.1,ih h.2⟩
theorem oj{v:PV}(h:v.retok=true):v.argok=true:=by
 cases v with
 |agg cs=>exact rq (cs:=cs) h
 |tup vs=>cases h
 |fl x=>exact Mq (v:=.fl x) h
 |sl q es=>exact Mq (v:=.sl q es) h
 |ep q es j o=>exact Mq (v:=.ep q es j o) h
 |box i o=>exact Mq (v:=.box i o) h
 |ptr i o=>exact Mq (v:=.ptr i o) h
theorem Mx{v:PV}(h:v.retc=true)(hd:Hd):v.bor hd=false:=by
 cases v with
 |sl q es=>cases q<;>first|rfl|(simp[PV.retc,PV.cell] at h)
 |fl=>rfl
 |ptr=>rfl
 |ep=>cases h
 |box=>cases h
 |agg=>cases h
 |tup=>cases h
theorem tD{cs:List PV}(h:Et cs=true)(hd:Hd):PV.borL hd cs=false:=by
 induction cs with
 |nil=>rfl
 |cons x r ih=>simp only[Et,PV.borL,Ai,CK] at h ⊢;exact⟨Mx h.1 hd,ih h.2⟩
theorem bp{v:PV}(h:v.retok=true)(hd:Hd):v.bor hd=false:=by
 cases v with
 |agg cs=>exact tD (cs:=cs) h hd
 |tup vs=>cases h
 |fl x=>exact Mx (v:=.fl x) h hd
 |sl q es=>exact Mx (v:=.sl q es) h hd
 |ep q es j o=>exact Mx (v:=.ep q es j o) h hd
 |box i o=>exact Mx (v:=.box i o) h hd
 |ptr i o=>exact Mx (v:=.ptr i o) h hd
theorem aY{n:Option Nat}{cs:List PV}{v:PV}(e:C8 n cs=some v)(h:Et cs=true):v.retok=true:=by
 cases n with
 |some n=>simp[C8] at e;subst e;exact h
 | none=>
   match cs with
   | [x]=>
     simp[C8] at e;subst e;simp only[Et,Jd] at h
     cases x with
     |agg=>cases h
     |tup=>cases h
     |_=>exact h
   |[]=>simp[C8] at e
   |_::_::_=>simp[C8] at e
section
variable {h0:Ac} {ω0 ω:Nat→W} {ρ ρ':Nat→Nat} {st st' st1:PS} {us us':St} {X X':Ce}
theorem dP (R : RS h0 ω0 ω ρ st us X) (hX0:∀ p,(X 0).1.fcell p= .fl .undef) (hXb:∀ j hd,(X j).1.bor hd=false) {r:ARes} {v:PV} (e:HO st r=some (v,st1)) :
 ∃ u ω',FO us r=some u∧RS h0 ω0 ω' ρ st1 us (Xs X 0 v u)∧v.retok=true:=by
 cases r with
 | tmp t=>
   simp only[HO] at e;split at e
   · rename_i hr;simp only[Ah] at e;obtain⟨ω',R1⟩:=R.take t 0 hX0 (fun j=>hXb j _)
     have hv:(Ev (Aa st.sl t) t st).1=Aa st.sl t:=by
      simp only[Ev];split
      · rw[Ad (by rw[bp hr];simp)]
      · rfl
     rw[hv,e] at R1
     have h1:Aa st.sl t=v:=by rw[← hv,e]
     rw[h1] at R1 hr;refine⟨get us.sl t,ω',?_,R1,hr⟩;have:=gP (oj hr) (by rw[← h1];exact R.sh t) (hd:=.s t) (fun p=>by rw[← h1];exact R.core.rc (.s t) p);simp only[FO,this,AE]
   · cases e
 | cell t n=>
   simp only[HO] at e;split at e
   · rename_i i o hx;have hev:get us.sl t= .box i o:=R.ev_box (x:=.t t) hx;split at e
     · rename_i hc;obtain⟨hle,hret⟩:=hc;simp only[HF,HG,Ab hle,AE,BC] at e;obtain⟨v',e,he⟩:=e;cases he
       have hB:∀ k,Aj (Bz st.bx i (Aq (Aj st.bx i) o (CA (segm (Aj st.bx i) o (n.getD 1))))) k=if k=i then Aq (Aj st.bx i) o (CA (segm (Aj st.bx i) o (n.getD 1))) else Aj st.bx k:=by
        intro k;rw[Hw];by_cases hk:k=i
        · subst hk;rcases Bc k st.bx.length with h|h
          · simp[h]
          · rw[Ad (by omega),Ab rfl]
            have:Aj st.bx k=[]:=by rw[C4,Bm h];rfl
            rw[this];generalize CA (segm [] o (n.getD 1))=q;cases q<;>rfl
        · simp[hk]
       obtain⟨u,ω',h1,h2⟩:=R.loadmv hX0 hXb (st':={ st with sl:=clr (.b i) st.sl,bx:=Bz st.bx i (Aq (Aj st.bx i) o (CA (segm (Aj st.bx i) o (n.getD 1)))) }) (hd:=.b i) (cs:=Aj st.bx i) (ws:=AD us.bx i) (by simp) (by simp)
        (fun p => rfl) (fun p=>by simp only[Af,hB,Ab]) (fun hd' p h h'=>by
         cases hd' with
         |b k=>simp only[Af,hB];rw[Ad (fun h2=>h (by rw[h2]))]
         |s t=>exact absurd rfl (h' t)
         | _ => rfl) rfl (R.lb i).symm hle (R.cb i) (by rw[F7];exact R.lbx) (fun k=>by
           simp only[hB];split
           · rename_i hk;rw[hk,FB];exact R.lb i
           · exact R.lb k) (fun k c=>by
           simp only[hB];split
           · rw[GR _ _ _ _ (by rw[JH,EK hle];exact hle)];split
             · rw[My];split
               · rfl
               · rw[CP];split
                 · exact R.cb i _
                 · rfl
             · exact R.cb i c
           · exact R.cb k c) R.ch rfl (fun _=>rfl) e
       exact⟨u,ω',by simp only[FO,hev];rw[Ab (by rw[← R.lb i];exact hle)];exact h1,h2,aY e hret⟩
     · cases e
   · rename_i i o hx;obtain⟨hev,_⟩:=R.ev_ptr (x:=.t t) hx;simp only[Opnd.ev] at hev;split at e
     · rename_i hc;obtain⟨hi,hle,hret⟩:=hc;have hc':i<st.hp.length∧o+n.getD 1≤(Aj st.hp i).length:=⟨hi,hle⟩;simp only[G0,Ab hc',AE,BC] at e;obtain⟨v',e,he⟩:=e;cases he;obtain⟨b,hb1,hb2,hb3⟩:=R.blk hi;have hlen:(AM us.hp (ρ i)).length=(Aj st.hp i).length:=(R.hp i hi).2
       have hrd:rd us.hp (ρ i) o (n.getD 1)=some (((AM us.hp (ρ i)).drop o).take (n.getD 1)):=by
        simp[rd,hb1,hb2,hb3];rw[← hb3,hlen];exact hle
       have hB:∀ k,Aj (Bz st.hp i (Aq (Aj st.hp i) o (CA (segm (Aj st.hp i) o (n.getD 1))))) k=if k=i then Aq (Aj st.hp i) o (CA (segm (Aj st.hp i) o (n.getD 1))) else Aj st.hp k:=by
        intro k;rw[Hw];simp[hi]
       obtain⟨u,ω',h1,h2⟩:=R.loadmv hX0 hXb (st':={ st with sl:=clr (.h i) st.sl,hp:=Bz st.hp i (Aq (Aj st.hp i) o (CA (segm (Aj st.hp i) o (n.getD 1)))) }) (hd:=.h i) (cs:=Aj st.hp i) (ws:=AM us.hp (ρ i)) (by simp) (by simp)
        (fun p => rfl) (fun p=>by simp only[Af,hB,Ab]) (fun hd' p h h'=>by
         cases hd' with
         |h k=>simp only[Af,hB];rw[Ad (fun h2=>h (by rw[h2]))]
         |s t=>exact absurd rfl (h' t)
         | _ => rfl) rfl hlen hle (R.ch i) R.lbx R.lb R.cb (fun k c=>by
           simp only[hB];split
           · rw[GR _ _ _ _ (by rw[JH,EK hle];exact hle)];split
             · rw[My];split
               · rfl
               · rw[CP];split
                 · exact R.ch i _
                 · rfl
             · exact R.ch i c
           · exact R.ch k c) (by simp[F7]) (fun k=>by
           simp only[hB];split
           · rename_i hk;rw[hk,FB]
           · rfl) e
       exact⟨u,ω',by simp only[FO,hev,hrd,ER,h1],h2,aY e hret⟩
     · cases e
   · cases e
def HX(l:List (PV×V)):Ce:=fun i=>match i with
 |0=>(.fl .undef,.undef)
 |i+1=>l[i]?.getD (.fl .undef,.undef)
theorem fM(l:List (PV×V))(x:PV×V)(i:Nat):HX (l++[x]) i=if i=l.length+1 then x else HX l i:=by
 cases i with
 |zero=>rfl
 | succ i=>
   simp only[HX,Nat.add_right_cancel_iff];by_cases h:i=l.length
   · subst h;simp
   · rw[Ad h];rcases Bc i l.length with h1|h1
     · rw[Bx h1]
     · rw[Bm (by simp;omega),Bm h1]
theorem gv{l:List (PV×V)}(h:∀ x∈l,x.1.retok=true)(j:Nat)(hd:Hd):(HX l j).1.bor hd=false:=by
 cases j with
 |zero=>rfl
 | succ i=>
   simp only[HX]
   cases e:l[i]? with
   |none=>rfl
   |some x=>exact bp (h x (Gf e)) hd
theorem RS.stash{l:List (PV×V)}{v:PV}{u:V}(hl:∀ x∈l,x.1.retok=true)(R:RS h0 ω0 ω ρ st us (Xs (HX l) 0 v u))(hv:v.retok=true):∃ ω',RS h0 ω0 ω' ρ st us (HX (l++[(v,u)])):=by
 refine⟨_,RS.ren (st':=st) (us':=us) (X':=HX (l++[(v,u)])) R (Ren.mv_ok (.x 0) (.x (l.length+1))) (Tz (by simp)) (fun hd' p=>?_) rfl R.sh (fun i=>?_) R.lsl R.lbx R.lb R.cb R.ch rfl (fun _=>rfl)⟩
 · cases hd' with
   | x i =>
     simp only[Af,fM];by_cases hi:i=l.length+1
     · subst hi;simp only[Ab];exact .inl ⟨.x 0,p,rfl,fun _ r=>by simp[Ren.mv],fun hb pb tp e=>absurd e ((Ou hv p).1 hb pb tp)⟩
     · simp only[Ad hi]
       cases i with
       |zero=>exact .inr (CO (AO p))
       | succ i=>
         refine .inl ⟨.x (i+1),p,rfl,fun _ r=>Ren.mv_still (by simp) (by simpa using hi) _,fun hb pb tp e=>?_⟩;exfalso;have:=Dk (gv hl (i+1) hb) e;exact this rfl
   |s t=>exact .inl (AY rfl (fun _=>Ren.mv_still (by simp) (by simp)) fun hb pb tp _ h=>Ren.mv_still (h 0) (h _))
   |b t=>exact .inl (AY rfl (fun _=>Ren.mv_still (by simp) (by simp)) fun hb pb tp _ h=>Ren.mv_still (h 0) (h _))
   |h t=>exact .inl (AY rfl (fun _=>Ren.mv_still (by simp) (by simp)) fun hb pb tp _ h=>Ren.mv_still (h 0) (h _))
 · rw[fM];split
   · exact R.shx 0
   · cases i with
     |zero=>exact AX _
     |succ i=>exact R.shx (i+1)
theorem ZF:∀ (rs:List ARes) {ω:Nat→W} {st st1:PS} {l:List (PV×V)} {vs:List PV},(∀ x∈l,x.1.retok=true)→RS h0 ω0 ω ρ st us (HX l)→HB st rs=some (vs,st1) →
 ∃ ws ω',D0 us rs=some ws∧ws.length=vs.length∧RS h0 ω0 ω' ρ st1 us (HX (l++vs.zip ws))∧∀ v∈vs,v.retok=true
 | [],ω,st,st1,l,vs,hl,R,e=>by
   simp only[HB,Ah,Ak] at e
   obtain⟨rfl,rfl⟩:=e
   exact⟨[],ω,rfl,rfl,by simpa using R,by simp⟩
 | r :: rs,ω,st,st1,l,vs,hl,R,e=>by
   simp only[HB] at e
   cases e1:HO st r with
   |none=>rw[e1] at e;cases e
   | some x=>
     obtain⟨v,s1⟩:=x
     rw[e1] at e
     simp only at e
     cases e2:HB s1 rs with
     |none=>rw[e2] at e;cases e
     | some y=>
       obtain⟨vs',s2⟩:=y
       rw[e2] at e
       cases e
       obtain⟨u,ω1,h1,R1,hv⟩:=dP R (fun p=>AO p) (gv hl) e1
       obtain⟨ω2,R2⟩:=RS.stash hl R1 hv
       obtain⟨ws,ω3,h2,h3,R3,h4⟩:=ZF rs (l:=l++[(v,u)]) (fun x hx=>by
        rcases B6.1 hx with hx|hx
        · exact hl x hx
        · simp at hx;rw[hx];exact hv) R2 e2
       refine⟨u::ws,ω3,by simp only[D0,h1,h2],by simp[h3],by simpa using R3,?_⟩
       simp only[BO]
       rintro x (rfl|hx)
       · exact hv
       · exact h4 x hx
def Ren.tupl:Ren:=fun hd p=>match hd with
 |.x 0=>.frz
 |.x (j+1)=>.own (.x 0) (j::p)
 |hd=>.own hd p
theorem Ren.tupl_ok:Ren.tupl.Ok:=by
 refine⟨fun hd p hd' p' x c e e'=>?_,fun hd p=>?_⟩
 · cases hd with
   | x j => cases j with
     |zero=>cases e
     | succ j=>
       cases e
       cases hd' with
       | x k=>cases k with
         |zero=>cases e'
         |succ k=>simp[Ren.tupl] at e';exact⟨by rw[e'.1],e'.2.symm⟩
       |_=>simp[Ren.tupl] at e'
   | _=>
     cases e
     cases hd' with
     |x k=>cases k<;>simp[Ren.tupl] at e'
     |_=>simp[Ren.tupl] at e';first|exact⟨by rw[e'.1],e'.2.symm⟩|skip
 · cases hd with
   | x j=>cases j with
     |zero=>exact .inl rfl
     |succ j=>exact .inr ⟨_,_,rfl⟩
   |_=>exact .inr ⟨_,_,rfl⟩
theorem Ren.tupl_still{hd:Hd}(h:∀ i,hd≠.x i):Ren.tupl.still hd:=fun p=>by
 cases hd with
 |x i=>exact absurd rfl (h i)
 |_=>rfl
theorem vP(hd:Hd)(p:List Nat)(i:Nat)(q:List Nat)(e:Ren.tupl hd p= .own (.h i) q):hd= .h i:=by
 cases hd with
 |x j=>cases j<;>cases e
 |_=>first|(cases e;done)|(cases e;rfl)
theorem fe{vs:List PV}{ws:List V}(hl:ws.length=vs.length)(i:Nat):HX (vs.zip ws) (i+1)=(Aa vs i,get ws i):=by
 simp only[HX,DX,CJ];rcases Bc i vs.length with h|h
 · have h2:i<ws.length:=by omega
   rw[Ax (by simp;omega),Ax h,Ax h2];simp
 · rw[Bm (by simp;omega),Bm h,Bm (by omega)];rfl
theorem UQ{v:PV}(h:v.retok=true∨v= .fl .undef):∀ vs,v≠.tup vs:=by
 rintro vs rfl;rcases h with h|h<;>cases h
theorem VO{vs:List PV}(h:∀ v∈vs,v.retok=true)(i:Nat):(Aa vs i).retok=true∨Aa vs i= .fl .undef:=by
 rw[DX]
 cases e:vs[i]? with
 |none=>exact .inr rfl
 |some v=>exact .inl (h v (Gf e))
theorem RS.tupl{vs:List PV}{ws:List V}(R:RS h0 ω0 ω ρ st us (HX (vs.zip ws)))(hl:ws.length=vs.length)(hv:∀ v∈vs,v.retok=true):∃ ω',RS h0 ω0 ω' ρ st us (X1 (.tup vs) (.tup ws)):=by
 have hshx:∀ i,AK (Aa vs i) (get ws i):=fun i=>by have:=R.shx (i+1);rw[fe hl] at this;exact this
 refine⟨_,RS.ren (st':=st) (us':=us) (X':=X1 (.tup vs) (.tup ws)) R Ren.tupl_ok vP (fun hd' p=>?_) rfl R.sh (fun i=>?_) R.lsl R.lbx R.lb R.cb R.ch rfl (fun _=>rfl)⟩
 · cases hd' with
   | x i =>
     by_cases hi:i=0
     · subst hi
       match p with
       |[]=>exact .inr (AA rfl)
       |[_]=>exact .inr (AA rfl)
       |_::_::_::_=>exact .inr (AA rfl)
       | [k, c]=>
         have hfx:Af ρ st us (X1 (.tup vs) (.tup ws)) (.x 0) [k,c]=(Aa (Aa vs k).cells c,get (get ws k).cells c):=rfl;rw[hfx];rcases VO hv k with hr|hr
         · have hnt:=UQ (.inl hr)
           have hs:Shp1 (Aa vs k) (get ws k):=by
            have:=hshx k;generalize Aa vs k=w at this hnt
            cases w with
            |tup vs=>exact absurd rfl (hnt _)
            |_=>exact this
           have hne:Aa vs k≠.fl .undef:=by intro h;rw[h] at hr;cases hr
           have e1:=KK hnt c;have e2:=Oh (hs.notup hne) c;refine .inl ⟨.x (k+1),[c],?_,fun _ r=>rfl,fun hb pb tp e=>?_⟩
           · simp only[Af,fe hl];rw[e1,e2]
           · rw[← e1] at e;exact absurd e ((Ou hr [c]).1 hb pb tp)
         · refine .inr (CO ?_);rw[hr];cases c<;>rfl
     · exact .inr (AA (Fj i hi p))
   |s t=>exact .inl (AY rfl (fun _=>Ren.tupl_still (by simp)) fun hb pb tp _ h=>Ren.tupl_still h)
   |b t=>exact .inl (AY rfl (fun _=>Ren.tupl_still (by simp)) fun hb pb tp _ h=>Ren.tupl_still h)
   |h t=>exact .inl (AY rfl (fun _=>Ren.tupl_still (by simp)) fun hb pb tp _ h=>Ren.tupl_still h)
 · by_cases hi:i=0
   · subst hi;refine⟨ws,rfl,hl,fun i=>?_⟩;have hnt:=UQ (VO hv i);have:=hshx i;generalize Aa vs i=w at this hnt
     cases w with
     |tup vs=>exact absurd rfl (hnt _)
     |_=>exact this
   · rw[Db _ _ i hi];exact AX _
theorem oB(R:RS h0 ω0 ω ρ st us X0){rs:List ARes}{v:PV}(e:Lr st rs=some (v,st1)):∃ u ω',D5 us rs=some u∧RS h0 ω0 ω' ρ st1 us (X1 v u)∧v.nob:=by
 have many:(HB st rs).map (fun(vs,st)=>(PV.tup vs,st))=some (v,st1)→(∀ r,rs≠[r])→∃ u ω',D5 us rs=some u∧RS h0 ω0 ω' ρ st1 us (X1 v u)∧v.nob:=by
  intro e hr;simp only[BC] at e;obtain⟨⟨vs,s⟩,e1,e2⟩:=e;cases e2
  have hX:(HX []:Ce)=X0:=by funext i;cases i<;>rfl
  obtain⟨ws,ω1,h1,h2,R1,h3⟩:=ZF rs (l:=[]) (by simp) (by rw[hX];exact R) e1;rw[Cj] at R1;obtain⟨ω2,R2⟩:=R1.tupl h2 h3;refine⟨.tup ws,ω2,?_,R2,fun p hb pb tp e=>?_⟩
  · match rs,hr with
    |[],_=>simp only[D5,h1];rfl
    |[r],hr=>exact absurd rfl (hr r)
    |_::_::_,_=>simp only[D5,h1];rfl
  · match p with
    |[]=>cases e
    |[_]=>cases e
    |_::_::_::_=>cases e
    | [k,c]=>
      have e':(Aa (Aa vs k).cells c).q=some (.bor hb pb tp):=e;rcases VO h3 k with hr|hr
      · rw[← KK (UQ (.inl hr)) c] at e';exact(Ou hr [c]).1 hb pb tp e'
      · rw[hr] at e';cases c<;>cases e'
 match rs,e,many with
 | [r],e,_=>
   obtain⟨u,ω',h1,h2,h3⟩:=dP R (fun p=>AO p) (fun _ _=>rfl) e;exact⟨u,ω',h1,h2,fun p=>(Ou h3 p).1⟩
 |[],e,many=>exact many e (by simp)
 |_::_::_,e,many=>exact many e (by simp)
theorem RS.forget(R:RS h0 ω0 ω ρ st us X):RS h0 ω0 ω ρ ⟨[],[],st.hp⟩ ⟨[],[],us.hp⟩ X:=by
 have:=RS.ren (st':=⟨[],[],st.hp⟩) (us':=⟨[],[],us.hp⟩) (X':=X) R Ren.id_ok (fun hd p i q e=>by simp[Ren.id] at e;exact e.1) (fun hd' p=>?_) rfl (fun t=>AX _) R.shx rfl rfl (fun _=>rfl) (fun _ _=>rfl) R.ch rfl (fun _=>rfl)
 · rwa [CR] at this
 · cases hd' with
   |x i=>exact .inl (AZ rfl)
   |h i=>exact .inl (AZ rfl)
   |s t=>exact .inr (AA (AO p))
   |b t=>refine .inr (AA ?_);simp only[Af,Aj];unfold AP;split<;>rfl
theorem qL(n i:Nat):Aa (HU n) i= .fl .undef:=by
 induction n generalizing i with
 |zero=>rfl
 | succ n ih=>cases i with
   |zero=>rfl
   |succ i=>exact ih i
theorem rF(n:Nat):(HU n).length=n:=by
 induction n with
 |zero=>rfl
 |succ n ih=>simp[HU,ih]
theorem Vd(n i:Nat):Aj (J6 n) i=[]:=by
 induction n generalizing i with
 |zero=>rfl
 | succ n ih=>cases i with
   |zero=>rfl
   |succ i=>exact ih i
theorem q7(n i:Nat):AD (FU n) i=[]:=by
 induction n generalizing i with
 |zero=>rfl
 | succ n ih=>cases i with
   |zero=>rfl
   |succ i=>exact ih i
theorem rn(n:Nat):(J6 n).length=n:=by
 induction n with
 |zero=>rfl
 |succ n ih=>simp[J6,ih]
theorem tK(n:Nat):(FU n).length=n:=by
 induction n with
 |zero=>rfl
 |succ n ih=>simp[FU,ih]
theorem RS.start{args:List PV}{ws:List V}{H:List (List PV)}{h:Ac}(R:RS h0 ω0 ω ρ ⟨args,[],H⟩ ⟨ws,[],h⟩ X0)(n m:Nat):RS h0 ω0 ω ρ ⟨args++HU n,J6 m,H⟩ ⟨ws++FV n,FU m,h⟩ X0:=by
 have hl:args.length=ws.length:=R.lsl
 have sl:∀ t,(t<args.length∧Aa (args++HU n) t=Aa args t∧get (ws++FV n) t=get ws t)∨Aa (args++HU n) t= .fl .undef:=by
  intro t;rcases Bc t args.length with h|h
  · exact .inl ⟨h,Ug _ _ _ h,Y6 _ _ _ (by omega)⟩
  · exact .inr (by rw[T7 _ _ _ h,qL])
 have:=RS.ren (st':=⟨args++HU n,J6 m,H⟩) (us':=⟨ws++FV n,FU m,h⟩) (X':=X0) R Ren.id_ok (fun hd p i q e=>by simp[Ren.id] at e;exact e.1) (fun hd' p=>?_) rfl (fun t=>?_) R.shx (by simp[rF,cg,hl]) (by simp[rn,tK]) (fun i=>by simp[Vd,q7]) (fun i c=>by simp[Vd,Aa,PV.lay]) R.ch rfl (fun _=>rfl)
 · rwa [CR] at this
 · cases hd' with
   |x i=>exact .inl (AZ rfl)
   |h i=>exact .inl (AZ rfl)
   | s t=>
     simp only[Af];rcases sl t with⟨_,h1,h2⟩|h1
     · rw[h1,h2];exact .inl (AZ (hd:=.s t) rfl)
     · rw[h1];exact .inr (CO (AO p))
   |b t=>refine .inr (AA ?_);simp only[Af,Vd];unfold AP;split<;>rfl
 · simp only;rcases sl t with⟨_,h1,h2⟩|h1
   · rw[h1,h2];exact R.sh t
   · rw[h1];exact AX _
theorem VZ{cs:List PV}(h:PV.fltL cs=true)(c:Nat)(hc:c<cs.length):(Aa cs c).flt=true:=by
 induction cs generalizing c with
 |nil=>simp at hc
 | cons x r ih=>
   simp only[PV.fltL,Ai] at h
   cases c with
   |zero=>exact h.1
   |succ c=>exact ih h.2 c (by simpa using hc)
theorem V6{H:Ac}{m:Md}{v:PV}{u:V}(r:RC H ω m v u)(h:v.flt=true):u.flat=true∧v= .fl u:=by
 cases r with
 |undef=>cases h
 |v _ _ hx=>exact⟨hx,rfl⟩
 |nil=>cases h
 |sl=>cases h
 |ep=>cases h
 |box=>cases h
 |ptr=>cases h
theorem bT{H:Ac}{hd:Hd}{p:List Nat}{v:PV}{u:V}(h:v.flt=true)(hs:Shp1 v u)(hr:∀ c,RC H ω (.at hd (p++[c])) (Aa v.cells c) (get u.cells c)):u.flat1=true:=by
 cases v with
 | agg cs=>
   obtain⟨ws,rfl,hl⟩:=hs;simp only[V.flat1,CE];intro w hw;obtain⟨c,hc,rfl⟩:=MY hw;have r:RC H ω (.at hd (p++[c])) (Aa cs c) (get ws c):=hr c;rw[CJ,Ax hc] at r;exact(V6 r (VZ h c (by omega))).1
 |tup vs=>exact hs.elim
 | fl x=>
   have hx:x≠.undef:=by rintro rfl;cases h
   have hu:(∀ us,u≠.agg us)∧∀ us,u≠.tup us:=by cases x<;>first|exact hs|exact absurd rfl hx
   have r:RC H ω (.at hd (p++[0])) (.fl x) (get u.cells 0):=hr 0
   have e:get u.cells 0=u:=by cases u<;>first|rfl|exact absurd rfl (hu.1 _)
   rw[e] at r;have:=(V6 r h).1
   cases u<;>first|exact this|exact absurd rfl (hu.1 _)
 |_=>cases h
theorem qN{v:PV}{u:V}(R:RS h0 ω0 ω ρ st us (X1 v u))(h:v.flt=true):u.flat2=true:=by
 have hs:AK v u:=R.shx 0
 have hr:∀ p,RC us.hp ω (.at (.x 0) p) (v.fcell p) (u.fcell p):=fun p=>R.core.rc (.x 0) p
 have one:(∀ vs,v≠.tup vs)→u.flat2=true:=by
  intro hnt
  have hs1:Shp1 v u:=by cases v<;>first|exact hs|exact absurd rfl (hnt _)
  have hne:v≠.fl .undef:=by rintro rfl;cases h
  have:=bT (p:=[]) h hs1 (fun c=>by have:=hr [c];rw[KK hnt,Oh (hs1.notup hne)] at this;exact this);have hut:=hs1.notup hne
  cases u<;>first|exact this|exact absurd rfl (hut _)
 cases v with
 | tup vs=>
   obtain⟨ws,rfl,hl,h3⟩:=hs;simp only[V.flat2,CE];intro w hw;obtain⟨i,hi,rfl⟩:=MY hw;have hh:=VZ (cs:=vs) h i (by omega);have:=bT (hd:=.x 0) (p:=[i]) hh (h3 i) (fun c=>hr [i,c]);rw[CJ,Ax hi] at this;exact this
 |_=>exact one (by simp)
theorem pk{f:PFun}(ho:AllP f.body.obs):Gi (JS f.er) (MP f):=by
 intro h ω0 ρ args ws H Q K R hloc ⟨hlen,hpu,hb⟩ hK;refine⟨by rw[← R.lsl];exact hlen,?_⟩;have R1:=R.start (f.nslots-f.nparams) f.nbox;have hlen0:h.length≤h.length:=AH _;refine KR f.body ho (k:=iG f.pure f.res Q) (K:=TD f.er h K) (fun e st us ω ρ2 R2 hk=>?_) R1 hb
 have fin:(match Lr st f.res with|some (v,st)=>if f.pure then v.flt=true∧Q v [] else Q v st.hp|none=>False)→(match D5 us f.res with|some v=>if f.pure then v.flat2=true∧us.hp.take h.length=h∧K v h else K v us.hp|none=>False):=by
  intro hk
  cases hp:Lr st f.res with
  |none=>rw[hp] at hk;exact hk.elim
  | some x=>
    obtain⟨v,s1⟩:=x;rw[hp] at hk;simp only at hk;obtain⟨u,ω',h1,R3,hnob⟩:=oB R2 hp;rw[h1];simp only
    cases hpure:f.pure with
    | false=>
      rw[hpure] at hk;simp only[AF,AU] at hk ⊢;exact hK _ _ _ _ _ _ hk R3.forget hnob
    | true=>
      rw[hpure] at hk;simp only[AE] at hk ⊢;have hH:=hpu hpure;subst hH
      have hold:∀ l,l<h.length→us.hp[l]?=h[l]?:=by
       intro l hl;refine(R3.fr.old l hl ?_).1
       cases e:ω0 l with
       |frz=>exact .inl rfl
       |none=>exact .inr rfl
       | own hd p=>
         obtain⟨i,rfl⟩:=hloc l hd p e;have:=R.bdh l i p e;simp at this
       |ptr i=>have:=R.bdp l i e;simp at this
      have hf2:=qN R3 hk.1;refine⟨hf2,?_,?_⟩
      · refine HQ fun l=>?_
        by_cases hl:l<h.length
        · rw[PG hl,hold l hl]
        · rw[Bm (by simp;omega),Bm (by omega)]
      ·
       have hs:AK v u:=R3.shx 0
       have hcell:∀ p,RC h ω0 (.at (.x 0) p) (v.fcell p) (u.fcell p):=by
        intro p;have r:RC us.hp ω' (.at (.x 0) p) (v.fcell p) (u.fcell p):=R3.core.rc (.x 0) p
        have hfc:(v.fcell p).flt=true∨v.fcell p= .fl .undef:=by
         have hL:∀ (cs:List PV) c,PV.fltL cs=true→(Aa cs c).flt=true∨Aa cs c= .fl .undef:=by
          intro cs c h;rcases Bc c cs.length with hc|hc
          · exact .inl (VZ h c hc)
          · exact .inr (Fg _ _ hc)
         have hkf:=hk.1;unfold PV.fcell;split
         · exact hL _ _ hkf
         · exact .inr rfl
         · rename_i vs i c;rcases hL vs i hkf with h|h
           · generalize Aa vs i=w at h
             cases w with
             |agg cs=>exact hL cs c h
             |_=>cases c<;>first|exact .inl h|exact .inr rfl
           · rw[h];cases c<;>exact .inr rfl
         · exact .inr rfl
         · exact .inl hkf
         · exact .inr rfl
        rcases hfc with h|h
        · obtain⟨a,b⟩:=V6 r h;rw[b];exact .v _ _ a
        · rw[h];exact .undef _ _
       have R0:RS h ω0 ω0 ρ ⟨[],[],[]⟩ ⟨[],[],h⟩ X0:=R.forget
       exact hK u h v [] ω0 ρ hk.2 (R0.handx hs hcell (fun p=>by
        intro i pb tp e;exact hnob p _ _ _ e)) hnob
 cases e with
 |normal=>exact fin hk
 |ret=>exact fin hk
 |exit i=>exact hk.elim
end
noncomputable section
def shut.{u}{α:Sort u}(a:α):{x:α // x=a}:=Classical.choice ⟨⟨a,rfl⟩⟩
section
variable {α:Type}
def xC(k:IntKind)(a b:Int):Int:=k.wrap (a+b)
def wY(k:IntKind)(a b:Int):Int:=k.wrap (a-b)
def wQ(k:IntKind)(a b:Int):Int:=k.wrap (a*b)
def xo(k:IntKind)(a b:Int):Int:=k.wrap (a.tdiv b)
def wU(a b:Int):Int:=a.tmod b
def xJ(k:IntKind)(a b:Int):Int:=k.wrap (BitVec.ofInt k.bits a &&& BitVec.ofInt k.bits b).toNat
def xO(k:IntKind)(a b:Int):Int:=k.wrap (BitVec.ofInt k.bits a ||| BitVec.ofInt k.bits b).toNat
def w5(k:IntKind)(a b:Int):Int:=k.wrap (BitVec.ofInt k.bits a ^^^ BitVec.ofInt k.bits b).toNat
def tE(k:IntKind)(a b:Int):Int:=k.wrap (BitVec.ofInt k.bits a &&& ~~~BitVec.ofInt k.bits b).toNat
def w6(k:IntKind)(a b:Int):Int:=k.wrap (a*2^min b.toNat k.bits)
def w8(k:IntKind)(a b:Int):Int:=a.fdiv (2^min b.toNat k.bits)
def xe(k:IntKind)(a:Int):Int:=k.wrap (0-a)
def wy(k:IntKind)(a:Int):Int:=k.wrap a
def xh(a b:Int):Int:=if b<a then b else a
def xk(a b:Int):Int:=if b > a then b else a
def wR(a:Int):Nat:=a.toNat
def xM(a b:Int):Bool:=a == b
def x5(a b:Int):Bool:=a != b
def xP(a b:Int):Bool:=decide (a<b)
def xN(a b:Int):Bool:=decide (a≤b)
def xQ(a b:Int):Bool:=decide (a > b)
def xW(a b:Int):Bool:=decide (a≥b)
def wT(a b:List UInt8):List UInt8:=a++b
def xL(a b:List UInt8):Bool:=a == b
def x4(a b:List UInt8):Bool:=!(a == b)
def xb(s:List UInt8)(j:Int):Int:=(s.getD j.toNat 0).toNat
def xI(s:List UInt8):List Int:=s.map fun b=>((b.toNat:Nat):Int)
def wP(l:List Int):List UInt8:=l.map fun n=>UInt8.ofNat n.toNat
def xl(l:List α):Int:=l.length
def x6(l:List α):Nat:=l.length
def xm(l:List α)(j:Nat)(d:α):α:=l.getD j d
def xE(l:List α)(j:Nat)(x:α):List α:=l.set j x
def wX(l:List α)(a b:Nat):List α:=(l.drop a).take (b-a)
def wz(l:List α)(n:Nat):List α:=l.take n
def xx(l m:List α):List α:=l++m
def xn(n:Int)(x:α):List α:=List.replicate n.toNat x
def xK(a:Bool):Bool:=!a
def xc(a b:Bool):Bool:=a&&b
def xZ(a b:Bool):Bool:=a||b
def xw(a b:Bool):Bool:=a == b
def xH(c:Bool)(x y:α):α:=bif c then x else y
end
structure Leaf where
 iAdd:∀ (k:IntKind) (a b:Int),Int
 iSub:∀ (k:IntKind) (a b:Int),Int
 iMul:∀ (k:IntKind) (a b:Int),Int
 iQuo:∀ (k:IntKind) (a b:Int),Int
 iRem:∀ (a b:Int),Int
 iAnd:∀ (k:IntKind) (a b:Int),Int
 iOr:∀ (k:IntKind) (a b:Int),Int
 iXor:∀ (k:IntKind) (a b:Int),Int
 iAndNot:∀ (k:IntKind) (a b:Int),Int
 iShl:∀ (k:IntKind) (a b:Int),Int
 iShr:∀ (k:IntKind) (a b:Int),Int
 iNeg:∀ (k:IntKind) (a:Int),Int
 iConv:∀ (k:IntKind) (a:Int),Int
 iMin:∀ (a b:Int),Int
 iMax:∀ (a b:Int),Int
 iNat:∀ (a:Int),Nat
 iEq:∀ (a b:Int),Bool
 iNe:∀ (a b:Int),Bool
 iLt:∀ (a b:Int),Bool
 iLe:∀ (a b:Int),Bool
 iGt:∀ (a b:Int),Bool
 iGe:∀ (a b:Int),Bool
 sAdd:∀ (a b:List UInt8),List UInt8
 sEq:∀ (a b:List UInt8),Bool
 sNe:∀ (a b:List UInt8),Bool
 sGet:∀ (s:List UInt8) (j:Int),Int
 sRow:∀ (s:List UInt8),List Int
 rowS:∀ (l:List Int),List UInt8
 lLen:∀ {α:Type} (l:List α),Int
 lN:∀ {α:Type} (l:List α),Nat
 lGet:∀ {α:Type} (l:List α) (j:Nat) (d:α),α
 lSet:∀ {α:Type} (l:List α) (j:Nat) (x:α),List α
 lSub:∀ {α:Type} (l:List α) (a b:Nat),List α
 lTake:∀ {α:Type} (l:List α) (n:Nat),List α
 lApp:∀ {α:Type} (l m:List α),List α
 lRep:∀ {α:Type} (n:Int) (x:α),List α
 bNot:∀ (a:Bool),Bool
 bAnd:∀ (a b:Bool),Bool
 bOr:∀ (a b:Bool),Bool
 bIff:∀ (a b:Bool),Bool
 bSel:∀ {α:Type} (c:Bool) (x y:α),α
def ic:Leaf:=⟨@xC,@wY,@wQ,@xo,@wU,@xJ,@xO,@w5,@tE,@w6,@w8,@xe,@wy,@xh,@xk,@wR,@xM,@x5,@xP,@xN,@xQ,@xW,@wT,@xL,@x4,@xb,@xI,@wP,@xl,@x6,@xm,@xE,@wX,@wz,@xx,@xn,@xK,@xc,@xZ,@xw,@xH⟩
def Au:{l:Leaf // l=ic}:=Classical.choice ⟨⟨ic,rfl⟩⟩
section
variable {α:Type}
@[irreducible] def iAdd(k:IntKind)(a b:Int):Int:=Au.1.iAdd k a b
theorem Xf(k:IntKind)(a b:Int):iAdd k a b=(k.wrap (a+b)):=by unfold iAdd;rw[Au.2];rfl
@[irreducible] def iSub(k:IntKind)(a b:Int):Int:=Au.1.iSub k a b
theorem gj(k:IntKind)(a b:Int):iSub k a b=(k.wrap (a-b)):=by unfold iSub;rw[Au.2];rfl
@[irreducible] def iMul(k:IntKind)(a b:Int):Int:=Au.1.iMul k a b
theorem fP(k:IntKind)(a b:Int):iMul k a b=(k.wrap (a*b)):=by unfold iMul;rw[Au.2];rfl
@[irreducible] def iQuo(k:IntKind)(a b:Int):Int:=Au.1.iQuo k a b
theorem Xo(k:IntKind)(a b:Int):iQuo k a b=(k.wrap (a.tdiv b)):=by unfold iQuo;rw[Au.2];rfl
@[irreducible] def iRem(a b:Int):Int:=Au.1.iRem a b
theorem Td(a b:Int):iRem a b=(a.tmod b):=by unfold iRem;rw[Au.2];rfl
@[irreducible] def iAnd(k:IntKind)(a b:Int):Int:=Au.1.iAnd k a b
theorem fO(k:IntKind)(a b:Int):iAnd k a b=(k.wrap (BitVec.ofInt k.bits a &&& BitVec.ofInt k.bits b).toNat):=by unfold iAnd;rw[Au.2];rfl
@[irreducible] def iOr(k:IntKind)(a b:Int):Int:=Au.1.iOr k a b
theorem xp(k:IntKind)(a b:Int):iOr k a b=(k.wrap (BitVec.ofInt k.bits a ||| BitVec.ofInt k.bits b).toNat):=by unfold iOr;rw[Au.2];rfl
@[irreducible] def iXor(k:IntKind)(a b:Int):Int:=Au.1.iXor k a b
theorem wL(k:IntKind)(a b:Int):iXor k a b=(k.wrap (BitVec.ofInt k.bits a ^^^ BitVec.ofInt k.bits b).toNat):=by unfold iXor;rw[Au.2];rfl
@[irreducible] def iAndNot(k:IntKind)(a b:Int):Int:=Au.1.iAndNot k a b
theorem sv(k:IntKind)(a b:Int):iAndNot k a b=(k.wrap (BitVec.ofInt k.bits a &&& ~~~BitVec.ofInt k.bits b).toNat):=by unfold iAndNot;rw[Au.2];rfl
@[irreducible] def iShl(k:IntKind)(a b:Int):Int:=Au.1.iShl k a b
theorem wm(k:IntKind)(a b:Int):iShl k a b=(k.wrap (a*2^min b.toNat k.bits)):=by unfold iShl;rw[Au.2];rfl
@[irreducible] def iShr(k:IntKind)(a b:Int):Int:=Au.1.iShr k a b
theorem fT(k:IntKind)(a b:Int):iShr k a b=(a.fdiv (2^min b.toNat k.bits)):=by unfold iShr;rw[Au.2];rfl
@[irreducible] def iNeg(k:IntKind)(a:Int):Int:=Au.1.iNeg k a
theorem fB(k:IntKind)(a:Int):iNeg k a=(k.wrap (0-a)):=by unfold iNeg;rw[Au.2];rfl
@[irreducible] def iConv(k:IntKind)(a:Int):Int:=Au.1.iConv k a
theorem SH(k:IntKind)(a:Int):iConv k a=(k.wrap a):=by unfold iConv;rw[Au.2];rfl
@[irreducible] def iMin(a b:Int):Int:=Au.1.iMin a b
theorem wM(a b:Int):iMin a b=(if b<a then b else a):=by unfold iMin;rw[Au.2];rfl
@[irreducible] def iMax(a b:Int):Int:=Au.1.iMax a b
theorem wK(a b:Int):iMax a b=(if b > a then b else a):=by unfold iMax;rw[Au.2];rfl
@[irreducible] def iNat(a:Int):Nat:=Au.1.iNat a
theorem Xe(a:Int):iNat a=(a.toNat):=by unfold iNat;rw[Au.2];rfl
@[irreducible] def iEq(a b:Int):Bool:=Au.1.iEq a b
theorem Tx(a b:Int):iEq a b=(a == b):=by unfold iEq;rw[Au.2];rfl
@[irreducible] def iNe(a b:Int):Bool:=Au.1.iNe a b
theorem ik(a b:Int):iNe a b=(a != b):=by unfold iNe;rw[Au.2];rfl
@[irreducible] def iLt(a b:Int):Bool:=Au.1.iLt a b
theorem ig(a b:Int):iLt a b=(decide (a<b)):=by unfold iLt;rw[Au.2];rfl
@[irreducible] def iLe(a b:Int):Bool:=Au.1.iLe a b
theorem gM(a b:Int):iLe a b=(decide (a≤b)):=by unfold iLe;rw[Au.2];rfl
@[irreducible] def iGt(a b:Int):Bool:=Au.1.iGt a b
theorem hJ(a b:Int):iGt a b=(decide (a > b)):=by unfold iGt;rw[Au.2];rfl
@[irreducible] def iGe(a b:Int):Bool:=Au.1.iGe a b
theorem iq(a b:Int):iGe a b=(decide (a≥b)):=by unfold iGe;rw[Au.2];rfl
@[irreducible] def sAdd(a b:List UInt8):List UInt8:=Au.1.sAdd a b
theorem fH(a b:List UInt8):sAdd a b=(a++b):=by unfold sAdd;rw[Au.2];rfl
@[irreducible] def sEq(a b:List UInt8):Bool:=Au.1.sEq a b
theorem gN(a b:List UInt8):sEq a b=(a == b):=by unfold sEq;rw[Au.2];rfl
@[irreducible] def sNe(a b:List UInt8):Bool:=Au.1.sNe a b
theorem ie(a b:List UInt8):sNe a b=(!(a == b)):=by unfold sNe;rw[Au.2];rfl
@[irreducible] def sGet(s:List UInt8)(j:Int):Int:=Au.1.sGet s j
theorem fY(s:List UInt8)(j:Int):sGet s j=((s.getD j.toNat 0).toNat):=by unfold sGet;rw[Au.2];rfl
@[irreducible] def sRow(s:List UInt8):List Int:=Au.1.sRow s
theorem gd(s:List UInt8):sRow s=(s.map fun b=>((b.toNat:Nat):Int)):=by unfold sRow;rw[Au.2];rfl
@[irreducible] def rowS(l:List Int):List UInt8:=Au.1.rowS l
theorem fU(l:List Int):rowS l=(l.map fun n=>UInt8.ofNat n.toNat):=by unfold rowS;rw[Au.2];rfl
@[irreducible] def lLen(l:List α):Int:=Au.1.lLen l
theorem WS(l:List α):lLen l=(l.length):=by unfold lLen;rw[Au.2];rfl
@[irreducible] def lN(l:List α):Nat:=Au.1.lN l
theorem Qb(l:List α):lN l=(l.length):=by unfold lN;rw[Au.2];rfl
@[irreducible] def lGet(l:List α)(j:Nat)(d:α):α:=Au.1.lGet l j d
theorem MZ(l:List α)(j:Nat)(d:α):lGet l j d=(l.getD j d):=by unfold lGet;rw[Au.2];rfl
@[irreducible] def lSet(l:List α)(j:Nat)(x:α):List α:=Au.1.lSet l j x
theorem PF(l:List α)(j:Nat)(x:α):lSet l j x=(l.set j x):=by unfold lSet;rw[Au.2];rfl
@[irreducible] def lSub(l:List α)(a b:Nat):List α:=Au.1.lSub l a b
theorem Xr(l:List α)(a b:Nat):lSub l a b=((l.drop a).take (b-a)):=by unfold lSub;rw[Au.2];rfl
@[irreducible] def lTake(l:List α)(n:Nat):List α:=Au.1.lTake l n
theorem Wq(l:List α)(n:Nat):lTake l n=(l.take n):=by unfold lTake;rw[Au.2];rfl
@[irreducible] def lApp(l m:List α):List α:=Au.1.lApp l m
theorem Ln(l m:List α):lApp l m=(l++m):=by unfold lApp;rw[Au.2];rfl
@[irreducible] def lRep(n:Int)(x:α):List α:=Au.1.lRep n x
theorem fF(n:Int)(x:α):lRep n x=(List.replicate n.toNat x):=by unfold lRep;rw[Au.2];rfl
@[irreducible] def bNot(a:Bool):Bool:=Au.1.bNot a
theorem M5(a:Bool):bNot a=(!a):=by unfold bNot;rw[Au.2];rfl
@[irreducible] def bAnd(a b:Bool):Bool:=Au.1.bAnd a b
theorem W6(a b:Bool):bAnd a b=(a&&b):=by unfold bAnd;rw[Au.2];rfl
@[irreducible] def bOr(a b:Bool):Bool:=Au.1.bOr a b
theorem gR(a b:Bool):bOr a b=(a||b):=by unfold bOr;rw[Au.2];rfl
@[irreducible] def bIff(a b:Bool):Bool:=Au.1.bIff a b
theorem fQ(a b:Bool):bIff a b=(a == b):=by unfold bIff;rw[Au.2];rfl
@[irreducible] def bSel(c:Bool)(x y:α):α:=Au.1.bSel c x y
theorem Xj(c:Bool)(x y:α):bSel c x y=(bif c then x else y):=by unfold bSel;rw[Au.2];rfl
end
mutual
inductive CT where
 |int (k:IntKind)|bool|str|ifc|sl (r:RT)|slf (r:RT)
inductive RT where
 |one (t:CT)|cons (t:CT) (r:RT)
end
abbrev yi:RT:=.cons (.int .i64) (.cons (.int .i64) (.one (.int .i64)))
abbrev AR:RT:=.cons (.int .i64) (.cons (.int .i64) (.cons (.int .i64) (.one (.int .i64))))
abbrev yh:RT:=.cons (.int .i64) (.cons (.int .i64) (.cons (.int .i64) (.cons (.int .i64) (.one (.int .i64)))))
mutual
def CT.D:CT→Type
 |.int _=>Int
 |.bool=>Bool
 |.str=>List UInt8
 |.ifc=>Bool
 |.sl r=>List r.D
 |.slf r=>List r.D
def RT.D:RT→Type
 |.one t=>t.D
 |.cons t r=>t.D×r.D
end
def RT.w:RT→Nat
 |.one _=>1
 |.cons _ r=>r.w+1
def CT.dflt:(t:CT)→t.D
 |.int _=>(0:Int)
 |.bool=>false
 |.str=>([]:List UInt8)
 |.ifc=>true
 |.sl r=>([]:List r.D)
 |.slf r=>([]:List r.D)
def RT.dflt:(r:RT)→r.D
 |.one t=>t.dflt
 |.cons t r=>(t.dflt,r.dflt)
mutual
def CT.beq:CT→CT→Bool
 |.int k,.int k'=>decide (k=k')
 |.bool,.bool=>true
 |.str,.str=>true
 |.ifc,.ifc=>true
 |.sl r,.sl r'=>RT.beq r r'
 |.slf r,.slf r'=>RT.beq r r'
 |_,_=>false
def RT.beq:RT→RT→Bool
 |.one t,.one t'=>CT.beq t t'
 |.cons t r,.cons t' r'=>CT.beq t t'&&RT.beq r r'
 |_,_=>false
end
mutual
theorem CT.beq_eq:∀ {a b:CT},CT.beq a b=true→a=b
 |.int k,.int k',h=>by simp only[CT.beq,A6] at h;rw[h]
 |.bool,.bool,_=>rfl
 |.str,.str,_=>rfl
 |.ifc,.ifc,_=>rfl
 |.sl r,.sl r',h=>by rw[RT.beq_eq (a:=r) (b:=r') h]
 |.slf r,.slf r',h=>by rw[RT.beq_eq (a:=r) (b:=r') h]
 |.int _,.bool,h|.int _,.str,h|.int _,.ifc,h|.int _,.sl _,h|.int _,.slf _,h=>by cases h
 |.bool,.int _,h|.bool,.str,h|.bool,.ifc,h|.bool,.sl _,h|.bool,.slf _,h=>by cases h
 |.str,.int _,h|.str,.bool,h|.str,.ifc,h|.str,.sl _,h|.str,.slf _,h=>by cases h
 |.ifc,.int _,h|.ifc,.bool,h|.ifc,.str,h|.ifc,.sl _,h|.ifc,.slf _,h=>by cases h
 |.sl _,.int _,h|.sl _,.bool,h|.sl _,.str,h|.sl _,.ifc,h|.sl _,.slf _,h=>by cases h
 |.slf _,.int _,h|.slf _,.bool,h|.slf _,.str,h|.slf _,.ifc,h|.slf _,.sl _,h=>by cases h
theorem RT.beq_eq:∀ {a b:RT},RT.beq a b=true→a=b
 |.one t,.one t',h=>by rw[CT.beq_eq (a:=t) (b:=t') h]
 | .cons t r,.cons t' r',h=>by
   simp only[RT.beq,Ai] at h
   rw[CT.beq_eq h.1,RT.beq_eq h.2]
 |.one _,.cons _ _,h=>by cases h
 |.cons _ _,.one _,h=>by cases h
end
def J7{r' r:RT}(l:List r'.D):Option (List r.D):=if h:RT.beq r' r=true then some ((congrArg (fun x:RT=>List x.D) (RT.beq_eq h)).mp l) else none
inductive BX where
 |lit (b:Bool)|dyn (b:Bool)
def BX.b:BX→Bool
 |.lit b=>b
 |.dyn b=>b
inductive DV where
 |any
 |undef
 |bool (b:BX)
 |int (k:IntKind) (n:Int)
 |str (s:List UInt8)
 |ifc (b:Bool)
 |nil (q:Ql)
 |sl (q:Ql) (r:RT) (l:List r.D)
 |ep (q:Ql) (r:RT) (l:List r.D) (j o:Nat)
 |box (i o:Nat)
 |ptr (i o:Nat)
 |agg (cs:List DV)
 |tup (vs:List DV)
 deriving Inhabited
mutual
def CT.enc:(t:CT)→t.D→PV
 |.int k,n=>.fl (.int k n)
 |.bool,b=>.fl (.bool b)
 |.str,s=>.fl (.str s)
 |.ifc,b=>.fl (.ifc b)
 |.sl r,l=>.sl .own (l.map (RT.enc r))
 |.slf r,l=>.sl .frz (l.map (RT.enc r))
def RT.enc:(r:RT)→r.D→List PV
 |.one t,x=>[CT.enc t x]
 |.cons t r,x=>CT.enc t x.1::RT.enc r x.2
end
mutual
def DV.enc:DV→PV
 |.any=>.fl .undef
 |.undef=>.fl .undef
 |.bool b=>.fl (.bool b.b)
 |.int k n=>.fl (.int k n)
 |.str s=>.fl (.str s)
 |.ifc b=>.fl (.ifc b)
 |.nil q=>.sl q []
 |.sl q r l=>.sl q (l.map r.enc)
 |.ep q r l j o=>.ep q (l.map r.enc) j o
 |.box i o=>.box i o
 |.ptr i o=>.ptr i o
 |.agg cs=>.agg (DV.encL cs)
 |.tup vs=>.tup (DV.encL vs)
def DV.encL:List DV→List PV
 |[]=>[]
 |v::r=>v.enc::DV.encL r
end
def CT.dv(q:Ql):(t:CT)→t.D→DV
 |.int k,n=>.int k n
 |.bool,b=>.bool (.dyn b)
 |.str,s=>.str s
 |.ifc,b=>.ifc b
 |.sl r,l=>.sl q r l
 |.slf r,l=>.sl .frz r l
def RT.dv(q:Ql):(r:RT)→r.D→List DV
 |.one t,x=>[CT.dv q t x]
 |.cons t r,x=>CT.dv q t x.1::RT.dv q r x.2
def CT.of:(t:CT)→DV→Option t.D
 |.int k,.int k' n=>if k=k' then some n else none
 |.bool,.bool b=>some b.b
 |.str,.str s=>some s
 |.ifc,.ifc b=>some b
 |.sl r,.nil .own=>some ([]:List r.D)
 |.sl r,.sl .own r' l=>J7 (r':=r') (r:=r) l
 |.slf r,.nil .frz=>some ([]:List r.D)
 |.slf r,.sl .frz r' l=>J7 (r':=r') (r:=r) l
 |_,_=>none
def RT.of:(r:RT)→List DV→Option r.D
 |.one t,[v]=>t.of v
 | .cons t r,v::vs=>(match t.of v,r.of vs with
   |some x,some y=>some (x,y)
   |_,_=>none)
 |_,_=>none
def DV.ty:DV→Option CT
 |.int k _=>some (.int k)
 |.bool _=>some .bool
 |.str _=>some .str
 |.ifc _=>some .ifc
 |.sl _ r _=>some (.sl r)
 |_=>none
def X3:List DV→Option RT
 |[]=>none
 |[v]=>v.ty.map .one
 | v::r=>(match v.ty,X3 r with
   |some t,some r=>some (.cons t r)
   |_,_=>none)
mutual
def CT.pl:CT→Bool
 |.sl r=>r.pl
 |.slf _=>false
 |_=>true
def RT.pl:RT→Bool
 |.one t=>t.pl
 |.cons t r=>t.pl&&r.pl
end
mutual
def CT.nrm:CT→CT
 |.sl r=>.sl r.nrm
 |.slf r=>.sl r.nrm
 |t=>t
def RT.nrm:RT→RT
 |.one t=>.one t.nrm
 |.cons t r=>.cons t.nrm r.nrm
end
mutual
theorem CT.D_nrm:∀ t:CT,t.nrm.D=t.D
 |.int _|.bool|.str|.ifc=>rfl
 |.sl r=>congrArg List (RT.D_nrm r)
 |.slf r=>congrArg List (RT.D_nrm r)
theorem RT.D_nrm:∀ r:RT,r.nrm.D=r.D
 |.one t=>CT.D_nrm t
 | .cons t r=>by
   show (t.nrm.D×r.nrm.D)=(t.D×r.D)
   rw[CT.D_nrm t,RT.D_nrm r]
end
def TI(r:RT)(l:List r.D):List r.nrm.D:=(congrArg List (RT.D_nrm r).symm).mp l
def DV.nrm1:DV→DV
 |.sl .frz r l=>if r.pl then .sl .frz r l else .sl .frz r.nrm (TI r l)
 |v=>v
def DV.nrmA:List DV→List DV
 |[]=>[]
 |v::r=>v.nrm1::DV.nrmA r
def DV.nrm:DV→DV
 |.agg cs=>.agg (DV.nrmA cs)
 |v=>v.nrm1
def DV.nrmV:List DV→List DV
 |[]=>[]
 |v::r=>v.nrm::DV.nrmV r
def DV.cells:DV→List DV
 |.agg cs=>cs
 |v=>[v]
def Ql.own':Ql→Bool
 |.own|.ownw _=>true
 |_=>false
def Ql.bor' (hd:Hd):Ql→Bool
 |.bor h _ _=>h == hd
 |.pre h _=>h == hd
 |_=>false
mutual
def DV.own:DV→Bool
 |.nil q=>q.own'
 |.sl q _ _=>q.own'
 |.agg cs=>DV.ownL cs
 |.tup vs=>DV.ownL vs
 |_=>false
def DV.ownL:List DV→Bool
 |[]=>false
 |v::r=>v.own||DV.ownL r
end
mutual
def DV.bor(hd:Hd):DV→Bool
 |.nil q=>q.bor' hd
 |.sl q _ _=>q.bor' hd
 |.ep q _ _ _ _=>q.bor' hd
 |.agg cs=>DV.borL hd cs
 |.tup vs=>DV.borL hd vs
 |_=>false
def DV.borL(hd:Hd):List DV→Bool
 |[]=>false
 |v::r=>v.bor hd||DV.borL hd r
end
mutual
def DV.hold:DV→Bool
 |.nil q=>(match q with|.frz=>false|_=>true)
 |.sl q _ _=>(match q with|.frz=>false|_=>true)
 |.ep q _ _ _ _=>(match q with|.frz=>false|_=>true)
 |.agg cs=>DV.holdL cs
 |.tup vs=>DV.holdL vs
 |_=>false
def DV.holdL:List DV→Bool
 |[]=>false
 |v::r=>v.hold||DV.holdL r
end
mutual
def DV.fz:DV→DV
 |.nil _=>.nil .frz
 |.sl _ r l=>.sl .frz r l
 |.ep _ r l j o=>.ep .frz r l j o
 |.agg cs=>.agg (DV.fzL cs)
 |.tup vs=>.tup (DV.fzL vs)
 |v=>v
def DV.fzL:List DV→List DV
 |[]=>[]
 |v::r=>v.fz::DV.fzL r
end
def Ql.detop:Ql→Ql
 |.bor h p _=>.bor h p false
 |.pre h p=>.bor h p false
 |q=>q
mutual
def DV.detop:DV→DV
 |.nil q=>.nil q.detop
 |.sl q r l=>.sl q.detop r l
 |.ep q r l j o=>.ep q.detop r l j o
 |.agg cs=>.agg (DV.detopL cs)
 |.tup vs=>.tup (DV.detopL vs)
 |v=>v
def DV.detopL:List DV→List DV
 |[]=>[]
 |v::r=>v.detop::DV.detopL r
end
mutual
def DV.hasPtr:DV→Bool
 |.ptr _ _=>true
 |.agg cs=>DV.hasPtrL cs
 |.tup vs=>DV.hasPtrL vs
 |_=>false
def DV.hasPtrL:List DV→Bool
 |[]=>false
 |v::r=>v.hasPtr||DV.hasPtrL r
end
mutual
def DV.deep:DV→Bool
 |.undef|.bool _|.int _ _|.str _|.ifc _=>true
 |.nil q=>q.own'
 |.sl q r _=>q.own'&&r.pl
 |.agg cs=>DV.deepL cs
 |.tup vs=>DV.deepL vs
 |.ptr _ _=>true
 |_=>false
def DV.deepL:List DV→Bool
 |[]=>true
 |v::r=>v.deep&&DV.deepL r
end
def DV.cell:DV→Bool
 |.bool _|.int _ _|.str _|.ifc _=>true
 |.nil q=>(match q with|.own|.frz|.ownw _=>true|_=>false)
 |.sl q _ _=>(match q with|.own|.frz|.ownw _=>true|_=>false)
 |_=>false
def CQ:List DV→Bool
 |[]=>true
 |v::r=>v.cell&&CQ r
def DV.argc:DV→Bool
 |.bool _|.int _ _|.str _|.ifc _|.nil _|.sl _ _ _|.ptr _ _=>true
 |_=>false
def Tw:List DV→Bool
 |[]=>true
 |v::r=>v.argc&&Tw r
def DV.argok:DV→Bool
 |.agg cs=>Tw cs
 |v=>v.argc
def G1:List DV→Bool
 |[]=>true
 |v::r=>v.argok&&G1 r
def DV.retc:DV→Bool
 |.ptr _ _=>true
 |v=>v.cell
def HV:List DV→Bool
 |[]=>true
 |v::r=>v.retc&&HV r
def DV.retok:DV→Bool
 |.agg cs=>HV cs
 |v=>v.retc
def CT.flat:CT→Bool
 |.sl _=>false
 |.slf _=>false
 |_=>true
def RT.flat:RT→Bool
 |.one t=>t.flat
 |.cons t r=>t.flat&&r.flat
structure DC where
 d:Bool
 v:DV
structure DS where
 sl:List DC
 bx:List (List DC)
 hp:List (List DC)
def Bb:List DC→Nat→DV
 |[],_=>.any
 |x::_,0=>x.v
 |_::r,n+1=>Bb r n
def C0:List DC→Nat→DV→List DC
 |[],_,_=>[]
 |_::r,0,v=>⟨true,v⟩::r
 |x::r,n+1,v=>x::C0 r n v
def Br:List (List DC)→Nat→List DC
 |[],_=>[]
 |x::_,0=>x
 |_::r,n+1=>Br r n
def D2:List (List DC)→Nat→List DC→List (List DC)
 |[],_,_=>[]
 |_::r,0,v=>v::r
 |x::r,n+1,v=>x::D2 r n v
def HE:List DC→Nat→List DV→List DC
 |cs,_,[]=>cs
 |[],_,_::_=>[]
 |_::r,0,v::vs=>⟨true,v⟩::HE r 0 vs
 |c::r,n+1,v::vs=>c::HE r n (v::vs)
def HA:List DV→Nat→List DV→List DV
 |cs,_,[]=>cs
 |[],_,_::_=>[]
 |_::r,0,v::vs=>v::HA r 0 vs
 |c::r,n+1,v::vs=>c::HA r n (v::vs)
def FQ:List DV→Nat→DV
 |[],_=>.any
 |x::_,0=>x
 |_::r,n+1=>FQ r n
def Nr:List DV→Nat→DV→List DV
 |[],_,_=>[]
 |_::r,0,v=>v::r
 |x::r,n+1,v=>x::Nr r n v
def BF:List DV→Nat→Nat→List DV
 |_,0,0=>[]
 |[],_,_=>[]
 |c::r,0,n+1=>c::BF r 0 n
 |_::r,o+1,n=>BF r o n
def BJ:List DC→List DV
 |[]=>[]
 |c::r=>c.v::BJ r
def news:List DV→List DC
 |[]=>[]
 |v::r=>⟨true,v⟩::news r
def CH(hd:Hd):List DC→List DC
 |[]=>[]
 |c::r=>(if c.v.bor hd then ⟨true,.any⟩ else c)::CH hd r
def DV.isBox(i:Nat):DV→Bool
 |.box j _=>i == j
 |_=>false
def OK(i:Nat):List DC→List DC
 |[]=>[]
 |c::r=>(if c.v.isBox i then ⟨true,.any⟩ else c)::OK i r
def Ts(live:List Nat):Nat→List DC→List DC
 |_,[]=>[]
 |n,c::r=>(if live.contains n then c else ⟨true,.any⟩)::Ts live (n+1) r
def clean:List DC→List DC
 |[]=>[]
 |c::r=>⟨false,c.v⟩::clean r
def M6:List (List DC)→List (List DC)
 |[]=>[]
 |b::r=>clean b::M6 r
def DS.clean(st:DS):DS:=⟨Go.Ag.clean st.sl,M6 st.bx,M6 st.hp⟩
def XY:List DC→List PV
 |[]=>[]
 |c::r=>c.v.enc::XY r
def XV:List (List DC)→List (List PV)
 |[]=>[]
 |b::r=>XY b::XV r
def DS.enc(st:DS):PS:=⟨XY st.sl,XV st.bx,XV st.hp⟩
inductive PX where
 |tt|ff|p (h:Prop)|and (a b:PX)|ite (c:Bool) (a b:PX)
def PX.den:PX→Prop
 |.tt=>True
 |.ff=>False
 |.p h=>h
 |.and a b=>a.den∧b.den
 |.ite c a b=>(c=true→a.den)∧(c=false→b.den)
def PX.land:PX→PX→PX
 |.tt,b=>b
 |.ff,_=>.ff
 |a,.tt=>a
 |a,b=>.and a b
def PX.if' (c:Bool):PX→PX→PX
 |.tt,.tt=>.tt
 |a,b=>.ite c a b
def Ia:V→DV
 |.nils=>.nil .own
 |.tup []=>.tup []
 |.bool b=>.bool (.lit b)
 |.int k n=>.int k n
 |.str s=>.str s
 |.ifc b=>.ifc b
 |_=>.undef
def FW:List V→List DV
 |[]=>[]
 |v::r=>Ia v::FW r
def Opnd.dev(s:List DC):Opnd→DV
 |.t n=>Bb s n
 |.c v=>Ia v
end
noncomputable section
mutual
def DV.ok:DV→Bool
 |.any=>false
 |.agg cs=>DV.okL cs
 |.tup vs=>DV.okL vs
 |_=>true
def DV.okL:List DV→Bool
 |[]=>true
 |v::r=>v.ok&&DV.okL r
end
def DS.put(st:DS)(d:Option Nat)(v:DV):DS:=
 match d with
 |none=>st
 |some d=>if v.own then { st with sl:=CH (.s d) (C0 st.sl d v) } else { st with sl:=C0 st.sl d v }
def Qi(v:DV)(n:Nat)(st:DS):DV×DS:=if v.own then (if v.bor (.s n) then (.any,st) else (v,{ st with sl:=CH (.s n) (C0 st.sl n .any) })) else (v,st)
def A7(x:Opnd)(st:DS):DV×DS:=match x with
 |.c v=>(Ia v,st)
 |.t n=>Qi (Bb st.sl n) n st
def Qf(v:DV)(n:Nat)(st:DS):DV×DS:=if v.own then (if v.retok then (v.fz,{ st with sl:=CH (.s n) (C0 st.sl n v.fz) }) else (.any,st)) else (v,st)
def Ei(x:Opnd)(st:DS):DV×DS:=match x with
 |.c v=>(Ia v,st)
 |.t n=>Qf (Bb st.sl n) n st
def DV.fcell:DV→List Nat→DV
 |.agg cs,[c]=>FQ cs c
 |.agg _,_=>.any
 |.tup vs,[i,c]=>FQ (FQ vs i).cells c
 |.tup _,_=>.any
 |v,[0]=>v
 |_,_=>.any
def DV.setc:DV→List Nat→DV→DV
 |.agg cs,[c],w=>.agg (Nr cs c w)
 |.agg cs,_,_=>.agg cs
 |.tup vs,_,_=>.tup vs
 |_,[0],w=>w
 |v,_,_=>v
def BQ(st:DS):Hd→List Nat→DV
 |.s t,p=>(Bb st.sl t).fcell p
 |.b i,[c]=>Bb (Br st.bx i) c
 |.h i,[c]=>Bb (Br st.hp i) c
 |_,_=>.any
def FN(st:DS)(v:DV):Hd→List Nat→DS
 |.s t,p=>{ st with sl:=CH (.s t) (C0 st.sl t ((Bb st.sl t).setc p v)) }
 |.b i,[c]=>{ st with sl:=CH (.b i) st.sl,bx:=D2 st.bx i (C0 (Br st.bx i) c v) }
 |.h i,[c]=>{ st with sl:=CH (.h i) st.sl,hp:=D2 st.hp i (C0 (Br st.hp i) c v) }
 |_,_=>st
def Ql.brw(hd:Hd)(p:List Nat):Ql→Ql
 |.own=>.bor hd p true
 |.ownw _=>.pre hd p
 |q=>q
def XD(hd:Hd)(p:List Nat):DV→DV
 |.sl q r l=>.sl (q.brw hd p) r l
 |.nil q=>.nil (q.brw hd p)
 |v=>v
def HS(hd:Hd):Nat→List DV→List DV
 |_,[]=>[]
 |c,v::r=>XD hd [c] v::HS hd (c+1) r
def XA(hd:Hd):DV→DV
 |.agg cs=>.agg (HS hd 0 cs)
 |.tup vs=>if DV.ownL vs then .undef else .tup vs
 |v=>XD hd [0] v
def I8(x:Opnd)(st:DS):DV×DS:=match x with
 |.c v=>(Ia v,st)
 |.t n=>(XA (.s n) (Bb st.sl n),st)
def LF:Ql→Option Ql
 |.frz=>some .frz
 |.bor hd _ _=>some (.bor hd [] false)
 |.pre hd _=>some (.bor hd [] false)
 |_=>none
def Nh:List DV→List DV
 |[]=>[]
 |v::r=>(if v.own then .any else v)::Nh r
def EW(n:Option Nat)(cs:List DV):Option DV:=
 match n,cs with
 |some _,cs=>some (.agg cs)
 |none,[v]=>some v
 |none,_=>none
def G8(d:Nat):Option DV→Option (PX×Nat)
 |none=>some (.tt,d)
 |some (.int _ i)=>some (.p (0≤i),iNat i)
 |some _=>none
def HW:List DV→List (Nat×Nat×Opnd)→DS→Option (List DV×DS)
 |cs,[],st=>some (cs,st)
 | cs,(off,size,x)::r,st=>
   if (A7 x st).1.cells.length == size&&Nat.ble (off+size) cs.length&&CQ (A7 x st).1.cells then HW (HA cs off (A7 x st).1.cells) r (A7 x st).2 else none
abbrev DO:=Option (PX×DV)
def Eu(v:DV):DO:=some (.tt,v)
def dI(k:IntKind)(n:Int):DO:=some (.tt,.int k n)
def dB(b:Bool):DO:=some (.tt,.bool (.dyn b))
def SA(op:BinOp)(k:IntKind)(a b:Int):DO:=
 match op with
 |.add=>dI k (iAdd k a b)
 |.sub=>dI k (iSub k a b)
 |.mul=>dI k (iMul k a b)
 |.quo=>some (.p (b≠0),.int k (iQuo k a b))
 |.rem=>some (.p (b≠0),.int k (iRem a b))
 |.and=>dI k (iAnd k a b)
 |.or=>dI k (iOr k a b)
 |.xor=>dI k (iXor k a b)
 |.andNot=>dI k (iAndNot k a b)
 |.eql=>dB (iEq a b)
 |.neq=>dB (iNe a b)
 |.lss=>dB (iLt a b)
 |.leq=>dB (iLe a b)
 |.gtr=>dB (iGt a b)
 |.geq=>dB (iGe a b)
 |_=>none
def SO(op:BinOp)(k:IntKind)(a b:Int):DO:=
 match op with
 |.shl=>some (.p (0≤b),.int k (iShl k a b))
 |.shr=>some (.p (0≤b),.int k (iShr k a b))
 |_=>none
def IntKind.same(k k':IntKind):Bool:=decide (k=k')
def Nv(op:BinOp)(x y:DV):DO:=
 match x,y with
 | .int k a,.int k' b=>(match op with
   |.shl=>SO .shl k a b
   |.shr=>SO .shr k a b
   |op=>if IntKind.same k k' then SA op k a b else none)
 | .str a,.str b=>(match op with
   |.add=>some (.p (a.length+b.length≤9223372036854775807),.str (sAdd a b))
   |.eql=>dB (sEq a b)
   |.neq=>dB (sNe a b)
   |_=>none)
 |_,_=>none
def BX.not:BX→BX
 |.lit b=>.lit (!b)
 |.dyn b=>.dyn (bNot b)
def BX.eq:BX→BX→BX
 |.lit a,.lit b=>.lit (a == b)
 |.lit true,.dyn b=>.dyn b
 |.lit false,.dyn b=>.dyn (bNot b)
 |.dyn a,.lit true=>.dyn a
 |.dyn a,.lit false=>.dyn (bNot a)
 |.dyn a,.dyn b=>.dyn (bIff a b)
def TF(neg:Bool):DV→DV→DO
 |.bool a,.bool b=>Eu (.bool (if neg then (a.eq b).not else a.eq b))
 |_,_=>none
def XW(neg:Bool):DV→DO
 |.ifc a=>dB (if neg then bNot a else a)
 |_=>none
def JI:List DV→List DV→Option BX
 |[],[]=>some (.lit true)
 |.int k a::x,.int k' b::y=>if IntKind.same k k' then (match x,y with
  |[],[]=>some (.dyn (iEq a b))
  |x,y=>(JI x y).map fun t=>.dyn (bAnd (iEq a b) t.b)) else none
 |_,_=>none
def TJ(n:Nat)(neg:Bool):DV→DV→DO
 | .agg a,.agg b=>if a.length == n&&b.length == n then (match JI a b with
   |some t=>Eu (.bool (if neg then t.not else t))
   |none=>none) else none
 |_,_=>none
def X4(op:UnOp)(x:DV):DO:=
 match op,x with
 |.not,.bool b=>Eu (.bool b.not)
 |.neg,.int k n=>dI k (iNeg k n)
 |_,_=>none
def XG(k:IntKind):DV→DO
 |.int _ n=>dI k (iConv k n)
 |_=>none
def SY:(r:RT)→List r.D→Option (List UInt8)
 |.one (.int .u8),l=>some (rowS l)
 |_,_=>none
def XB:DV→DO
 |.nil _=>Eu (.str [])
 |.sl _ r l=>(SY r l).map fun s=>(.tt,.str s)
 |_=>none
def iA(x:Opnd)(z:Bool)(q:Ql):Option Ql:=Eo x (if z then 0 else 1) q
def WO(w:Nat)(x:Opnd)(lo hi:Option DV):DV→DO
 | .sl q r l=>(match G8 0 lo,G8 (lN l) hi with
   | some (g,a),some (g',b)=>if r.w == w then (match iA x lo.isNone q with
     |some q'=>some ((g.land g').land (.p (a≤b∧b≤l.length∧0<l.length)),.sl q' r (lSub l a b))
     |none=>none) else none
   |_,_=>none)
 |_=>none
def Wc(lo hi:Option DV):DV→DO
 | .str t=>(match G8 0 lo,G8 (lN t) hi with
   |some (g,a),some (g',b)=>some ((g.land g').land (.p (a≤b∧b≤t.length)),.str (lSub t a b))
   |_,_=>none)
 |_=>none
def Xa:DV→DO
 |.box i o=>Eu (.box i o)
 |.ptr i o=>Eu (.ptr i o)
 |.ep q r l j o=>Eu (.ep q r l j o)
 |_=>none
def Wb(off:Nat):DV→DO
 |.box i o=>Eu (.box i (o+off))
 |.ptr i o=>Eu (.ptr i (o+off))
 |.ep q r l j o=>Eu (.ep q r l j (o+off))
 |_=>none
def Xh(off:Nat)(n:Option Nat)(x:Opnd):DV→DO
 | .agg cs=>(match x with
   |.t t=>if Nat.ble (off+n.getD 1) cs.length&&DV.okL (BF cs off (n.getD 1)) then (EW n (HS (.s t) off (BF cs off (n.getD 1)))).map fun v=>(.tt,v) else none
   |.c _=>none)
 |_=>none
def O8(w:Nat)(x:Opnd):DV→DV→DO
 | .sl q r l,.int _ j=>if r.w == w then (match Em x q with
   |some q'=>some (.p (0≤j∧j<l.length),.ep q' r l (iNat j) 0)
   |none=>none) else none
 |.nil _,.int _ _=>none
 |_,_=>none
def Tl:DV→DV→DO
 |.str t,.int _ j=>some (.p (0≤j∧j<t.length),.int .u8 (sGet t j))
 |_,_=>none
def XT:DV→DO
 |.sl _ _ l=>dI .i64 (lLen l)
 |.nil _=>dI .i64 0
 |_=>none
def XI:DV→DO
 |.str t=>dI .i64 (lLen t)
 |_=>none
def XX:DV→DV→DO
 |.int .i64 a,.int .i64 b=>dI .i64 (iMin a b)
 |_,_=>none
def XS:DV→DV→DO
 |.int .i64 a,.int .i64 b=>dI .i64 (iMax a b)
 |_,_=>none
abbrev Dx:=Option (PX×DV×DS)
def J1(m:Bool)(i:Nat)(n:Option Nat)(a:DV)(st:DS):Dx:=
 match a with
 | .box j o=>
   let cs:=BF (BJ (Br st.bx i)) o (n.getD 1)
   if i == j&&Nat.ble (o+n.getD 1) (Br st.bx i).length&&DV.okL cs then
    if m then (EW n cs).map fun v=>(.tt,v,{ st with sl:=CH (.b i) st.sl,bx:=D2 st.bx i (HE (Br st.bx i) o (Nh cs)) })
    else (EW n (HS (.b i) o cs)).map fun v=>(.tt,v,st)
   else none
 |_=>none
def I5(m:Bool)(n:Option Nat)(a:DV)(st:DS):Dx:=
 match a with
 | .ptr i o=>
   let cs:=BF (BJ (Br st.hp i)) o (n.getD 1)
   if Nat.blt i st.hp.length&&Nat.ble (o+n.getD 1) (Br st.hp i).length&&DV.okL cs then
    if m then (EW n cs).map fun v=>(.tt,v,{ st with sl:=CH (.h i) st.sl,hp:=D2 st.hp i (HE (Br st.hp i) o (Nh cs)) })
    else (EW n (HS (.h i) o cs)).map fun v=>(.tt,v,st)
   else none
 | .ep q r l j o=>(match LF q with
   |some q'=>if Nat.ble (o+n.getD 1) r.w then (EW n (BF (r.dv q' (lGet l j r.dflt)) o (n.getD 1))).map fun v=>(.p (j<l.length),v,st) else none
   |none=>none)
 |_=>none
def O5(i n:Nat)(a x:Opnd)(st0:DS):Dx:=
 match A7 x st0 with
 | (v, st)=>match a.dev st0.sl with
   |.box j o=>if i == j&&Nat.blt i st.bx.length&&v.cells.length == n&&Nat.ble (o+n) (Br st.bx i).length&&CQ v.cells then
    some (.tt,.undef,{ st with sl:=if (!DV.okL (BF (BJ (Br st.bx i)) o n))||DV.ownL (BF (BJ (Br st.bx i)) o n)||v.own then CH (.b i) st.sl else st.sl,bx:=D2 st.bx i (HE (Br st.bx i) o v.cells) }) else none
   |_=>none
def Pe(n:Nat)(a x:Opnd)(st0:DS):Dx:=
 match A7 x st0 with
 | (v, st)=>match a.dev st.sl with
   |.ptr i o=>if Nat.blt i st.hp.length&&v.cells.length == n&&Nat.ble (o+n) (Br st.hp i).length&&CQ v.cells then
    some (.tt,.undef,{ st with sl:=if (!DV.okL (BF (BJ (Br st.hp i)) o n))||DV.ownL (BF (BJ (Br st.hp i)) o n)||v.own then CH (.h i) st.sl else st.sl,hp:=D2 st.hp i (HE (Br st.hp i) o v.cells) }) else none
   | .ep (.bor hd [p] true) _ _ j o=>(match BQ st hd [p] with
     | .sl .own r l=>if v.cells.length == n&&Nat.ble (o+n) r.w&&CQ v.cells then (match r.of (HA (r.dv .own (lGet l j r.dflt)) o v.cells) with
       |some y=>some (.p (j<l.length),.undef,FN st (.sl .own r (lSet l j y)) hd [p])
       |none=>none) else none
     |_=>none)
   |_=>none
def HR(m:Bool)(n:Option Nat)(a:DV)(st:DS):Option Dx:=
 match m,n,a with
 | true,none,.ep (.bor hd [c] true) (.one (.sl _)) l j 0=>some (match BQ st hd [c] with
   |.sl .own (.one (.sl r)) l2=>some (.p (j<l.length∧j<l2.length),.sl (.bor hd [c,j] true) r (lGet (α:=List r.D) l2 j []),st)
   |_=>none)
 |_,_,_=>none
def DV.nestX(i c:Nat):DV→Bool
 |.ep (.bor (.b i') [c'] true) _ _ _ _=>i == i'&&c == c'
 |_=>false
def DV.nest:DV→Option (Hd×Nat×Nat×Nat×Nat)
 |.ep (.bor hd [p,k] true) _ _ j o=>some (hd,p,k,j,o)
 |_=>none
def DV.nflat:DV→Bool
 |.bool _|.int _ _|.str _|.ifc _=>true
 |_=>false
def Lm:List DV→Bool
 |[]=>true
 |v::r=>v.nflat&&Lm r
def O6(n:Nat)(hd:Hd)(p k j o:Nat)(v:DV)(st:DS):Dx:=
 match BQ st hd [p] with
 | .sl .own (.one (.sl r)) l=>if v.cells.length == n&&Nat.ble (o+n) r.w&&Lm v.cells then (match r.of (HA (r.dv .own (lGet (lGet (α:=List r.D) l k []) j r.dflt)) o v.cells) with
   |some y=>some (.p (k<l.length∧j<(lGet (α:=List r.D) l k []).length),.undef,FN st (.sl .own (.one (.sl r)) (lSet (α:=List r.D) l k (lSet (lGet (α:=List r.D) l k []) j y))) hd [p])
   |none=>none) else none
 |_=>none
inductive DSrc where
 |nil
 |sl (r:RT) (l:List r.D)
def DSrc.w:DSrc→Nat→Bool
 |.nil,_=>true
 |.sl r _,w=>r.w == w
def DSrc.to(r:RT):DSrc→Option (List r.D)
 |.nil=>some []
 |.sl _ l=>J7 l
def H4(w:Nat)(y:Opnd)(st:DS):Option (DSrc×DS):=
 match y.dev st.sl with
 |.str s=>if w == 1 then some (.sl (.one (.int .u8)) (sRow s),st) else none
 |.sl .own r l=>if r.w == w then some (.sl r l,(A7 y st).2) else none
 |.sl (.ownw _) _ _=>none
 |.sl _ r l=>if r.w == w&&r.flat then some (.sl r l,st) else none
 |.nil .own=>some (.nil,(A7 y st).2)
 |.nil _=>some (.nil,st)
 |_=>none
def Np(w:Nat)(x:Opnd)(new:DSrc)(st:DS):Dx:=
 if !(Nat.blt 0 w&&new.w w) then none else
 match x.dev st.sl with
 | .nil .own=>(match new with
   |.nil=>some (.tt,.nil .own,(A7 x st).2)
   |.sl r l=>some (.p (AW (l.length*w)),.sl .own r l,(A7 x st).2))
 | .sl .own r l=>if r.w == w then (match new.to r with
   |some n=>some (.p (AW ((l.length+n.length)*w)),.sl .own r (lApp l n),(A7 x st).2)
   |none=>none) else none
 | .sl (.bor hd [c] true) r l=>(match BQ st hd [c] with
   | .sl .own rh lh=>if rh.w == w then (match new.to rh with
     |some n=>some (.p (l.length=lh.length∧AW ((lh.length+n.length)*w)),.sl .own rh (lApp lh n),FN st .undef hd [c])
     |none=>none) else none
   |_=>none)
 | .nil (.bor hd [c] true)=>(match BQ st hd [c] with
   | .nil .own=>(match new with
     |.nil=>some (.tt,.nil .own,FN st .undef hd [c])
     |.sl r l=>some (.p (AW (l.length*w)),.sl .own r l,FN st .undef hd [c]))
   |_=>none)
 | .sl (.pre hd [c]) r l=>(match BQ st hd [c] with
   | .sl .own rh lh=>if rh.w == w then (match new.to rh with
     |some n=>some (.p (0<lh.length∧l.length≤lh.length∧0<l.length+n.length∧AW ((l.length+n.length)*w)),.sl .own rh (lApp (lTake lh (lN l)) n),FN st .undef hd [c])
     |none=>none) else none
   |_=>none)
 |_=>none
def Ka(w:Nat)(new:DSrc)(st:DS):Dx:=
 match new with
 |.nil=>some (.tt,.nil (.ownw w),st)
 |.sl r l=>some (.p (AW (l.length*w)),.sl (.ownw w) r l,st)
def P2(w:Nat)(x:Opnd)(new:DSrc)(st:DS):Dx:=
 if !(Nat.blt 0 w&&new.w w) then none else
 match x.dev st.sl with
 |.nil .own=>Ka w new (A7 x st).2
 |.nil (.ownw w')=>if w' == w then Ka w new (A7 x st).2 else none
 | .sl .own r l=>if r.w == w then (match new.to r with
   |some n=>some (.p (AW ((l.length+n.length)*w)),.sl (.ownw w) r (lApp l n),(A7 x st).2)
   |none=>none) else none
 | .sl (.ownw w') r l=>if w' == w&&r.w == w then (match new.to r with
   |some n=>some (.p (AW ((l.length+n.length)*w)),.sl (.ownw w) r (lApp l n),(A7 x st).2)
   |none=>none) else none
 | .sl (.pre hd [c]) r l=>(match BQ st hd [c] with
   | .sl .own rh lh=>if rh.w == w then (match new.to rh with
     |some n=>some (.p (0<lh.length∧l.length≤lh.length∧AW ((l.length+n.length)*w)),.sl (.ownw w) rh (lApp (lTake lh (lN l)) n),FN st .undef hd [c])
     |none=>none) else none
   | .sl (.ownw w') rh lh=>if w' == w&&rh.w == w then (match new.to rh with
     |some n=>some (.p (0<lh.length∧l.length≤lh.length∧AW ((l.length+n.length)*w)),.sl (.ownw w) rh (lApp (lTake lh (lN l)) n),FN st .undef hd [c])
     |none=>none) else none
   |_=>none)
 |_=>none
def Qg(w:Nat):DV→Option DV
 |.nil .own=>some (.nil (.ownw w))
 |.nil (.ownw w')=>if w' == w then some (.nil (.ownw w)) else none
 |.sl .own r l=>if r.w == w then some (.sl (.ownw w) r l) else none
 |.sl (.ownw w') r l=>if w' == w then some (.sl (.ownw w) r l) else none
 |_=>none
def TE:List (Nat×Nat)→List DV→Option (List DV)
 |[],l=>some l
 | (c,w)::r,l=>match Qg w (FQ l c) with
   |some v=>TE r (Nr l c v)
   |none=>none
def LL(ws:List (Nat×Nat)):DV→Option DV
 |.agg l=>(TE ws l).map .agg
 | .nil q=>(match ws with
   |[(0,w)]=>Qg w (.nil q)
   |_=>none)
 | .sl q r l=>(match ws with
   |[(0,w)]=>Qg w (.sl q r l)
   |_=>none)
 |_=>none
def MU(r:RT)(w:Nat):Nat→List DV→Option (List r.D)
 |0,_=>some []
 | n+1,cs=>(match r.of (cs.take w),MU r w n (cs.drop w) with
   |some x,some l=>some (x::l)
   |_,_=>none)
def Ga:List V→Bool
 |[]=>true
 |v::r=>v.flat&&Ga r
def Ni(o:AOp)(e:Opnd→DV):DO:=
 match o with
 |.nilck x=>Xa (e x)
 |.bin op x y=>Nv op (e x) (e y)
 |.eqB neg x y=>TF neg (e x) (e y)
 |.eqN neg x y=>(match y with|.c (.ifc true)=>XW neg (e x)|_=>none)
 |.eqA n neg x y=>TJ n neg (e x) (e y)
 |.un op x=>X4 op (e x)
 |.conv k x=>XG k (e x)
 |.bstr x=>XB (e x)
 |.slice w x lo hi=>WO w x (lo.map e) (hi.map e) (e x)
 |.substr x lo hi=>Wc (lo.map e) (hi.map e) (e x)
 |.fieldA off a=>Wb off (e a)
 |.field off n x=>Xh off n x (e x)
 |.indexA w x i=>O8 w x (e x) (e i)
 |.index x i=>Tl (e x) (e i)
 |.len x=>XT (e x)
 |.lenT x=>XI (e x)
 |.minI x y=>XX (e x) (e y)
 |.maxI x y=>XS (e x) (e y)
 |_=>none
def A8 (m:Bool)(o:AOp)(ty:Option RT)(st:DS):Dx:=
 let e (x:Opnd):=x.dev st.sl
 let known (r:DV×DS):Dx:=if r.1.ok then some (.tt,r.1,r.2) else none
 match o with
 |.mv x=>known (if m then I8 x st else A7 x st)
 |.allocB i zs=>if Nat.blt i st.bx.length&&Ga zs then some (.tt,.box i 0,{ st with sl:=CH (.b i) (OK i st.sl),bx:=D2 st.bx i (news (FW zs)) }) else none
 | .boxB i n x=>(match A7 x st with
   |(v,st)=>if Nat.blt i st.bx.length&&v.cells.length == n&&CQ v.cells then some (.tt,.box i 0,{ st with sl:=CH (.b i) (OK i st.sl),bx:=D2 st.bx i (news v.cells) }) else none)
 |.allocH zs=>if Ga zs then some (.tt,.ptr st.hp.length 0,{ st with sl:=CH (.h st.hp.length) st.sl,hp:=st.hp++[news (FW zs)] }) else none
 | .boxH n x=>(match A7 x st with
   |(v,st)=>if v.cells.length == n&&CQ v.cells then some (.tt,.ptr st.hp.length 0,{ st with sl:=CH (.h st.hp.length) st.sl,hp:=st.hp++[news v.cells] }) else none)
 | .build zs ps=>if Ga zs then (match HW (FW zs) ps st with
   |some (cs,st)=>some (.tt,.agg cs,st)
   |none=>none) else none
 | .mkSlice w z len=>(match e len with
   | .int .i64 n=>(match (match ty with|some r=>some r|none=>X3 (FW z)) with
     | some r=>(match r.of (FW z) with
       |some d=>if z.length == w&&r.w == w&&Nat.blt 0 w&&Ga z then some (.p (0≤n∧AW (n.toNat*w)),.sl .own r (lRep n d),st) else none
       |none=>none)
     |none=>none)
   |_=>none)
 | .litSlice w n zs ps=>
   if n == 0 then some (.tt,(match ty with|some r=>.sl .own r []|none=>.nil .own),st)
   else if Ga zs&&zs.length == n*w&&Nat.blt 0 w then (match HW (FW zs) ps st with
    | some (cs,st)=>(match (match ty with|some r=>some r|none=>X3 (cs.take w)) with
      | some r=>if r.w == w then (match MU r w n cs with
        |some l=>some (.tt,.sl .own r l,st)
        |none=>none) else none
      |none=>none)
    |none=>none)
   else none
 |.loadB i n a=>J1 m i n (e a) st
 | .loadH n a=>(match HR m n (e a) st with
   |some r=>r
   |none=>I5 m n (e a) st)
 | .loadX i c n a=>if (e a).nestX i c then (match HR m n (e a) st with
   |some r=>r
   |none=>none) else none
 |.storeB i n a x=>O5 i n a x st
 | .storeH n a x=>if (e a).ok then (match (e a).nest with
   |some (hd,p,k,j,o)=>O6 n hd p k j o (e x) st
   |none=>Pe n a x st) else none
 | .app w x y=>(match H4 w y st with
   |some (new,st)=>Np w x new st
   |none=>none)
 | .appN w x y=>(match x.dev st.sl with
   | .nil .own=>(match H4 w y st with
     |some (new,st)=>Np w x new st
     |none=>none)
   |_=>none)
 | .extract x i=>(match x with
   | .t t=>(match Bb st.sl t with
     |.tup vs=>if Nat.blt i vs.length&&(FQ vs i).ok then (if (FQ vs i).own then (if (FQ vs i).bor (.s t) then none else some (.tt,FQ vs i,{ st with sl:=CH (.s t) (C0 st.sl t (.tup (Nr vs i .undef))) })) else some (.tt,FQ vs i,st)) else none
     |_=>none)
   |.c _=>none)
 |.pick ..=>none
 |.callB ..=>none
 |o=>(Ni o e).map fun r=>(r.1,r.2,st)
def Le(ws:List (Nat×Nat))(m:Bool)(o:AOp)(ty:Option RT)(st:DS):Dx:=
 match o with
 | .app w x y=>(match ws with
   | [(0,w')]=>if w' == w then (match H4 w y st with
     |some (new,st)=>P2 w x new st
     |none=>none) else none
   |_=>none)
 | o => (match A8 m o ty st with
   | some (g,v,st)=>(match LL ws v with
     |some v=>some (g,v,st)
     |none=>none)
   |none=>none)
end
noncomputable section
def TH(c:Bool):BX→BX→BX
 |.lit true,.lit true=>.lit true
 |.lit false,.lit false=>.lit false
 |.lit true,.lit false=>.dyn c
 |.lit false,.lit true=>.dyn (bNot c)
 |.lit true,.dyn y=>.dyn (bOr c y)
 |.lit false,.dyn y=>.dyn (bAnd (bNot c) y)
 |.dyn x,.lit true=>.dyn (bOr (bNot c) x)
 |.dyn x,.lit false=>.dyn (bAnd c x)
 |.dyn x,.dyn y=>.dyn (bSel c x y)
def D8(q q':Ql):Bool:=decide (q=q')
mutual
def CM(c:Bool):DV→DV→DV
 |.undef,.undef=>.undef
 |.bool x,.bool y=>.bool (TH c x y)
 |.int k x,.int k' y=>if IntKind.same k k' then .int k (bSel c x y) else .any
 |.str x,.str y=>.str (bSel c x y)
 |.ifc x,.ifc y=>.ifc (bSel c x y)
 |.nil q,.nil q'=>if D8 q q' then .nil q else .any
 |.nil q,.sl q' r l=>if D8 q q' then .sl q r (bSel c [] l) else .any
 |.sl q r l,.nil q'=>if D8 q q' then .sl q r (bSel c l []) else .any
 | .sl q r l,.sl q' r' l'=>if D8 q q' then (match J7 (r':=r') (r:=r) l' with
   |some l'=>.sl q r (bSel c l l')
   |none=>.any) else .any
 |.box i o,.box i' o'=>if i == i'&&o == o' then .box i o else .any
 |.ptr i o,.ptr i' o'=>if i == i'&&o == o' then .ptr i o else .any
 |.agg x,.agg y=>if x.length == y.length&&DV.okL (Ja c x y) then .agg (Ja c x y) else .any
 |.tup x,.tup y=>if x.length == y.length&&DV.okL (Ja c x y) then .tup (Ja c x y) else .any
 |_,_=>.any
def Ja(c:Bool):List DV→List DV→List DV
 |x::a,y::b=>CM c x y::Ja c a b
 |_,_=>[]
end
def TG(c:Bool)(x y:DC):DC:=if x.d||y.d then ⟨true,CM c x.v y.v⟩ else x
def PU(c:Bool):List DC→List DC→List DC
 |x::a,y::b=>TG c x y::PU c a b
 |_,_=>[]
def PI(c:Bool):List (List DC)→List (List DC)→List (List DC)
 |x::a,y::b=>(if x.length == y.length then PU c x y else [])::PI c a b
 |_,_=>[]
def LI(c:Bool)(x y:DS):Option DS:=
 if x.sl.length == y.sl.length&&x.bx.length == y.bx.length&&x.hp.length == y.hp.length then some ⟨PU c x.sl y.sl,PI c x.bx y.bx,PI c x.hp y.hp⟩ else none
def Nw:List DC→List DC→List DC
 |x::a,y::b=>⟨x.d||y.d,y.v⟩::Nw a b
 |_,r=>r
def Qj:List (List DC)→List (List DC)→List (List DC)
 |x::a,y::b=>Nw x y::Qj a b
 |_,r=>r
def Kh(x y:DS):DS:=⟨Nw x.sl y.sl,Qj x.bx y.bx,Qj x.hp y.hp⟩
inductive DT where
 |leaf (e:AExit) (st:DS)
 |node (c:Bool) (a b:DT)
 |chk (g:PX) (t:DT)
 |bad
inductive NS where
 |none|some (st:DS)|fail
def DT.norm:DT→NS
 |.leaf .normal st=>.some st
 |.leaf _ _=>.none
 | .node c a b=>(match a.norm,b.norm with
   |.none,y=>y
   |x,.none=>x
   | .some x,.some y=>(match LI c x y with
     |some z=>.some z
     |none=>.fail)
   |_,_=>.fail)
 |.chk _ t=>t.norm
 |.bad=>.none
def DT.nn:DT→Nat
 |.leaf .normal _=>1
 |.node _ a b=>a.nn+b.nn
 |.chk _ t=>t.nn
 |_=>0
def DT.cont:DT→Option BX
 |.leaf .normal _=>some (.lit true)
 |.leaf _ _=>some (.lit false)
 | .node c a b=>(match a.cont,b.cont with
   |none,y=>y
   |x,none=>x
   |some x,some y=>some (TH c x y))
 |.chk _ t=>t.cont
 |.bad=>none
def DT.ok:DT→PX
 |.leaf _ _=>.tt
 |.node c a b=>PX.if' c a.ok b.ok
 |.chk g t=>g.land t.ok
 |.bad=>.ff
def DT.nodeB(c:Bool):DT→DT→DT
 |.bad,b=>b
 |a,.bad=>a
 |a,b=>.node c a b
def DT.drop:DT→DT
 |.leaf .normal _=>.bad
 |.leaf e st=>.leaf e st
 |.node c a b=>DT.nodeB c a.drop b.drop
 |.chk _ t=>t.drop
 |.bad=>.bad
def DT.map(f:DS→DS):DT→DT
 |.leaf e st=>.leaf e (f st)
 |.node c a b=>.node c (a.map f) (b.map f)
 |.chk g t=>.chk g (t.map f)
 |.bad=>.bad
def DT.bind(f:DS→DT)(h:DS→DS):DT→DT
 |.leaf .normal st=>f st
 |.leaf e st=>.leaf e (h st)
 |.node c a b=>.node c (a.bind f h) (b.bind f h)
 |.chk g t=>.chk g (t.bind f h)
 |.bad=>.bad
def DT.unexit(i:Nat):DT→DT
 |.leaf (.exit j) st=>if j == i then .leaf .normal st else .leaf (.exit j) st
 |.leaf e st=>.leaf e st
 |.node c a b=>.node c (a.unexit i) (b.unexit i)
 |.chk g t=>.chk g (t.unexit i)
 |.bad=>.bad
def DT.chk':PX→DT→DT
 |.tt,t=>t
 |g,t=>.chk g t
def DT.then(f:DS→DT)(h:DS→DS)(t:DT):DT:=
 if Nat.ble t.nn 1 then t.bind f h
 else match t.norm with
  | .some m=>DT.chk' t.ok (match t.cont with
    |some (.dyn c)=>.node c (f m) (t.drop.map h)
    |some (.lit true)=>f m
    |_=>.bad)
  |_=>t.bind f h
section
variable {X:Type}
inductive LoopTo (c:X→Bool) (f:X→X) (p:X→Prop):X→X→Prop
 |stop {x:X}:p x→c x=false→LoopTo c f p x x
 |go {x y:X}:p x→c x=true→LoopTo c f p (f x) y→LoopTo c f p x y
def LoopOk(c:X→Bool)(f:X→X)(p:X→Prop)(x:X):Prop:=∃ y,LoopTo c f p x y
open Classical in
def Am(c:X→Bool)(f:X→X)(x:X):X:=if h:∃ y,LoopTo c f (fun _=>True) x y then Classical.choose h else x
theorem LoopTo.fst{c:X→Bool}{f:X→X}{p q:X→Prop}{x y z:X}(h:LoopTo c f p x y)(h':LoopTo c f q x z):y=z:=by
 induction h with
 | stop _ h1=>
   cases h' with
   |stop=>rfl
   |go _ h2=>rw[h1] at h2;cases h2
 | go _ h1 _ ih=>
   cases h' with
   |stop _ h2=>rw[h1] at h2;cases h2
   |go _ _ h3=>exact ih h3
theorem LoopTo.mono{c:X→Bool}{f:X→X}{p q:X→Prop}(hp:∀ x,p x→q x){x y:X}(h:LoopTo c f p x y):LoopTo c f q x y:=by
 induction h with
 |stop h0 h1=>exact .stop (hp _ h0) h1
 |go h0 h1 _ ih=>exact .go (hp _ h0) h1 ih
theorem LoopTo.val{c:X→Bool}{f:X→X}{p:X→Prop}{x y:X}(h:LoopTo c f p x y):Am c f x=y:=by
 have h':∃ y,LoopTo c f (fun _=>True) x y:=⟨y,h.mono fun _ _=>trivial⟩;unfold Am;rw[dif_pos h'];exact(Classical.choose_spec h').fst h
theorem LoopOk.to{c:X→Bool}{f:X→X}{p:X→Prop}{x:X}(h:LoopOk c f p x):LoopTo c f p x (Am c f x):=by
 obtain⟨y,h⟩:=h;rw[h.val];exact h
end
inductive Pl where
 |s (i:Nat)|b (i c:Nat)|h (i c:Nat)
inductive HT where
 |one (q:Ql) (t:CT)|agg (l:List (Ql×CT))
structure Hole where
 pl:Pl
 t:HT
def AgX:List (Ql×CT)→Type
 |[]=>Unit
 |[a]=>a.2.D
 |a::r=>a.2.D×AgX r
def HT.D:HT→Type
 |.one _ t=>t.D
 |.agg l=>AgX l
def Gr:List Hole→Type
 |[]=>Unit
 |[a]=>a.t.D
 |a::r=>a.t.D×Gr r
def DS.at(st:DS):Pl→DV
 |.s i=>Bb st.sl i
 |.b i c=>Bb (Br st.bx i) c
 |.h i c=>Bb (Br st.hp i) c
def DS.wr(st:DS)(v:DV):Pl→DS
 |.s i=>{ st with sl:=C0 st.sl i v }
 |.b i c=>{ st with bx:=D2 st.bx i (C0 (Br st.bx i) c v) }
 |.h i c=>{ st with hp:=D2 st.hp i (C0 (Br st.hp i) c v) }
def CT.ofQ(q:Ql):(t:CT)→DV→Option t.D
 |.int k,.int k' n=>if IntKind.same k k' then some n else none
 |.bool,.bool b=>some b.b
 |.str,.str s=>some s
 |.ifc,.ifc b=>some b
 |.sl r,.nil q'=>if D8 q q' then some ([]:List r.D) else none
 |.sl r,.sl q' r' l=>if D8 q q' then J7 (r':=r') (r:=r) l else none
 |_,_=>none
def Ki:(l:List (Ql×CT))→List DV→Option (AgX l)
 |[],[]=>some ()
 |[a],[v]=>a.2.ofQ a.1 v
 | a::b::r,v::vs=>(match a.2.ofQ a.1 v,Ki (b::r) vs with
   |some x,some y=>some (x,y)
   |_,_=>none)
 |_,_=>none
def Nq:(l:List (Ql×CT))→AgX l→List DV
 |[],_=>[]
 |[a],x=>[a.2.dv a.1 x]
 |a::b::r,x=>a.2.dv a.1 x.1::Nq (b::r) x.2
def HT.of:(h:HT)→DV→Option h.D
 |.one q t,v=>t.ofQ q v
 |.agg l,.agg vs=>Ki l vs
 |.agg _,_=>none
def HT.dv:(h:HT)→h.D→DV
 |.one q t,x=>t.dv q x
 |.agg l,x=>.agg (Nq l x)
def Kk(st:DS):(H:List Hole)→Option (Gr H)
 |[]=>some ()
 |[a]=>a.t.of (st.at a.pl)
 | a::b::r=>(match a.t.of (st.at a.pl),Kk st (b::r) with
   |some x,some y=>some (x,y)
   |_,_=>none)
def wrX(st:DS):(H:List Hole)→Gr H→DS
 |[],_=>st
 |[a],x=>st.wr (a.t.dv x) a.pl
 |a::b::r,x=>wrX (st.wr (a.t.dv x.1) a.pl) (b::r) x.2
def DV.same:DV→DV→Bool
 |.undef,.undef=>true
 |.nil q,.nil q'=>D8 q q'
 |.box i o,.box i' o'=>i == i'&&o == o'
 |.ptr i o,.ptr i' o'=>i == i'&&o == o'
 |_,_=>false
def DV.isAny:DV→Bool
 |.any=>true
 |_=>false
inductive Cls where
 |left|hole (t:HT)|kill
def iy:DV→DV→Option (Ql×CT)
 |.int k _,.int k' _=>if IntKind.same k k' then some (.own,.int k) else none
 |.bool _,.bool _=>some (.own,.bool)
 |.str _,.str _=>some (.own,.str)
 |.ifc _,.ifc _=>some (.own,.ifc)
 |.nil q,.sl q' r _=>if D8 q q' then some (q,.sl r) else none
 |.sl q r _,.nil q'=>if D8 q q' then some (q,.sl r) else none
 |.sl q r _,.sl q' r' _=>if D8 q q'&&RT.beq r' r then some (q,.sl r) else none
 |_,_=>none
def iE:List DV→List DV→Option (List (Ql×CT))
 |[],[]=>some []
 | x::a,y::b=>(match iy x y,iE a b with
   |some t,some l=>some (t::l)
   |_,_=>none)
 |_,_=>none
def iF(x:DV)(y:DC):Cls:=
 if y.d then (if x.isAny||x.same y.v then .left else match x,y.v with
  | .agg a,.agg b=>(match iE a b with
    |some l=>.hole (.agg l)
    |none=>.kill)
  | x,y=>(match iy x y with
    |some t=>.hole (.one t.1 t.2)
    |none=>.kill)) else .left
def Ji(pl:Nat→Pl):Nat→List DC→List DC→List Hole×List DC
 | n,x::a,y::b=>(match iF x.v y,Ji pl (n+1) a b with
   |.left,(H,l)=>(H,x::l)
   |.hole t,(H,l)=>(⟨pl n,t⟩::H,⟨true,.any⟩::l)
   |.kill,(H,l)=>(H,⟨true,.any⟩::l))
 |_,a,_=>([],a)
def Lz(pl:Nat→Nat→Pl):Nat→List (List DC)→List (List DC)→List Hole×List (List DC)
 | n,x::a,y::b=>(match Lz pl (n+1) a b with
   |(H,l)=>if x.length == y.length then (match Ji (pl n) 0 x y with|(H',x')=>(H'++H,x'::l)) else (H,[]::l))
 |_,a,_=>([],a)
def Qa(x y:DS):List Hole×DS:=
 match Ji .s 0 x.sl y.sl,Lz .b 0 x.bx y.bx,Lz .h 0 x.hp y.hp with
 |(H1,s),(H2,b),(H3,h)=>(H1++H2++H3,⟨s,b,h⟩)
def P8:List DC→List DC→Bool
 |k::a,y::b=>(k.v.isAny||!y.d||k.v.same y.v)&&P8 a b
 |[],[]=>true
 |_,_=>false
def Qd:List (List DC)→List (List DC)→Bool
 |k::a,y::b=>(k.length == 0||P8 k y)&&Qd a b
 |[],[]=>true
 |_,_=>false
def XU(K y:DS):Bool:=P8 K.sl y.sl&&Qd K.bx y.bx&&Qd K.hp y.hp
def MD(K:DS):List Hole→Bool
 |[]=>true
 |a::r=>(K.at a.pl).isAny&&MD K r
def DV.top:DV→Bool
 |.sl (.bor _ _ t) _ _=>t
 |.sl (.pre _ _) _ _=>true
 |.nil (.bor _ _ t)=>t
 |.nil (.pre _ _)=>true
 |.ep (.bor _ _ t) _ _ _ _=>t
 |.ep (.pre _ _) _ _ _ _=>true
 |.agg _=>true
 |.tup _=>true
 |_=>false
mutual
def DV.hasTop:DV→Bool
 |.agg cs=>DV.hasTopL cs
 |.tup cs=>DV.hasTopL cs
 |v=>v.top
def DV.hasTopL:List DV→Bool
 |[]=>false
 |v::r=>v.hasTop||DV.hasTopL r
end
def S3 (live:List Nat):Nat→List DC→List DC
 |_,[]=>[]
 |n,c::r=>(if live.contains n then (if c.v.hasTop then ⟨true,c.v.detop⟩ else c) else ⟨true,.any⟩)::S3 live (n+1) r
def Du(live:List Nat)(st:DS):DS:={ st with sl:=S3 live 0 st.sl }
def Tq(live:List Nat)(st:DS):DS:={ st with sl:=Ts live 0 st.sl }
def PL(live:List Nat)(body:DS→DT)(A:DS):Nat→DS→Option (List Hole×DS)
 | 0,cur=>(match (body cur).norm with
   |.some m=>some (Qa A (Du live m))
   |_=>none)
 | n + 1,cur=>(match (body cur).norm with
   | .some m=>(match Qa A (Du live m) with
     | (H,K)=>(match Kk A H with
       |some x0=>PL live body A n (wrX K H x0)
       |none=>none))
   |_=>none)
def NS.isNone:NS→Bool
 |.none=>true
 |_=>false
section
variable (live:List Nat) (body:DS→DT) (K:DS) (H:List Hole)
def lT(x:Gr H):DT:=body (wrX K H x)
def Nl(x:Gr H):Bool:=match (lT body K H x).cont with|some b=>b.b|none=>false
def Nd(x:Gr H):Gr H:=match (lT body K H x).norm with
 |.some m=>(match Kk (Du live m) H with|some y=>y|none=>x)
 |_=>x
def ia(x:Gr H):PX:=(lT body K H x).ok.land (match (lT body K H x).norm with
 |.some m=>if XU K (Du live m)&&(Kk (Du live m) H).isSome then .tt else .ff
 |.none=>.tt
 |.fail=>.ff)
end
def M9 (live:List Nat)(n:Nat)(body:DS→DT)(st:DS):DT:=
 if (body (Du live st)).norm.isNone then (body (Du live st)).map (Kh (Du live st))
 else match PL live body (Du live st) n (Du live st) with
 |none=>.bad
 | some (H,K)=>(match Kk (Du live st) H with
   |none=>.bad
   | some x0=>if MD K H then
      .chk (.p (LoopOk (Nl body K H) (Nd live body K H) (fun x=>(ia live body K H x).den) x0))
       ((lT body K H (Am (Nl body K H) (Nd live body K H) x0)).drop.map (Kh (wrX K H (Am (Nl body K H) (Nd live body K H) x0))))
     else .bad)
abbrev Fm:=List DV→Option (PX×DV)
abbrev HY:=List DV→List (List DV)→Option (PX×DV×List (List DV))
structure DMk where
 r:RT
 agg:Bool
 ok:r.D→Prop
 g:r.D→Int→r.D×Int
 vd:Bool
def DMk.P(M:DMk):PMk:=⟨M.agg,fun Aw m K=>∃ x,Aw=M.r.enc x∧M.ok x∧K (M.r.enc (M.g x m).1) (M.g x m).2,M.vd⟩
inductive DOp where
 |a (m:Bool) (o:AOp) (ty:Option RT)
 |aw (ws:List (Nat×Nat)) (m:Bool) (o:AOp) (ty:Option RT)
 |call (m:Bool) (f:A3) (p:Cf) (D:Fm) (args:List Opnd)
 |mark (f:A3) (M:DMk) (x k:Opnd)
 |callp (m:Bool) (f:A3) (p:Cf) (D:HY) (args:List Opnd)
 |callv (m:Bool) (f:A3) (p:Cf) (D:HY) (args:List Opnd) (i c:Nat)
 |fz (x:Opnd)
 |clm (a:Opnd) (t:Nat) (o:AOp)
 |fzb (a:Opnd) (o:AOp)
structure DOper where
 id:Nat
 dst:Option Nat
 op:DOp
 guard:Option (Nat×Bool)
 anc:List Nat
inductive DCode where
 |skip
 |region (ops:List DOper)
 |regionU (ops:List DOper)
 |seq (l:List Nat) (a b:DCode)
 |cond (c:Opnd) (a b:DCode)
 |block (id:Nat) (a:DCode)
 |loop (live:List Nat) (n:Nat) (a:DCode)
 |exit (id:Nat)
 |ret
def DOp.er:DOp→POp
 |.a m o _=>.a m o
 |.aw ws m o _=>.aw ws m o
 |.call m f p _ args=>.callk m f p args
 |.mark f M x k=>.mark f M.P x k
 |.callp m f p _ args=>.call m f p args
 |.callv m f p _ args i c=>.callv m f p args i c
 |.fz x=>.fz x
 |.clm x t o=>.clm x t o
 |.fzb x o=>.fzb x o
def DOper.er(o:DOper):POper:=⟨o.id,o.dst,o.op.er,o.guard,o.anc⟩
def DCode.er:DCode→PCode
 |.skip=>.skip
 |.region ops=>.region (ops.map DOper.er)
 |.regionU ops=>.regionU (ops.map DOper.er)
 |.seq l a b=>.seq l a.er b.er
 |.cond c a b=>.cond c a.er b.er
 |.block i a=>.block i a.er
 |.loop l _ a=>.loop l a.er
 |.exit i=>.exit i
 |.ret=>.ret
@[reducible] def oa (i d:Nat) (o:AOp):DOper:=⟨i,some d,.a false o none,none,[]⟩
@[reducible] def ob (i d:Nat) (o:AOp):DOper:=⟨i,some d,.a true o none,none,[]⟩
@[reducible] def om (i d t:Nat):DOper:=⟨i,some d,.a false (.mv (.t t)) none,none,[]⟩
@[reducible] def on (i d t:Nat):DOper:=⟨i,some d,.a true (.mv (.t t)) none,none,[]⟩
@[reducible] def oi (i d:Nat) (n:Int):DOper:=⟨i,some d,.a false (.mv (.c (.int .i64 n))) none,none,[]⟩
@[reducible] def os (i:Nat) (o:AOp):DOper:=⟨i,none,.a false o none,none,[]⟩
@[reducible] def oc (i d:Nat) (f:A3) (p:Cf) (D:Fm) (args:List Opnd):DOper:=⟨i,some d,.call false f p D args,none,[]⟩
@[reducible] def og (i d:Nat) (o:AOp) (g:Nat) (b:Bool):DOper:=⟨i,some d,.a false o none,some (g,b),[]⟩
@[reducible] def xA (i d:Nat) (o:AOp) (a:List Nat):DOper:=⟨i,some d,.a false o none,none,a⟩
@[reducible] def xS (i:Nat) (o:AOp) (a:List Nat):DOper:=⟨i,none,.a false o none,none,a⟩
@[reducible] def op (i d:Nat) (f:A3) (p:Cf) (D:HY) (args:List Opnd):DOper:=⟨i,some d,.callp false f p D args,none,[]⟩
def gu:Nat→Nat→List Nat
 |_,0=>[]
 |k,n+1=>k::gu (k+1) n
def rg(n:Nat):List Nat:=gu 0 n
def DU:List Opnd→DS→DS
 |[],st=>st
 |x::r,st=>DU r (Ei x st).2
def Ep(s:List DC):List Opnd→List DV
 |[]=>[]
 |x::r=>x.dev s::Ep s r
def Lp(D:Fm)(args:List Opnd)(st:DS):Dx:=
 let as:=Ep st.sl args
 if G1 as&&!(DV.hasPtrL as) then (match D (DV.nrmV (DV.fzL as)) with
  |some (g,v)=>if v.ok&&!v.hasPtr&&(v.deep||!(DV.holdL as)) then some (g,v,st) else none
  |none=>none)
 else none
def Ql.isH':Ql→Bool
 |.bor (.h _) _ _=>true
 |.pre (.h _) _=>true
 |_=>false
mutual
def DV.isH:DV→Bool
 |.nil q=>q.isH'
 |.sl q _ _=>q.isH'
 |.ep q _ _ _ _=>q.isH'
 |.agg cs=>DV.isHL cs
 |.tup vs=>DV.isHL vs
 |_=>false
def DV.isHL:List DV→Bool
 |[]=>false
 |v::r=>v.isH||DV.isHL r
end
def PM:List DC→List DC
 |[]=>[]
 |c::r=>(if c.v.isH then ⟨true,.any⟩ else c)::PM r
def Gn:List (List DC)→List (List DV)
 |[]=>[]
 |b::r=>BJ b::Gn r
def newsB:List (List DV)→List (List DC)
 |[]=>[]
 |b::r=>news b::newsB r
def Lx:List DC→List DV→List DC
 |[],vs=>news vs
 |c::r,[]=>c::r
 |c::r,v::vs=>(if v.isAny then c else ⟨true,v⟩)::Lx r vs
def LG:List (List DC)→List (List DV)→List (List DC)
 |[],vs=>newsB vs
 |c::r,[]=>c::r
 |c::r,v::vs=>Lx c v::LG r vs
def Nu:List DV→List DV→List DV
 |[],vs=>vs
 |c::r,[]=>c::r
 |c::r,v::vs=>(if v.isAny then c else v)::Nu r vs
def Jg:List (List DV)→List (List DV)→List (List DV)
 |[],vs=>vs
 |c::r,[]=>c::r
 |c::r,v::vs=>Nu c v::Jg r vs
def TM:List (List DV)→Bool
 |[]=>true
 |b::r=>Nat.blt 0 b.length&&DV.okL b&&TM r
def Gk:List (List DV)→List (List PV)
 |[]=>[]
 |b::r=>DV.encL b::Gk r
def DV.isP0:DV→Bool
 |.ptr 0 0=>true
 |_=>false
def I6(D:HY)(args:List Opnd)(st:DS):Dx:=
 let as:=Ep st.sl args
 if G1 as&&!(DV.holdL as)&&TM (Gn st.hp) then
  (if DV.hasPtrL as then (match D (DV.nrmV (DV.fzL as)) (Gn st.hp) with
   |some (g,v,H)=>if v.ok&&!v.hasPtr then some (g,v,{ st with sl:=PM st.sl,hp:=LG st.hp H }) else none
   |none=>none)
  else if st.hp.length == 0 then (match D (DV.nrmV (DV.fzL as)) [] with
   |some (g,v,H)=>if v.isP0 then some (g,v,{ st with hp:=newsB H }) else none
   |none=>none)
  else none)
 else none
def DV.ownS:DV→Bool
 |.sl .own _ _|.nil .own=>true
 |_=>false
def PE(i c:Nat)(D:HY)(args:List Opnd)(st:DS):Dx:=
 if DV.hasPtrL (Ep st.sl args)&&(BQ st (.b i) [c]).ownS then I6 D args st else none
def DV.isAgg:DV→Bool
 |.agg _=>true
 |_=>false
def DV.flatc:DV→Bool
 |.bool _|.int _ _|.str _|.ifc _=>true
 |_=>false
def TA:Nat→List DV→Option (Hd×Nat)
 |_,[]=>none
 |c,.sl (.bor hd [p] true) _ _::_=>if Nat.ble c p&&hd.sb then some (hd,p-c) else none
 |c,.nil (.bor hd [p] true)::_=>if Nat.ble c p&&hd.sb then some (hd,p-c) else none
 |c,_::r=>TA (c+1) r
def Es(st:DS)(hd:Hd):Nat→List DV→Option (PX×List DV)
 |_,[]=>some (.tt,[])
 |c,.sl q _ l::vs=>if D8 q (.bor hd [c] true) then (match BQ st hd [c],Es st hd (c+1) vs with
  |.sl .own r' l',some (g,os)=>some (PX.land (.p (l.length=l'.length)) g,.sl .own r' l'::os)
  |.nil .own,some (g,os)=>some (PX.land (.p (l.length=0)) g,.nil .own::os)
  |_,_=>none) else none
 |c,.nil q::vs=>if D8 q (.bor hd [c] true) then (match BQ st hd [c],Es st hd (c+1) vs with
  |.sl .own r' l',some (g,os)=>some (PX.land (.p (l'.length=0)) g,.sl .own r' l'::os)
  |.nil .own,some (g,os)=>some (g,.nil .own::os)
  |_,_=>none) else none
 |c,v::vs=>if v.flatc then (match Es st hd (c+1) vs with
  |some (g,os)=>some (g,v::os)
  |none=>none) else none
def Hg(hd:Hd):Nat→List DV→DS→Option DS
 |_,[],st=>some st
 | c,.sl q r l::vs,st=>(match BQ st hd [c] with
   |.sl .own _ _=>Hg hd (c+1) vs (FN st (.sl q r l) hd [c])
   |.nil .own=>Hg hd (c+1) vs (FN st (.sl q r l) hd [c])
   |_=>none)
 |_,.nil _::_,_=>none
 |c,_::vs,st=>Hg hd (c+1) vs st
def Lq (M:DMk)(x k:Opnd)(st:DS):Dx:=
 match k.dev st.sl with
 | .int .i64 m=>if (x.dev st.sl).isAgg == M.agg&&(x.dev st.sl).argok&&M.r.pl then (match TA 0 (x.dev st.sl).cells with
   | some (hd,b)=>(match Es st hd b (x.dev st.sl).cells with
     | some (g,os)=>(match M.r.of os with
       | some y=>(match Hg hd b (M.r.dv .own (M.g y m).1) st with
         |some st'=>some (g.land (.p (M.ok y)),(match M.vd with|true=>.undef|false=>.int .i64 (M.g y m).2),st')
         |none=>none)
       |none=>none)
     |none=>none)
   |none=>none) else none
 |_=>none
def K7(a:DV)(n:Nat)(st:DS):Dx:=
 match a with
 |.box i o=>J1 true i (some n) (.box i o) st
 |.ptr i o=>I5 true (some n) (.ptr i o) st
 |_=>none
def DV.hld:DV→Option (Hd×Nat)
 |.box i o=>some (.b i,o)
 |.ptr i o=>some (.h i,o)
 |_=>none
def ir(c:DC):DC:=
 match c.v with
 |.sl .frz _ _=>c
 |.nil .frz=>c
 |.sl _ _ _=>⟨true,c.v.fz⟩
 |.nil _=>⟨true,c.v.fz⟩
 |.any=>c
 |.undef=>c
 |.int _ _=>c
 |.bool _=>c
 |.str _=>c
 |.ifc _=>c
 |_=>⟨true,c.v.fz⟩
def Nt:List DC→List DC
 |[]=>[]
 |c::r=>ir c::Nt r
def LA(a:DV)(st:DS):Option DS:=
 match a with
 |.box i _=>some { st with sl:=CH (.b i) st.sl,bx:=D2 st.bx i (Nt (Br st.bx i)) }
 |.ptr i _=>some { st with sl:=CH (.h i) st.sl,hp:=D2 st.hp i (Nt (Br st.hp i)) }
 |_=>none
def Lw(a:Opnd)(t:Nat)(st:DS):Option (PX×DS):=
 match (a.dev st.sl).hld,Bb st.sl t with
 | some (hd,b),.agg cs=>(match Es st hd b cs with
   | some (g,os)=>(match K7 (a.dev st.sl) os.length st with
     |some (g2,_,st1)=>some (g.land g2,st1.put (some t) (.agg os))
     |none=>none)
   |none=>none)
 |_,_=>none
def B0(o:DOp)(d:Option Nat)(k:DS→DT)(st:DS):DT:=
 match o with
 | .call m _ _ D args=>(match Lp D args (if m then DU args st else st) with
   |some (g,v,st)=>DT.chk' g (k (st.put d v))
   |none=>.bad)
 | .callp m _ _ D args=>(match I6 D args (if m then DU args st else st) with
   |some (g,v,st)=>DT.chk' g (k (st.put d v))
   |none=>.bad)
 |.fz x=>if (Ei x st).1.ok then k ((Ei x st).2.put d (Ei x st).1.nrm) else .bad
 | .fzb a o=>(match LA (a.dev st.sl) st with
   | some st=>(match A8 false o none st with
     |some (g,v,st)=>DT.chk' g (k (st.put d v))
     |none=>.bad)
   |none=>.bad)
 | .clm a t o=>(match Lw a t st with
   | some (g0,st)=>(match A8 false o none st with
     |some (g,v,st)=>DT.chk' (g0.land g) (k (st.put d v))
     |none=>.bad)
   |none=>.bad)
 | .callv m _ _ D args i c=>(match PE i c D args (if m then DU args st else st) with
   |some (g,v,st)=>DT.chk' g (k (st.put d v))
   |none=>.bad)
 | .aw ws m o ty=>(match Le ws m o ty st with
   |some (g,v,st)=>DT.chk' g (k (st.put d v))
   |none=>.bad)
 | .mark _ M x y=>(match Lq M x y st with
   |some (g,v,st)=>DT.chk' g (k (st.put d v))
   |none=>.bad)
 | .a m o ty=>(match o with
   | .pick c a b=>(match c.dev st.sl with
     | .bool (.lit t)=>(match if t then A7 a st else A7 b st with
       |(v,st)=>if v.ok then k (st.put d v) else .bad)
     | .bool (.dyn t)=>
       if (a.dev st.sl).own||(b.dev st.sl).own||!(CM t (a.dev st.sl) (b.dev st.sl)).ok then .node t (match A7 a st with|(v,st)=>if v.ok then k (st.put d v) else .bad) (match A7 b st with|(v,st)=>if v.ok then k (st.put d v) else .bad)
       else k (st.put d (CM t (a.dev st.sl) (b.dev st.sl)))
     |_=>.bad)
   | o=>(match A8 m o ty st with
     |some (g,v,st)=>DT.chk' g (k (st.put d v))
     |none=>.bad))
def LC(st:DS)(g:Nat)(b:Bool):DS:={ st with sl:=C0 st.sl g (.bool (.lit b)) }
def Nk(o:DOper)(k:DS→DT)(st:DS):DT:=
 match o.guard with
 |none=>B0 o.op o.dst k st
 | some (g,want)=>(match Bb st.sl g with
   |.bool (.lit b)=>if b == want then B0 o.op o.dst k st else k (st.put o.dst (.tup []))
   |.bool (.dyn b)=>.node b (if want then B0 o.op o.dst k (LC st g true) else k ((LC st g true).put o.dst (.tup []))) (if want then k ((LC st g false).put o.dst (.tup [])) else B0 o.op o.dst k (LC st g false))
   |.tup []=>k (st.put o.dst (.tup []))
   |_=>.bad)
def H7:List DOper→DS→DT
 |[],st=>.leaf .normal st
 |o::r,st=>Nk o (H7 r) st
def setc(st:DS)(c:Opnd)(b:Bool):DS:=match c with
 |.t g=>LC st g b
 |.c _=>st
def dev:DCode→DS→DT
 |.skip,st=>.leaf .normal st
 |.region ops,st=>H7 ops st
 |.regionU ops,st=>if PJ (ops.map DOper.er) then H7 ops st else .bad
 |.seq l a b,st=>(dev a st.clean).then (fun st'=>dev b (Kh st (Tq l st'))) (Kh st)
 | .cond c a b,st=>(match c.dev st.sl with
   |.bool (.lit t)=>if t then dev a st else dev b st
   |.bool (.dyn t)=>.node t (dev a (setc st c true)) (dev b (setc st c false))
   |_=>.bad)
 |.block i a,st=>(dev a st).unexit i
 |.loop live n a,st=>M9 live n (fun st=>dev a st.clean) st
 |.exit i,st=>.leaf (.exit i) st
 |.ret,st=>.leaf .ret st
structure DFun where
 nparams:Nat
 nslots:Nat
 nbox:Nat
 pure:Bool
 res:List ARes
 body:DCode
def DFun.er(f:DFun):PFun:=⟨f.nparams,f.nslots,f.nbox,f.pure,f.res,f.body.er⟩
def Pm(st:DS):ARes→Option (DV×DS)
 |.tmp t=>if (Bb st.sl t).retok&&(Bb st.sl t).ok then some (Qi (Bb st.sl t) t st) else none
 | .cell t n=>(match Bb st.sl t with
   |.box i o=>if Nat.ble (o+n.getD 1) (Br st.bx i).length&&HV (BF (BJ (Br st.bx i)) o (n.getD 1)) then (J1 true i n (.box i o) st).map (·.2) else none
   |.ptr i o=>if Nat.ble (o+n.getD 1) (Br st.hp i).length&&HV (BF (BJ (Br st.hp i)) o (n.getD 1)) then (I5 true n (.ptr i o) st).map (·.2) else none
   |_=>none)
def MR(st:DS):List ARes→Option (List DV×DS)
 |[]=>some ([],st)
 | r :: rs=>(match Pm st r with
   | some (v,st)=>(match MR st rs with
     |some (vs,st)=>some (v::vs,st)
     |none=>none)
   |none=>none)
def FM(st:DS):List ARes→Option DV
 |[r]=>(Pm st r).map (·.1)
 |rs=>(MR st rs).map fun x=>.tup x.1
def DT.val(res:List ARes):DT→PX×Option DV
 |.leaf (.exit _) _=>(.ff,none)
 | .leaf _ st=>(match FM st res with
   |some v=>if v.ok&&!v.hasPtr then (.tt,some v) else (.ff,none)
   |none=>(.ff,none))
 | .node c a b=>(match a.val res,b.val res with
   |(g,none),(g',y)=>(PX.if' c g g',y)
   |(g,x),(g',none)=>(PX.if' c g g',x)
   |(g,some x),(g',some y)=>(PX.if' c g g',some (CM c x y)))
 | .chk g t=>(match t.val res with
   |(g',v)=>(g.land g',v))
 |.bad=>(.ff,none)
def Lf(n:Nat):List DC:=match n with
 |0=>[]
 |n+1=>⟨true,.any⟩::Lf n
def Lc:Nat→List (List DC)
 |0=>[]
 |n+1=>[]::Lc n
def P6(f:DFun)(args:List DV):PX×Option DV:=
 (dev f.body ⟨news args++Lf (f.nslots-f.nparams),Lc f.nbox,[]⟩).val f.res
end
def EC(c:DC)(p:PV):Prop:=c.v= .any∨p=c.v.enc
def EL:List DC→List PV→Prop
 |[],[]=>True
 |c::a,p::b=>EC c p∧EL a b
 |_,_=>False
def EBx(b:List DC)(p:List PV):Prop:=b=[]∨EL b p
def EB:List (List DC)→List (List PV)→Prop
 |[],[]=>True
 |c::a,p::b=>EBx c p∧EB a b
 |_,_=>False
structure ES (d:DS) (s:PS):Prop where
 sl:EL d.sl s.sl
 bx:EB d.bx s.bx
 hp:EB d.hp s.hp
theorem EL.len:∀ {a:List DC} {b:List PV},EL a b→a.length=b.length
 |[],[],_=>rfl
 |_::_,_::_,h=>by simp only[Ay,EL.len h.2]
theorem EB.len:∀ {a:List (List DC)} {b:List (List PV)},EB a b→a.length=b.length
 |[],[],_=>rfl
 |_::_,_::_,h=>by simp only[Ay,EB.len h.2]
def EV(v:DV)(p:PV):Prop:=v= .any∨p=v.enc
theorem EL.get:∀ {a:List DC} {b:List PV} (n:Nat),EL a b→EV (Bb a n) (Aa b n)
 |[],[],_,_=>.inl rfl
 |_::_,_::_,0,h=>h.1
 |_::_,_::_,n+1,h=>EL.get n h.2
theorem EL.put:∀ {a:List DC} {b:List PV} {v:DV} {p:PV} (n:Nat),EL a b→EV v p→EL (C0 a n v) (BA b n p)
 |[],[],_,_,_,_,_=>trivial
 |_::_,_::_,_,_,0,h,hv=>⟨hv,h.2⟩
 |_::_,_::_,_,_,n+1,h,hv=>⟨h.1,EL.put n h.2 hv⟩
theorem EB.get:∀ {a:List (List DC)} {b:List (List PV)} (n:Nat),EB a b→EBx (Br a n) (Aj b n)
 |[],[],_,_=>.inl rfl
 |_::_,_::_,0,h=>h.1
 |_::_,_::_,n+1,h=>EB.get n h.2
theorem EB.put:∀ {a:List (List DC)} {b:List (List PV)} {v:List DC} {p:List PV} (n:Nat),EB a b→EBx v p→EB (D2 a n v) (Bz b n p)
 |[],[],_,_,_,_,_=>trivial
 |_::_,_::_,_,_,0,h,hv=>⟨hv,h.2⟩
 |_::_,_::_,_,_,n+1,h,hv=>⟨h.1,EB.put n h.2 hv⟩
theorem EN:∀ (l:List DV),(DV.encL l).length=l.length
 |[]=>rfl
 |_::r=>by simp only[DV.encL,Ay,EN r]
theorem EL.splice:∀ {a:List DC} {b:List PV} (n:Nat) (vs:List DV),EL a b→EL (HE a n vs) (Aq b n (DV.encL vs))
 |[],[],_,[],_=>trivial
 |[],[],_,_::_,_=>trivial
 |_::_,_::_,0,[],h=>h
 |_::_,_::_,_+1,[],h=>h
 |_::_,_::_,0,v::vs,h=>⟨.inr rfl,EL.splice 0 vs h.2⟩
 |_::_,_::_,n+1,v::vs,h=>⟨h.1,EL.splice n (v::vs) h.2⟩
theorem On:∀ (cs:List DV) (n:Nat) (vs:List DV),DV.encL (HA cs n vs)=Aq (DV.encL cs) n (DV.encL vs)
 |[],_,[]=>rfl
 |_::_,0,[]=>rfl
 |_::_,_+1,[]=>rfl
 |[],0,_::_=>rfl
 |[],_+1,_::_=>rfl
 |_::r,0,v::vs=>by simp only[HA,DV.encL,Aq,On r 0 vs]
 |c::r,n+1,v::vs=>by simp only[HA,DV.encL,Aq,On r n (v::vs)]
theorem RG:∀ (cs:List DV) (o n:Nat),DV.encL (BF cs o n)=segm (DV.encL cs) o n
 |[],0,0=>rfl
 |[],0,_+1=>rfl
 |[],_+1,_=>rfl
 |_::_,0,0=>rfl
 |c::r,0,n+1=>by simp only[BF,DV.encL,segm,RG r 0 n]
 | _::r,o+1,n=>by
   simp only[BF,DV.encL,segm];exact RG r o n
theorem MC:∀ (cs:List DV) (n:Nat),(FQ cs n).enc=Aa (DV.encL cs) n
 |[],_=>rfl
 |_::_,0=>rfl
 |_::r,n+1=>MC r n
theorem Sq:∀ (cs:List DV) (n:Nat) (v:DV),DV.encL (Nr cs n v)=BA (DV.encL cs) n v.enc
 |[],_,_=>rfl
 |_::_,0,_=>rfl
 |_::r,n+1,v=>by simp only[Nr,DV.encL,BA,Sq r n v]
theorem EL.segm:∀ {a:List DC} {b:List PV} (o n:Nat),EL a b→DV.okL (BF (BJ a) o n)=true→Go.Ag.segm b o n=DV.encL (BF (BJ a) o n)
 |[],[],0,0,_,_=>rfl
 |[],[],0,_+1,_,_=>rfl
 |[],[],_+1,_,_,_=>rfl
 |_::_,_::_,0,0,_,_=>rfl
 | c::r,p::s,0,n+1,h,hk=>by
   simp only[BJ,BF,DV.okL,Ai] at hk
   simp only[BJ,BF,Go.Ag.segm,DV.encL]
   rw[EL.segm 0 n h.2 hk.2]
   rcases h.1 with h1|h1
   · rw[h1] at hk;cases hk.1
   · rw[h1]
 | _::r,_::s,o+1,n,h,hk=>by
   simp only[BJ,BF,Go.Ag.segm] at hk ⊢
   exact EL.segm o n h.2 hk
theorem Sj:∀ (a:List DC),(BJ a).length=a.length
 |[]=>rfl
 |_::r=>by simp only[BJ,Ay,Sj r]
theorem EL.news:∀ (vs:List DV),EL (Go.Ag.news vs) (DV.encL vs)
 |[]=>trivial
 |_::r=>⟨.inr rfl,EL.news r⟩
theorem dW(q:Ql)(es:List (List PV)):(PV.sl q es).own=q.own':=by cases q<;>rfl
theorem fq(q:Ql)(hd:Hd)(es:List (List PV)):(PV.sl q es).bor hd=q.bor' hd:=by cases q<;>rfl
theorem tY(q:Ql)(hd:Hd)(es:List (List PV))(j o:Nat):(PV.ep q es j o).bor hd=q.bor' hd:=by cases q<;>rfl
mutual
theorem HC:∀ (v:DV),v.enc.own=v.own
 |.any|.undef|.bool _|.int _ _|.str _|.ifc _|.box _ _|.ptr _ _=>rfl
 |.nil q=>dW q []
 |.sl q _ _=>dW q _
 |.ep q _ _ _ _=>by cases q<;>rfl
 |.agg cs=>Mz cs
 |.tup vs=>Mz vs
theorem Mz:∀ (l:List DV),PV.ownL (DV.encL l)=DV.ownL l
 |[]=>rfl
 |v::r=>by simp only[DV.encL,PV.ownL,DV.ownL,HC v,Mz r]
end
mutual
theorem Sw(hd:Hd):∀ (v:DV),v.enc.bor hd=v.bor hd
 |.any|.undef|.bool _|.int _ _|.str _|.ifc _|.box _ _|.ptr _ _=>rfl
 |.nil q=>fq q hd []
 |.sl q _ _=>fq q hd _
 |.ep q _ _ _ _=>tY q hd _ _ _
 |.agg cs=>VS hd cs
 |.tup vs=>VS hd vs
theorem VS(hd:Hd):∀ (l:List DV),PV.borL hd (DV.encL l)=DV.borL hd l
 |[]=>rfl
 |v::r=>by simp only[DV.encL,PV.borL,DV.borL,Sw hd v,VS hd r]
end
mutual
theorem tq:∀ (v:DV),v.enc.hold=v.hold
 |.any|.undef|.bool _|.int _ _|.str _|.ifc _|.box _ _|.ptr _ _=>rfl
 |.nil q=>by cases q<;>rfl
 |.sl q _ _=>by cases q<;>rfl
 |.ep q _ _ _ _=>by cases q<;>rfl
 |.agg cs=>OE cs
 |.tup vs=>OE vs
theorem OE:∀ (l:List DV),PV.holdL (DV.encL l)=DV.holdL l
 |[]=>rfl
 |v::r=>by simp only[DV.encL,PV.holdL,DV.holdL,tq v,OE r]
end
mutual
theorem SM:∀ (v:DV),v.fz.enc=v.enc.fz
 |.any|.undef|.bool _|.int _ _|.str _|.ifc _|.box _ _|.ptr _ _|.nil _|.sl _ _ _|.ep _ _ _ _ _=>rfl
 |.agg cs=>by simp only[DV.fz,DV.enc,PV.fz,MN cs]
 |.tup cs=>by simp only[DV.fz,DV.enc,PV.fz,MN cs]
theorem MN:∀ (l:List DV),DV.encL (DV.fzL l)=PV.fzL (DV.encL l)
 |[]=>rfl
 |v::r=>by simp only[DV.encL,PV.fzL,DV.fzL,SM v,MN r]
end
mutual
theorem Vn:∀ (v:DV),v.detop.enc=v.enc.detop
 |.any|.undef|.bool _|.int _ _|.str _|.ifc _|.box _ _|.ptr _ _=>rfl
 |.nil q=>by cases q<;>rfl
 |.sl q _ _=>by cases q<;>rfl
 |.ep q _ _ _ _=>by cases q<;>rfl
 |.agg cs=>by simp only[DV.detop,DV.enc,PV.detop,UZ cs]
 |.tup cs=>by simp only[DV.detop,DV.enc,PV.detop,UZ cs]
theorem UZ:∀ (l:List DV),DV.encL (DV.detopL l)=PV.detopL (DV.encL l)
 |[]=>rfl
 |v::r=>by simp only[DV.encL,PV.detopL,DV.detopL,Vn v,UZ r]
end
mutual
theorem Rq:∀ (v:DV),v.enc.hasPtr=v.hasPtr
 |.any|.undef|.bool _|.int _ _|.str _|.ifc _|.box _ _|.ptr _ _|.nil _|.sl _ _ _|.ep _ _ _ _ _=>rfl
 |.agg cs=>Jz cs
 |.tup vs=>Jz vs
theorem Jz:∀ (l:List DV),PV.hasPtrL (DV.encL l)=DV.hasPtrL l
 |[]=>rfl
 |v::r=>by simp only[DV.encL,PV.hasPtrL,DV.hasPtrL,Rq v,Jz r]
end
mutual
theorem eP:∀ (t:CT) (x:t.D),t.pl=true→(CT.enc t x).deep=true
 |.int _,_,_|.bool,_,_|.str,_,_|.ifc,_,_=>rfl
 | .sl r,l,h=>by
   simp only[CT.enc,PV.deep]
   exact VP r l h
 |.slf _,_,h=>by cases h
theorem fv:∀ (r:RT) (x:r.D),r.pl=true→PV.deepL (RT.enc r x)=true
 |.one t,x,h=>by simp only[RT.enc,PV.deepL,eP t x h,CG]
 | .cons t r,x,h=>by
   rw[RT.pl,Ai] at h
   simp only[RT.enc,PV.deepL,eP t x.1 h.1,fv r x.2 h.2,CG]
theorem VP:∀ (r:RT) (l:List r.D),r.pl=true→PV.deepE (l.map (RT.enc r))=true
 |_,[],_=>rfl
 |r,x::l,h=>by simp only[Bs,PV.deepE,fv r x h,VP r l h,CG]
end
theorem EL.clr(hd:Hd):∀ {a:List DC} {b:List PV},EL a b→EL (CH hd a) (Go.Ag.clr hd b)
 |[],[],_=>trivial
 | c :: _,p::_,h=>by
   refine⟨?_,EL.clr hd h.2⟩
   by_cases hb:c.v.bor hd=true
   · rw[Ab hb];exact .inl rfl
   · rw[Ad hb]
     rcases h.1 with h1|h1
     · exact .inl h1
     · rw[h1,Sw,Ad hb];exact .inr rfl
theorem rQ(i:Nat)(v:DV):v.enc.isBox i=v.isBox i:=by cases v<;>rfl
theorem EL.clearBox(i:Nat):∀ {a:List DC} {b:List PV},EL a b→EL (OK i a) (FD i b)
 |[],[],_=>trivial
 | c :: _,p::_,h=>by
   refine⟨?_,EL.clearBox i h.2⟩
   by_cases hb:c.v.isBox i=true
   · rw[Ab hb];exact .inl rfl
   · rw[Ad hb]
     rcases h.1 with h1|h1
     · exact .inl h1
     · rw[h1,rQ,Ad hb];exact .inr rfl
theorem EL.trim(live:List Nat):∀ {a:List DC} {b:List PV} (n:Nat),EL a b→EL (Ts live n a) (Fk live n b)
 |[],[],_,_=>trivial
 | c::_,p::_,n,h=>by
   refine⟨?_,EL.trim live (n+1) h.2⟩
   by_cases hb:live.contains n=true
   · rw[Ab hb,Ab hb];exact h.1
   · rw[Ad hb];exact .inl rfl
mutual
theorem dA:∀ (v:DV),v.hasTop=false→v.detop=v
 |.any,_|.undef,_|.bool _,_|.int _ _,_|.str _,_|.ifc _,_|.box _ _,_|.ptr _ _,_=>rfl
 |.nil q,h=>by cases q<;>first|rfl|(simp only[DV.hasTop,DV.top] at h;first|(subst h;rfl)|cases h)
 |.sl q _ _,h=>by cases q<;>first|rfl|(simp only[DV.hasTop,DV.top] at h;first|(subst h;rfl)|cases h)
 |.ep q _ _ _ _,h=>by cases q<;>first|rfl|(simp only[DV.hasTop,DV.top] at h;first|(subst h;rfl)|cases h)
 |.agg cs,h=>by simp only[DV.hasTop] at h;simp only[DV.detop,Vl cs h]
 |.tup cs,h=>by simp only[DV.hasTop] at h;simp only[DV.detop,Vl cs h]
theorem Vl:∀ (l:List DV),DV.hasTopL l=false→DV.detopL l=l
 |[],_=>rfl
 | v::r,h=>by
   simp only[DV.hasTopL,CK] at h
   simp only[DV.detopL,dA v h.1,Vl r h.2]
end
theorem EL.keep(live:List Nat):∀ {a:List DC} {b:List PV} (n:Nat),EL a b→EL (S3 live n a) (D1 live n b)
 |[],[],_,_=>trivial
 | c :: _,p::_,n,h=>by
   refine⟨?_,EL.keep live (n+1) h.2⟩
   by_cases hb:live.contains n=true
   · rw[Ab hb,Ab hb]
     rcases h.1 with h1|h1
     · rw[h1];exact .inl h1
     · by_cases ht:c.v.hasTop=true
       · rw[Ab ht,h1];exact .inr (Vn c.v).symm
       · rw[Ad ht,h1,← Vn,dA c.v (by simpa using ht)];exact .inr rfl
   · rw[Ad hb];exact .inl rfl
theorem EL.clean:∀ {a:List DC} {b:List PV},EL a b→EL (Go.Ag.clean a) b
 |[],[],_=>trivial
 |_::_,_::_,h=>⟨h.1,EL.clean h.2⟩
theorem EBx.clean{a:List DC}{b:List PV}(h:EBx a b):EBx (Go.Ag.clean a) b:=by
 rcases h with rfl|h
 · exact .inl rfl
 · exact .inr h.clean
theorem EB.clean:∀ {a:List (List DC)} {b:List (List PV)},EB a b→EB (M6 a) b
 |[],[],_=>trivial
 |_::_,_::_,h=>⟨h.1.clean,EB.clean h.2⟩
theorem ES.clean{d:DS}{s:PS}(h:ES d s):ES d.clean s:=⟨h.sl.clean,h.bx.clean,h.hp.clean⟩
theorem ES.trim{d:DS}{s:PS}(l:List Nat)(h:ES d s):ES (Tq l d) { s with sl:=Fk l 0 s.sl }:=⟨h.sl.trim l 0,h.bx,h.hp⟩
theorem ES.keep{d:DS}{s:PS}(l:List Nat)(h:ES d s):ES (Du l d) { s with sl:=D1 l 0 s.sl }:=⟨h.sl.keep l 0,h.bx,h.hp⟩
theorem EL.rem:∀ {x a:List DC} {b:List PV},EL a b→EL (Nw x a) b
 |[],[],[],_=>trivial
 |[],_::_,_::_,h=>h
 |_::_,[],[],_=>trivial
 |_::_,_::_,_::_,h=>⟨h.1,EL.rem h.2⟩
theorem EBx.rem{x a:List DC}{b:List PV}(h:EBx a b):EBx (Nw x a) b:=by
 rcases h with rfl|h
 · cases x<;>exact .inl rfl
 · exact .inr h.rem
theorem EB.rem:∀ {x a:List (List DC)} {b:List (List PV)},EB a b→EB (Qj x a) b
 |[],[],[],_=>trivial
 |[],_::_,_::_,h=>h
 |_::_,[],[],_=>trivial
 |_::_,_::_,_::_,h=>⟨h.1.rem,EB.rem h.2⟩
theorem ES.rem{x d:DS}{s:PS}(h:ES d s):ES (Kh x d) s:=⟨h.sl.rem,h.bx.rem,h.hp.rem⟩
theorem ES.put{d:DS}{s:PS}(x:Option Nat)(v:DV)(h:ES d s):ES (d.put x v) (s.put x v.enc):=by
 cases x with
 |none=>exact h
 | some n=>
   simp only[DS.put,PS.put,HC];by_cases ho:v.own=true
   · rw[Ab ho,Ab ho];exact⟨(h.sl.put n (.inr rfl)).clr _,h.bx,h.hp⟩
   · rw[Ad ho,Ad ho];exact⟨h.sl.put n (.inr rfl),h.bx,h.hp⟩
theorem OY(v:V)(h:Ia v≠.any):(Ia v).enc=Bn v:=by
 cases v<;>first|rfl|skip
 case tup vs=>cases vs<;>rfl
theorem Ee{d:DS}{s:PS}(x:Opnd)(h:ES d s)(hk:(A7 x d).1.ok=true):(mvOut x s).1=(A7 x d).1.enc∧ES (A7 x d).2 (mvOut x s).2:=by
 cases x with
 | c v=>
   refine⟨?_,h⟩;refine(OY v fun he=>?_).symm;simp only[A7,he,DV.ok,AF] at hk
 | t n =>
   simp only[A7,Qi,mvOut,Ev] at hk ⊢;rcases h.sl.get n with hg|hg
   · rw[hg] at hk;simp only[DV.own,AF,AU,DV.ok] at hk
   · rw[hg,HC,Sw];by_cases ho:(Bb d.sl n).own=true
     · simp only[ho,AE] at hk ⊢;by_cases hb:(Bb d.sl n).bor (.s n)=true
       · simp only[hb,AE,DV.ok,AF] at hk
       · simp only[hb] at hk ⊢;exact⟨rfl,(h.sl.put n (.inl rfl)).clr _,h.bx,h.hp⟩
     · simp only[ho] at hk ⊢;exact⟨rfl,h⟩
theorem sH(v:DV)(h:v.cell=true):v.enc.cell=true:=by
 cases v<;>first|rfl|cases h|skip
 case nil q=>cases q<;>first|rfl|cases h
 case sl q r l=>cases q<;>first|rfl|cases h
theorem KV:∀ (l:List DV),CQ l=true→Bi (DV.encL l)=true
 |[],_=>rfl
 | v::r,h=>by
   simp only[CQ,Ai] at h
   simp only[DV.encL,Bi,sH v h.1,KV r h.2,CG]
theorem vn(v:DV)(h:v.cell=true):v.ok=true:=by cases v<;>first|rfl|cases h
theorem bq:∀ (l:List DV),CQ l=true→DV.okL l=true
 |[],_=>rfl
 | v::r,h=>by
   simp only[CQ,Ai] at h
   simp only[DV.okL,vn v h.1,bq r h.2,CG]
theorem IM(v:DV):v.enc.cells=DV.encL v.cells:=by cases v<;>rfl
theorem OR(v:DV)(h:CQ v.cells=true):v.ok=true:=by
 cases v<;>first|rfl|(simp only[DV.cells,CQ,DV.cell,Jd,AF] at h)|skip
 case agg cs=>exact bq cs h
theorem VR(v:DV)(h:v.retc=true):v.enc.retc=true:=by
 cases v<;>first|rfl|cases h|skip
 case nil q=>cases q<;>first|rfl|cases h
 case sl q r l=>cases q<;>first|rfl|cases h
theorem Sm:∀ (l:List DV),HV l=true→Et (DV.encL l)=true
 |[],_=>rfl
 | v::r,h=>by
   simp only[HV,Ai] at h
   simp only[DV.encL,Et,VR v h.1,Sm r h.2,CG]
theorem bU(v:DV)(h:v.retok=true):v.enc.retok=true:=by
 cases v<;>first|rfl|cases h|skip
 case nil q=>exact VR (.nil q) h
 case sl q r l=>exact VR (.sl q r l) h
 case agg cs=>exact Sm cs h
theorem cU(v:DV)(h:v.argc=true):v.enc.argc=true:=by cases v<;>first|rfl|cases h
theorem cf:∀ (l:List DV),Tw l=true→H6 (DV.encL l)=true
 |[],_=>rfl
 | v::r,h=>by
   simp only[Tw,Ai] at h
   simp only[DV.encL,H6,cU v h.1,cf r h.2,CG]
theorem bS(v:DV)(h:v.argok=true):v.enc.argok=true:=by
 cases v<;>first|rfl|cases h|exact cU _ h|skip
 case agg cs=>exact cf cs h
theorem RA:∀ (l:List DV),G1 l=true→HP (DV.encL l)=true
 |[],_=>rfl
 | v::r,h=>by
   simp only[G1,Ai] at h
   simp only[DV.encL,HP,bS v h.1,RA r h.2,CG]
theorem Opnd.dev_ev{d:DS}{s:PS}(h:ES d s)(x:Opnd):EV (x.dev d.sl) (x.pev s.sl):=by
 cases x with
 |t n=>exact h.sl.get n
 | c v=>
   by_cases hv:Ia v= .any
   · exact .inl hv
   · exact .inr (OY v hv).symm
theorem EV.of{v:DV}{p:PV}(h:EV v p)(hn:v≠.any):p=v.enc:=h.resolve_left hn
theorem m0{op:BinOp}{k:IntKind}{a b:Int}{g:PX}{v:DV}(h:SA op k a b=some (g,v))(hg:g.den):(Dj op k a b).map PV.fl=some v.enc:=by
 cases op<;>simp only[SA,dI,dB,Ah,Ak,reduceCtorEq] at h<;>obtain⟨rfl,rfl⟩:=h<;>simp only[Dj,Xf,gj,fP,Xo,Td,fO,xp,wL,sv,Tx,ik,ig,gM,hJ,iq,DV.enc,BX.b,BM]
 · rw[Ad (show ¬ b=0 from hg)];rfl
 · rw[Ad (show ¬ b=0 from hg)];rfl
theorem ZQ{op:BinOp}{k:IntKind}{a b:Int}{g:PX}{v:DV}(h:SO op k a b=some (g,v))(hg:g.den):(KX op k a b).map PV.fl=some v.enc:=by
 cases op<;>simp only[SO,Ah,Ak,reduceCtorEq] at h<;>obtain⟨rfl,rfl⟩:=h<;>simp only[KX,wm,fT,DV.enc]<;>rw[Ad (show ¬ b<0 from Int.not_lt.mpr hg)]<;>rfl
theorem Sy{k k':IntKind}(h:IntKind.same k k'=true):k=k':=by simpa [IntKind.same] using h
theorem pR{op:BinOp}{a b:DV}{p q:PV}{g:PX}{v:DV}(ha:EV a p)(hb:EV b q)(h:Nv op a b=some (g,v))(hg:g.den):Na op p q=some v.enc:=by
 cases a<;>try (simp only[Nv,reduceCtorEq] at h)
 case int k a=>
  cases b<;>try (simp only[Nv,reduceCtorEq] at h)
  case int k' b=>
   rw[ha.of (by simp),hb.of (by simp)];simp only[DV.enc,Na,B9];by_cases h1:op= .shl
   · subst h1;exact ZQ h hg
   · by_cases h2:op= .shr
     · subst h2;exact ZQ h hg
     · have h3:(if IntKind.same k k'=true then SA op k a b else none)=some (g,v):=by cases op<;>first|exact h|exact absurd rfl h1|exact absurd rfl h2
       by_cases hk:IntKind.same k k'=true
       · rw[Ab hk] at h3;have:=Sy hk;subst this;have h4:=m0 h3 hg
         cases op<;>simp only[AE]<;>first|exact h4|exact absurd rfl h1|exact absurd rfl h2
       · rw[Ad hk] at h3;cases h3
 case str a=>
  cases b<;>try (simp only[Nv,reduceCtorEq] at h)
  case str b=>
   rw[ha.of (by simp),hb.of (by simp)];cases op<;>simp only[Nv,dB,Ah,Ak,reduceCtorEq] at h<;>obtain⟨rfl,rfl⟩:=h<;>simp only[DV.enc,Na,B9,fH,gN,ie,BX.b,BM];rw[Ab (show a.length+b.length≤9223372036854775807 from hg)];rfl
theorem Xi(x:BX):x.not.b=!x.b:=by cases x<;>simp only[BX.not,BX.b,M5]
theorem xt(x y:BX):(x.eq y).b=(x.b == y.b):=by
 cases x with
 | lit a=>cases y with
   |lit b=>rfl
   |dyn b=>cases a<;>cases b<;>simp only[BX.eq,BX.b,M5]<;>rfl
 | dyn a=>cases y with
   |lit b=>cases a<;>cases b<;>simp only[BX.eq,BX.b,M5]<;>rfl
   |dyn b=>simp only[BX.eq,BX.b,fQ]
theorem pT{neg:Bool}{a b:DV}{p q:PV}{g:PX}{v:DV}(ha:EV a p)(hb:EV b q)(h:TF neg a b=some (g,v)):PW neg p q=some v.enc:=by
 cases a<;>try (simp only[TF,reduceCtorEq] at h)
 case bool a=>
  cases b<;>try (simp only[TF,reduceCtorEq] at h)
  case bool b=>
   rw[ha.of (by simp),hb.of (by simp)];simp only[Eu,Ah,Ak] at h;obtain⟨rfl,rfl⟩:=h;cases neg<;>simp only[DV.enc,PW,AE,AF,AU,Xi,xt]
theorem pI{neg:Bool}{a:DV}{p:PV}{g:PX}{v:DV}(ha:EV a p)(h:XW neg a=some (g,v)):P0 neg p=some v.enc:=by
 cases a<;>try (simp only[XW,reduceCtorEq] at h)
 case ifc a=>
  rw[ha.of (by simp)];simp only[dB,Ah,Ak] at h;obtain⟨rfl,rfl⟩:=h;cases neg<;>simp only[DV.enc,P0,AE,AF,AU,M5,BX.b]
theorem sq{op:UnOp}{a:DV}{p:PV}{g:PX}{v:DV}(ha:EV a p)(h:X4 op a=some (g,v)):P7 op p=some v.enc:=by
 cases op<;>cases a<;>simp only[X4,Eu,dI,Ah,Ak,reduceCtorEq] at h<;>obtain⟨rfl,rfl⟩:=h<;>rw[ha.of (by simp)]<;>simp only[DV.enc,P7,Hj,BM,Xi,fB]
theorem ow{k:IntKind}{a:DV}{p:PV}{g:PX}{v:DV}(ha:EV a p)(h:XG k a=some (g,v)):Py k p=some v.enc:=by
 cases a<;>simp only[XG,dI,Ah,Ak,reduceCtorEq] at h;obtain⟨rfl,rfl⟩:=h;rw[ha.of (by simp)];simp only[DV.enc,Py,SH]
theorem nF{a:DV}{p:PV}{g:PX}{v:DV}(ha:EV a p)(h:Xa a=some (g,v)):SD p=some v.enc:=by
 cases a<;>simp only[Xa,Eu,Ah,Ak,reduceCtorEq] at h<;>obtain⟨rfl,rfl⟩:=h<;>rw[ha.of (by simp)]<;>rfl
theorem nk{off:Nat}{a:DV}{p:PV}{g:PX}{v:DV}(ha:EV a p)(h:Wb off a=some (g,v)):R5 off p=some v.enc:=by
 cases a<;>simp only[Wb,Eu,Ah,Ak,reduceCtorEq] at h<;>obtain⟨rfl,rfl⟩:=h<;>rw[ha.of (by simp)]<;>rfl
theorem pC{a:DV}{p:PV}{g:PX}{v:DV}(ha:EV a p)(h:XT a=some (g,v)):PO p=some v.enc:=by
 cases a<;>simp only[XT,dI,Ah,Ak,reduceCtorEq] at h<;>obtain⟨rfl,rfl⟩:=h<;>rw[ha.of (by simp)]<;>simp only[DV.enc,PO,A0,WS,AJ]<;>rfl
theorem oH{a:DV}{p:PV}{g:PX}{v:DV}(ha:EV a p)(h:XI a=some (g,v)):PC p=some v.enc:=by
 cases a<;>simp only[XI,dI,Ah,Ak,reduceCtorEq] at h;obtain⟨rfl,rfl⟩:=h;rw[ha.of (by simp)];simp only[DV.enc,PC,WS]
theorem nJ{a b:DV}{p q:PV}{g:PX}{v:DV}(ha:EV a p)(hb:EV b q)(h:Tl a b=some (g,v))(hg:g.den):Pf p q=some v.enc:=by
 cases a<;>try (simp only[Tl,reduceCtorEq] at h)
 cases b<;>simp only[Tl,Ah,Ak,reduceCtorEq] at h;obtain⟨rfl,rfl⟩:=h;rw[ha.of (by simp),hb.of (by simp)];simp only[DV.enc,Pf,fY];exact Ab hg
theorem I2:∀ (r:RT) (x:r.D),(RT.enc r x).length=r.w
 |.one _,_=>rfl
 |.cons _ r,x=>by simp only[RT.enc,Ay,RT.w,I2 r x.2]
theorem EM(r:RT):∀ (l:List r.D),Ck r.w (l.map (RT.enc r))=true
 |[]=>rfl
 |x::l=>by simp only[Bs,Ck,I2,beq_self_eq_true,EM r l,CG]
theorem ni{w:Nat}{x:Opnd}{a b:DV}{p q:PV}{g:PX}{v:DV}(ha:EV a p)(hb:EV b q)(h:O8 w x a b=some (g,v))(hg:g.den):OT w x p q=some v.enc:=by
 cases a<;>try (simp only[O8,reduceCtorEq] at h)
 case sl q' r l=>
  cases b<;>try (simp only[O8,reduceCtorEq] at h)
  case int k j=>
   rw[ha.of (by simp),hb.of (by simp)];by_cases hw:(r.w == w)=true
   · rw[Ab hw] at h
     have hw':r.w=w:=by simpa using hw
     subst hw'
     cases hq:Em x q' with
     |none=>rw[hq] at h;cases h
     | some q2=>
       rw[hq] at h;simp only[Ah,Ak] at h;obtain⟨rfl,rfl⟩:=h;simp only[DV.enc,OT,A0,Xe];rw[Ab ⟨hg.1,hg.2,EM r l⟩,hq];rfl
   · rw[Ad hw] at h;cases h
 case nil q'=>cases b<;>simp only[O8,reduceCtorEq] at h
theorem o5{a b:DV}{p q:PV}{g:PX}{v:DV}(ha:EV a p)(hb:EV b q)(h:XX a b=some (g,v)):PQ p q=some v.enc:=by
 unfold XX at h;split at h
 · simp only[dI,Ah,Ak] at h;obtain⟨rfl,rfl⟩:=h;rw[ha.of (by simp),hb.of (by simp)];simp only[DV.enc,PQ,wM]
 · cases h
theorem p9{a b:DV}{p q:PV}{g:PX}{v:DV}(ha:EV a p)(hb:EV b q)(h:XS a b=some (g,v)):PH p q=some v.enc:=by
 unfold XS at h;split at h
 · simp only[dI,Ah,Ak] at h;obtain⟨rfl,rfl⟩:=h;rw[ha.of (by simp),hb.of (by simp)];simp only[DV.enc,PH,wK]
 · cases h
theorem land_den(a b:PX):(a.land b).den↔a.den∧b.den:=by
 cases a<;>cases b<;>simp[PX.land,PX.den]
theorem Rb{d:Nat}{x:Option DV}{y:Option PV}{g:PX}{n:Nat}(hx:match x,y with|none,none=>True|some v,some p=>EV v p|_,_=>False)(h:G8 d x=some (g,n))(hg:g.den):I1 d y=some n:=by
 cases x with
 | none=>
   cases y with
   |none=>simp only[G8,Ah,Ak] at h;rw[← h.2];rfl
   |some p=>cases hx
 | some v=>
   cases y with
   |none=>cases hx
   | some p=>
     cases v<;>simp only[G8,Ah,Ak,reduceCtorEq] at h;obtain⟨rfl,rfl⟩:=h;rw[EV.of hx (by simp)];simp only[DV.enc,I1,Xe];exact Ab hg
theorem nh{lo hi:Option DV}{lo' hi':Option PV}{a:DV}{p:PV}{g:PX}{v:DV}(hl:match lo,lo' with|none,none=>True|some v,some p=>EV v p|_,_=>False)(hh:match hi,hi' with|none,none=>True|some v,some p=>EV v p|_,_=>False)(ha:EV a p)(h:Wc lo hi a=some (g,v))(hg:g.den):OP lo' hi' p=some v.enc:=by
 cases a<;>try (simp only[Wc,reduceCtorEq] at h)
 case str t=>
  rw[ha.of (by simp)]
  cases h1:G8 0 lo with
  |none=>rw[h1] at h;cases h
  | some x=>
    cases h2:G8 (lN t) hi with
    |none=>rw[h1,h2] at h;cases h
    | some y=>
      obtain⟨g1,a⟩:=x;obtain⟨g2,b⟩:=y;rw[h1,h2] at h;simp only[Ah,Ak] at h;obtain⟨rfl,rfl⟩:=h;rw[land_den,land_den] at hg;have e1:=Rb hl h1 hg.1.1;have e2:=Rb hh h2 hg.1.2;simp only[Qb] at e2;simp only[DV.enc,OP,e1,e2,Xr];exact Ab hg.2
theorem nO{w:Nat}{x:Opnd}{lo hi:Option DV}{lo' hi':Option PV}{a:DV}{p:PV}{g:PX}{v:DV}(hl:match lo,lo' with|none,none=>True|some v,some p=>EV v p|_,_=>False)(hh:match hi,hi' with|none,none=>True|some v,some p=>EV v p|_,_=>False)(ha:EV a p)(h:WO w x lo hi a=some (g,v))(hg:g.den):Pk w x lo' hi' p=some v.enc:=by
 cases a<;>try (simp only[WO,reduceCtorEq] at h)
 case sl q r t=>
  rw[ha.of (by simp)]
  cases h1:G8 0 lo with
  |none=>rw[h1] at h;cases h
  | some x1 =>
    cases h2:G8 (lN t) hi with
    |none=>rw[h1,h2] at h;cases h
    | some y=>
      obtain⟨g1,a⟩:=x1;obtain⟨g2,b⟩:=y;rw[h1,h2] at h;simp only at h;by_cases hw:(r.w == w)=true
      · rw[Ab hw] at h
        have hw':r.w=w:=by simpa using hw
        subst hw'
        cases hq:iA x lo.isNone q with
        |none=>rw[hq] at h;cases h
        | some q'=>
          rw[hq] at h;simp only[Ah,Ak] at h;obtain⟨rfl,rfl⟩:=h;rw[land_den,land_den] at hg;have e1:=Rb hl h1 hg.1.1;have e2:=Rb hh h2 hg.1.2;simp only[Qb] at e2
          have hz:Eo x (if lo'.isNone=true then 0 else 1) q=some q':=by
           have:lo'.isNone=lo.isNone:=by cases lo<;>cases lo'<;>first|rfl|exact hl.elim
           rw[this];exact hq
          simp only[DV.enc,Pk,A0,e1,e2,Xr,hz];rw[Ab ⟨hg.2.1,hg.2.2.1,hg.2.2.2,EM r t⟩,List.map_take,List.map_drop];rfl
      · rw[Ad hw] at h;cases h
theorem sY(hd:Hd)(p:List Nat)(v:DV):(XD hd p v).enc=Cu hd p v.enc:=by
 cases v<;>first|rfl|skip
 case nil q=>cases q<;>rfl
 case sl q r l=>cases q<;>rfl
theorem O1(hd:Hd):∀ (n:Nat) (l:List DV),DV.encL (HS hd n l)=FP hd n (DV.encL l)
 |_,[]=>rfl
 |n,v::r=>by simp only[HS,DV.encL,FP,sY,O1 hd (n+1) r]
theorem Mu{n:Option Nat}{cs:List DV}{v:DV}(h:EW n cs=some v):C8 n (DV.encL cs)=some v.enc:=by
 cases n with
 |some n=>simp only[EW,Ah] at h;subst h;rfl
 | none=>match cs,h with
   |[x],h=>simp only[EW,Ah] at h;subst h;rfl
theorem nH{off:Nat}{n:Option Nat}{x:Opnd}{a:DV}{p:PV}{g:PX}{v:DV}(ha:EV a p)(h:Xh off n x a=some (g,v)):Pd off n x p=some v.enc:=by
 cases a<;>try (simp only[Xh,reduceCtorEq] at h)
 case agg cs=>
  rw[ha.of (by simp)]
  cases x with
  |c _=>cases h
  | t t =>
    simp only at h;by_cases hc:(Nat.ble (off+n.getD 1) cs.length&&DV.okL (BF cs off (n.getD 1)))=true
    · rw[Ab hc] at h;rw[Ai] at hc
      cases hv:EW n (HS (.s t) off (BF cs off (n.getD 1))) with
      |none=>rw[hv] at h;cases h
      | some w=>
        rw[hv] at h;simp only[BM,Ah,Ak] at h;obtain⟨rfl,rfl⟩:=h;have:=Mu hv;rw[O1,RG] at this;simp only[DV.enc,Pd,EN];rw[Ab (CF hc.1)];exact this
    · rw[Ad hc] at h;cases h
theorem ny:∀ {r:RT} {l:List r.D} {s:List UInt8},SY r l=some s→BN (l.map (RT.enc r))=some s
 | .one (.int .u8),l,s,h=>by
   simp only[SY,Ah] at h
   subst h
   refine Eq.trans ?_ (congrArg some (fU l).symm)
   induction l with
   |nil=>rfl
   | cons x l ih=>
     show (BN (l.map (RT.enc (.one (.int .u8))))).map (fun s=>UInt8.ofNat (Int.toNat x)::s)=_
     rw[ih];rfl
theorem nU{a:DV}{p:PV}{g:PX}{v:DV}(ha:EV a p)(h:XB a=some (g,v)):Pn p=some v.enc:=by
 cases a<;>try (simp only[XB,reduceCtorEq] at h)
 case nil q=>
  rw[ha.of (by simp)];simp only[Eu,Ah,Ak] at h;obtain⟨rfl,rfl⟩:=h;rfl
 case sl q r l=>
  rw[ha.of (by simp)]
  cases hs:SY r l with
  |none=>rw[hs] at h;cases h
  | some s=>
    rw[hs] at h;simp only[BM,Ah,Ak] at h;obtain⟨rfl,rfl⟩:=h;simp only[DV.enc,Pn,ny hs,BM]
theorem Ze:∀ {a b:List DV} {t:BX},JI a b=some t→∃ x y,Dv (DV.encL a)=some x∧Dv (DV.encL b)=some y∧x.length=a.length∧y.length=b.length∧x.all V.flat=true∧y.all V.flat=true∧Ds x y=some t.b
 | [],[],t,h=>by
   simp only[JI,Ah] at h;subst h;exact⟨[],[],rfl,rfl,rfl,rfl,rfl,rfl,rfl⟩
 | .int k a::x,.int k' b::y,t,h=>by
   unfold JI at h;by_cases hk:IntKind.same k k'=true
   · rw[Ab hk] at h;have:=Sy hk;subst this
     have key:∀ t',JI x y=some t'→t.b=((a == b)&&t'.b)→∃ x1 y1,Dv (DV.encL (.int k a::x))=some x1∧Dv (DV.encL (.int k b::y))=some y1∧x1.length=(DV.int k a::x).length∧y1.length=(DV.int k b::y).length∧x1.all V.flat=true∧y1.all V.flat=true∧Ds x1 y1=some t.b:=by
      intro t' ht hb;obtain⟨x1,y1,h1,h2,h3,h4,h5,h6,h7⟩:=Ze ht;refine⟨.int k a::x1,.int k b::y1,?_,?_,by simp[h3],by simp[h4],?_,?_,?_⟩
      · simp only[DV.encL,DV.enc,Dv,h1]
      · simp only[DV.encL,DV.enc,Dv,h2]
      · simp only[ET,V.flat,h5,CG]
      · simp only[ET,V.flat,h6,CG]
      · simp only[Ds,M8,AE]
        cases hab:(a == b) with
        |true=>simp only[h7,hb,hab,JY]
        |false=>simp only[hb,hab,Lt]
     split at h
     · simp only[Ah] at h;subst h;exact key (.lit true) rfl (by simp only[BX.b,Tx,Jd])
     · cases ht:JI x y with
       |none=>rw[ht] at h;cases h
       | some t'=>
         rw[ht] at h;simp only[BM,Ah] at h;subst h;exact key t' ht (by simp only[BX.b,Tx,W6])
   · rw[Ad hk] at h;cases h
theorem o9{n:Nat}{neg:Bool}{a b:DV}{p q:PV}{g:PX}{v:DV}(ha:EV a p)(hb:EV b q)(h:TJ n neg a b=some (g,v)):P4 n neg p q=some v.enc:=by
 cases a<;>try (simp only[TJ,reduceCtorEq] at h)
 case agg a=>
  cases b<;>try (simp only[TJ,reduceCtorEq] at h)
  case agg b=>
   rw[ha.of (by simp),hb.of (by simp)];by_cases hl:(a.length == n&&b.length == n)=true
   · rw[Ab hl] at h;rw[Ai,AV,AV] at hl
     cases ht:JI a b with
     |none=>rw[ht] at h;cases h
     | some t=>
       rw[ht] at h;simp only[Eu,Ah,Ak] at h;obtain⟨rfl,rfl⟩:=h;obtain⟨x,y,h1,h2,h3,h4,h5,h6,h7⟩:=Ze ht;simp only[DV.enc,P4,h1,h2];rw[Ab ⟨h3.trans hl.1,h4.trans hl.2,h5,h6⟩,h7];cases neg<;>simp only[BM,AE,AF,AU,Xi]
   · rw[Ad hl] at h;cases h
theorem Te{d:DS}{s:PS}(h:ES d s)(x:Option Opnd):match x.map (fun x=>x.dev d.sl),x.map (fun x=>x.pev s.sl) with|none,none=>True|some v,some p=>EV v p|_,_=>False:=by
 cases x with
 |none=>exact trivial
 |some x=>exact x.dev_ev h
theorem DF{s:PS}{o:Option PV}{v:PV}(h:o=some v):CL s o=some (v,s):=by rw[h];rfl
theorem oG{d:DS}{s:PS}{o:AOp}{m:Bool}{g:PX}{v:DV}(hs:ES d s)(h:Ni o (fun x=>x.dev d.sl)=some (g,v))(hg:g.den):A9 m o s=some (v.enc,s):=by
 have E:=fun x=>Opnd.dev_ev hs x
 cases o<;>simp only[Ni,reduceCtorEq] at h<;>simp only[A9]
 case nilck x=>exact DF (nF (E x) h)
 case bin op x y=>exact DF (pR (E x) (E y) h hg)
 case eqB neg x y=>exact DF (pT (E x) (E y) h)
 case eqN neg x y=>
  split at h
  · exact DF (pI (E x) h)
  · cases h
 case eqA n neg x y=>exact DF (o9 (E x) (E y) h)
 case un op x=>exact DF (sq (E x) h)
 case conv k x=>exact DF (ow (E x) h)
 case bstr x=>exact DF (nU (E x) h)
 case slice w x lo hi=>exact DF (nO (Te hs lo) (Te hs hi) (E x) h hg)
 case substr x lo hi=>exact DF (nh (Te hs lo) (Te hs hi) (E x) h hg)
 case fieldA off a=>exact DF (nk (E a) h)
 case field off n x=>exact DF (nH (E x) h)
 case indexA w x i=>exact DF (ni (E x) (E i) h hg)
 case index x i=>exact DF (nJ (E x) (E i) h hg)
 case len x=>exact DF (pC (E x) h)
 case lenT x=>exact DF (oH (E x) h)
 case minI x y=>exact DF (o5 (E x) (E y) h)
 case maxI x y=>exact DF (p9 (E x) (E y) h)
theorem VL:∀ (l:List DV),DV.okL l=true→EL (news (Nh l)) (CA (DV.encL l))
 |[],_=>trivial
 | v::r,h=>by
   simp only[DV.okL,Ai] at h
   refine⟨?_,VL r h.2⟩
   simp only[HC]
   by_cases ho:v.own=true
   · rw[Ab ho,Ab ho];exact .inl rfl
   · rw[Ad ho,Ad ho];exact .inr rfl
theorem EL.spliceE:∀ {a:List DC} {b:List PV} (n:Nat) {vs:List DV} {ps:List PV},EL a b→EL (Go.Ag.news vs) ps→EL (HE a n vs) (Aq b n ps)
 |[],[],_,[],[],_,_=>trivial
 |[],[],_,_::_,_::_,_,_=>trivial
 |_::_,_::_,0,[],[],h,_=>h
 |_::_,_::_,_+1,[],[],h,_=>h
 |_::_,_::_,0,_::_,_::_,h,hv=>⟨hv.1,EL.spliceE 0 h.2 hv.2⟩
 |_::_,_::_,n+1,_::_,_::_,h,hv=>⟨h.1,EL.spliceE n h.2 hv⟩
theorem EBx.to{a:List DC}{b:List PV}(h:EBx a b)(hn:0<a.length):EL a b:=by
 rcases h with rfl|h
 · exact absurd hn (Nat.lt_irrefl 0)
 · exact h
theorem EBx.segm{a:List DC}{b:List PV}{o n:Nat}(h:EBx a b)(hl:o+n≤a.length)(hk:DV.okL (BF (BJ a) o n)=true):o+n≤b.length∧Go.Ag.segm b o n=DV.encL (BF (BJ a) o n):=by
 rcases h with rfl|h
 · have h0:o=0∧n=0:=by simp only[AJ] at hl;omega
   rw[h0.1,h0.2];exact⟨Ge _,by cases b<;>rfl⟩
 · exact⟨by rw[← h.len];exact hl,h.segm o n hk⟩
theorem EBx.splice{a:List DC}{b:List PV}{o:Nat}{vs:List DV}{ps:List PV}(h:EBx a b)(hv:EL (news vs) ps)(hl:o+vs.length≤a.length):EBx (HE a o vs) (Aq b o ps):=by
 rcases h with rfl|h
 · have h0:vs=[]:=by
    cases vs with
    |nil=>rfl
    |cons _ _=>simp only[Ay,AJ] at hl;omega
   subst h0;exact .inl rfl
 · exact .inr (h.spliceE o hv)
theorem RN:∀ (l:List DV) (o n:Nat),o+n≤l.length→(BF l o n).length=n
 |[],0,0,_=>rfl
 |[],0,_+1,h=>by simp only[AJ] at h;omega
 |[],_+1,_,h=>by simp only[AJ] at h;omega
 |_::_,0,0,_=>rfl
 |_::r,0,n+1,h=>by simp only[BF,Ay] at h ⊢;rw[RN r 0 n (by omega)]
 |_::r,o+1,n,h=>by simp only[BF,Ay] at h ⊢;exact RN r o n (by omega)
theorem Vw:∀ (l:List DV),(Nh l).length=l.length
 |[]=>rfl
 |_::r=>by simp only[Nh,Ay,Vw r]
theorem UH{m:Bool}{i:Nat}{n:Option Nat}{a:DV}{p:PV}{d d':DS}{s:PS}{g:PX}{v:DV}(hs:ES d s)(ha:EV a p)(h:J1 m i n a d=some (g,v,d')):∃ s',HF m i n p s=some (v.enc,s')∧ES d' s':=by
 cases a<;>try (simp only[J1,reduceCtorEq] at h)
 case box j o=>
  rw[ha.of (by simp)];by_cases hc:(i == j&&Nat.ble (o+n.getD 1) (Br d.bx i).length&&DV.okL (BF (BJ (Br d.bx i)) o (n.getD 1)))=true
  · rw[Ab hc] at h;rw[Ai,Ai,AV] at hc;obtain⟨⟨rfl,hl⟩,hk⟩:=hc;have hl:=CF hl;obtain⟨h1,h2⟩:=(hs.bx.get i).segm hl hk;simp only[DV.enc,HF];rw[Ab ⟨trivial,h1⟩,h2]
    cases m with
    | true=>
      simp only[AE] at h ⊢
      cases hv:EW n (BF (BJ (Br d.bx i)) o (n.getD 1)) with
      |none=>rw[hv] at h;cases h
      | some w=>
        rw[hv] at h;simp only[BM,Ah,Ak] at h;obtain⟨_,rfl,rfl⟩:=h;rw[Mu hv];refine⟨_,rfl,hs.sl.clr _,hs.bx.put i ((hs.bx.get i).splice (VL _ hk) ?_),hs.hp⟩;rw[Vw,RN _ _ _ (by rw[Sj];exact hl)];exact hl
    | false=>
      simp only[AF,AU] at h ⊢
      cases hv:EW n (HS (.b i) o (BF (BJ (Br d.bx i)) o (n.getD 1))) with
      |none=>rw[hv] at h;cases h
      | some w=>
        rw[hv] at h;simp only[BM,Ah,Ak] at h;obtain⟨_,rfl,rfl⟩:=h;have:=Mu hv;rw[O1] at this;rw[this];exact⟨_,rfl,hs⟩
  · rw[Ad hc] at h;cases h
theorem fD{q q':Ql}(h:LF q=some q'):∀ (t:CT) (x:t.D),(CT.dv q' t x).enc=Jj q (CT.enc t x)
 |.int _,_|.bool,_|.str,_=>by cases q<;>rfl
 |.ifc,_=>by cases q<;>rfl
 |.sl r,l=>by cases q<;>simp only[LF,Ah,reduceCtorEq] at h<;>subst h<;>rfl
 |.slf r,l=>by cases q<;>simp only[LF,Ah,reduceCtorEq] at h<;>subst h<;>rfl
theorem fC{q q':Ql}(h:LF q=some q'):∀ (r:RT) (x:r.D),DV.encL (r.dv q' x)=E2 q (RT.enc r x)
 |.one t,x=>by simp only[RT.dv,DV.encL,RT.enc,E2,fD h t x]
 |.cons t r,x=>by simp only[RT.dv,DV.encL,RT.enc,E2,fD h t x.1,fC h r x.2]
theorem Gb(r:RT):∀ (l:List r.D) (j:Nat),j<l.length→AN (l.map (RT.enc r)) j=RT.enc r (l.getD j r.dflt)
 |_::_,0,_=>rfl
 |_::l,j+1,h=>Gb r l j (by simpa using h)
theorem Vr(q:Ql):∀ (l:List PV) (o n:Nat),E2 q (Go.Ag.segm l o n)=Go.Ag.segm (E2 q l) o n
 |[],0,0=>rfl
 |[],0,_+1=>rfl
 |[],_+1,_=>rfl
 |_::_,0,0=>rfl
 |c::r,0,n+1=>by simp only[Go.Ag.segm,E2,Vr q r 0 n]
 |_::r,o+1,n=>by simp only[Go.Ag.segm,E2];exact Vr q r o n
theorem pq{q q':Ql}(h:LF q=some q'):q.isOwn=false:=by cases q<;>first|rfl|cases h
theorem UF{m:Bool}{n:Option Nat}{a:DV}{p:PV}{d d':DS}{s:PS}{g:PX}{v:DV}(hs:ES d s)(ha:EV a p)(h:I5 m n a d=some (g,v,d'))(hg:g.den):∃ s',G0 m n p s=some (v.enc,s')∧ES d' s':=by
 cases a<;>try (simp only[I5,reduceCtorEq] at h)
 case ep q r l j o=>
  rw[ha.of (by simp)]
  cases hq:LF q with
  |none=>rw[hq] at h;cases h
  | some q'=>
    rw[hq] at h;simp only at h;by_cases hc:Nat.ble (o+n.getD 1) r.w=true
    · rw[Ab hc] at h
      cases hv:EW n (BF (r.dv q' (lGet l j r.dflt)) o (n.getD 1)) with
      |none=>rw[hv] at h;cases h
      | some w=>
        rw[hv] at h;simp only[BM,Ah,Ak] at h;obtain⟨rfl,rfl,rfl⟩:=h;have hj:j<l.length:=hg;have:=Mu hv;rw[RG,fC hq,← Vr,MZ,← Gb r l j hj] at this;simp only[DV.enc,G0,A0];rw[Ab ⟨hj,by rw[Gb r l j hj,I2];exact CF hc,pq hq⟩,this];exact⟨_,rfl,hs⟩
    · rw[Ad hc] at h;cases h
 case ptr i o=>
  rw[ha.of (by simp)];by_cases hc:(Nat.blt i d.hp.length&&Nat.ble (o+n.getD 1) (Br d.hp i).length&&DV.okL (BF (BJ (Br d.hp i)) o (n.getD 1)))=true
  · rw[Ab hc] at h;rw[Ai,Ai] at hc;obtain⟨⟨hi,hl⟩,hk⟩:=hc;have hi:=CF hi;have hl:=CF hl;obtain⟨h1,h2⟩:=(hs.hp.get i).segm hl hk;simp only[DV.enc,G0];rw[Ab ⟨by rw[← hs.hp.len];exact hi,h1⟩,h2]
    cases m with
    | true=>
      simp only[AE] at h ⊢
      cases hv:EW n (BF (BJ (Br d.hp i)) o (n.getD 1)) with
      |none=>rw[hv] at h;cases h
      | some w=>
        rw[hv] at h;simp only[BM,Ah,Ak] at h;obtain⟨_,rfl,rfl⟩:=h;rw[Mu hv];refine⟨_,rfl,hs.sl.clr _,hs.bx,hs.hp.put i ((hs.hp.get i).splice (VL _ hk) ?_)⟩;rw[Vw,RN _ _ _ (by rw[Sj];exact hl)];exact hl
    | false=>
      simp only[AF,AU] at h ⊢
      cases hv:EW n (HS (.h i) o (BF (BJ (Br d.hp i)) o (n.getD 1))) with
      |none=>rw[hv] at h;cases h
      | some w=>
        rw[hv] at h;simp only[BM,Ah,Ak] at h;obtain⟨_,rfl,rfl⟩:=h;have:=Mu hv;rw[O1] at this;rw[this];exact⟨_,rfl,hs⟩
  · rw[Ad hc] at h;cases h
theorem EL.clrD(hd:Hd):∀ {a:List DC} {b:List PV},EL a b→EL (CH hd a) b
 |[],[],_=>trivial
 | c::_,p::_,h=>by
   refine⟨?_,EL.clrD hd h.2⟩
   by_cases hb:c.v.bor hd=true
   · rw[Ab hb];exact .inl rfl
   · rw[Ad hb];exact h.1
theorem EL.clr2{hd:Hd}{a:List DC}{b:List PV}{x:Bool}{y:Bool}(h:EL a b)(hxy:x=false→y=false):EL (if x then CH hd a else a) (if y then Go.Ag.clr hd b else b):=by
 cases x with
 |false=>rw[hxy rfl];exact h
 | true=>cases y with
   |false=>exact h.clrD hd
   |true=>exact h.clr hd
theorem mV{i n:Nat}{a x:Opnd}{d d':DS}{s:PS}{g:PX}{v:DV}(hs:ES d s)(h:O5 i n a x d=some (g,v,d')):∃ s',ON i n a x s=some (v.enc,s')∧ES d' s':=by
 unfold O5 at h;have ha:=a.dev_ev hs;generalize hm:A7 x d=w at h;obtain⟨w,d1⟩:=w;simp only at h;generalize a.dev d.sl=av at h ha
 cases av<;>try (simp only[reduceCtorEq] at h)
 case box j o=>
  by_cases hc:(i == j&&Nat.blt i d1.bx.length&&w.cells.length == n&&Nat.ble (o+n) (Br d1.bx i).length&&CQ w.cells)=true
  · rw[Ab hc] at h;simp only[Ai,AV] at hc;obtain⟨⟨⟨⟨rfl,hi⟩,rfl⟩,hl⟩,hcl⟩:=hc;have hi:=CF hi;have hl:=CF hl;have hok:=OR w hcl;obtain⟨m1,m2⟩:=Ee x hs (by rw[hm];exact hok);rw[hm] at m1 m2;simp only[Ah,Ak] at h;obtain⟨rfl,rfl,rfl⟩:=h;have hbx:=m2.bx.get i
    have hel:o+w.cells.length≤(Aj (mvOut x s).2.bx i).length:=by
     rcases hbx with he|he
     · rw[he] at hl;simp only[AJ] at hl;omega
     · rw[← he.len];exact hl
    simp only[ON,ha.of (by simp:DV.box i o≠.any),DV.enc,m1,IM,EN,HC];rw[Ab ⟨trivial,by rw[← m2.bx.len];exact hi,trivial,hel,KV _ hcl⟩];refine⟨_,rfl,m2.sl.clr2 fun hx=>?_,m2.bx.put i (hbx.splice (EL.news w.cells) hl),m2.hp⟩;simp only[CK,E0] at hx ⊢;rw[(hbx.segm hl hx.1.1).2,Mz];exact⟨hx.1.2,hx.2⟩
  · rw[Ad hc] at h;cases h
theorem OO{r' r:RT}{l:List r'.D}{m:List r.D}(h:J7 l=some m):r'=r∧l.map (RT.enc r')=m.map (RT.enc r):=by
 unfold J7 at h;split at h
 · rename_i hb;have hr:=RT.beq_eq hb;subst hr;simp only[Ah] at h;subst h;exact⟨rfl,rfl⟩
 · cases h
theorem il:∀ {t:CT} {v:DV} {x:t.D},t.of v=some x→v.enc=CT.enc t x
 | .int k,.int k' n,x,h=>by
   have h':(if k=k' then some n else none)=some x:=h
   by_cases hk:k=k'
   · subst hk
     rw[Ab rfl] at h'
     have:n=x:=CD h'
     rw[← this];rfl
   · rw[Ad hk] at h';cases h'
 | .bool,.bool b,x,h=>by
   have:b.b=x:=CD h
   rw[← this];rfl
 | .str,.str s,x,h=>by
   have:s=x:=CD h
   rw[← this];rfl
 | .ifc,.ifc b,x,h=>by
   have:b=x:=CD h
   rw[← this];rfl
 | .sl r,.nil .own,x,h=>by
   have:([]:List r.D)=x:=CD h
   rw[← this];rfl
 | .sl r,.sl .own r' l,x,h=>by
   show PV.sl .own _=PV.sl .own _
   rw[(OO (r:=r) h).2]
 | .slf r,.nil .frz,x,h=>by
   have:([]:List r.D)=x:=CD h
   rw[← this];rfl
 | .slf r,.sl .frz r' l,x,h=>by
   show PV.sl .frz _=PV.sl .frz _
   rw[(OO (r:=r) h).2]
theorem Nb:∀ {r:RT} {vs:List DV} {x:r.D},r.of vs=some x→DV.encL vs=RT.enc r x
 |.one t,[v],x,h=>by simp only[DV.encL,RT.enc,il (t:=t) h]
 | .cons t r,v::vs,x,h=>by
   have h':(match t.of v,r.of vs with|some x,some y=>some (x,y)|_,_=>none)=some x:=h
   clear h
   cases h1:t.of v with
   |none=>rw[h1] at h';cases h'
   | some a=>
     cases h2:r.of vs with
     |none=>rw[h1,h2] at h';cases h'
     | some b=>
       rw[h1,h2] at h'
       have:(a,b)=x:=CD h'
       rw[← this]
       simp only[DV.encL,RT.enc,il h1,Nb h2]
theorem gq:∀ (t:CT) (x:t.D),(CT.dv .own t x).enc=CT.enc t x
 |.int _,_|.bool,_|.str,_|.ifc,_|.sl _,_|.slf _,_=>rfl
theorem S9:∀ (r:RT) (x:r.D),DV.encL (r.dv .own x)=RT.enc r x
 |.one t,x=>by simp only[RT.dv,DV.encL,RT.enc,gq t x]
 |.cons t r,x=>by simp only[RT.dv,DV.encL,RT.enc,gq t x.1,S9 r x.2]
theorem OV(r:RT):∀ (l:List r.D) (j:Nat) (y:r.D),Ba (l.map (RT.enc r)) j (RT.enc r y)=(l.set j y).map (RT.enc r)
 |[],_,_=>rfl
 |_::_,0,_=>rfl
 |_::l,j+1,y=>by simp only[Bs,Ba,List.set_cons_succ,OV r l j y]
theorem sf(v:DV)(p:List Nat)(h:v.fcell p≠.any):v.enc.fcell p=(v.fcell p).enc:=by
 cases v with
 | agg cs=>
   match p with
   |[]=>exact absurd rfl h
   |[c]=>exact(MC cs c).symm
   |_::_::_=>exact absurd rfl h
 | tup vs=>
   match p with
   |[]=>exact absurd rfl h
   |[_]=>exact absurd rfl h
   | [i,c]=>
     show Aa (Aa (DV.encL vs) i).cells c=(FQ (FQ vs i).cells c).enc;rw[← MC,IM,← MC]
   |_::_::_::_=>exact absurd rfl h
 |any=>match p with|[]=>exact absurd rfl h|[0]=>exact absurd rfl h|[_+1]=>exact absurd rfl h|0::_::_=>exact absurd rfl h|(_+1)::_::_=>exact absurd rfl h
 |undef=>match p with|[]=>exact absurd rfl h|[0]=>rfl|[_+1]=>exact absurd rfl h|0::_::_=>exact absurd rfl h|(_+1)::_::_=>exact absurd rfl h
 |bool _=>match p with|[]=>exact absurd rfl h|[0]=>rfl|[_+1]=>exact absurd rfl h|0::_::_=>exact absurd rfl h|(_+1)::_::_=>exact absurd rfl h
 |int _ _=>match p with|[]=>exact absurd rfl h|[0]=>rfl|[_+1]=>exact absurd rfl h|0::_::_=>exact absurd rfl h|(_+1)::_::_=>exact absurd rfl h
 |str _=>match p with|[]=>exact absurd rfl h|[0]=>rfl|[_+1]=>exact absurd rfl h|0::_::_=>exact absurd rfl h|(_+1)::_::_=>exact absurd rfl h
 |ifc _=>match p with|[]=>exact absurd rfl h|[0]=>rfl|[_+1]=>exact absurd rfl h|0::_::_=>exact absurd rfl h|(_+1)::_::_=>exact absurd rfl h
 |nil _=>match p with|[]=>exact absurd rfl h|[0]=>rfl|[_+1]=>exact absurd rfl h|0::_::_=>exact absurd rfl h|(_+1)::_::_=>exact absurd rfl h
 |sl _ _ _=>match p with|[]=>exact absurd rfl h|[0]=>rfl|[_+1]=>exact absurd rfl h|0::_::_=>exact absurd rfl h|(_+1)::_::_=>exact absurd rfl h
 |ep _ _ _ _ _=>match p with|[]=>exact absurd rfl h|[0]=>rfl|[_+1]=>exact absurd rfl h|0::_::_=>exact absurd rfl h|(_+1)::_::_=>exact absurd rfl h
 |box _ _=>match p with|[]=>exact absurd rfl h|[0]=>rfl|[_+1]=>exact absurd rfl h|0::_::_=>exact absurd rfl h|(_+1)::_::_=>exact absurd rfl h
 |ptr _ _=>match p with|[]=>exact absurd rfl h|[0]=>rfl|[_+1]=>exact absurd rfl h|0::_::_=>exact absurd rfl h|(_+1)::_::_=>exact absurd rfl h
theorem GW{d:DS}{s:PS}(hs:ES d s)(hd:Hd)(p:List Nat)(h:BQ d hd p≠.any):Ct s hd p=(BQ d hd p).enc:=by
 cases hd with
 | s t=>
   rcases hs.sl.get t with hg|hg
   · simp only[BQ,hg] at h;refine absurd ?_ h
     match p with
     |[]=>rfl
     |[0]=>rfl
     |[_+1]=>rfl
     |0::_::_=>rfl
     |(_+1)::_::_=>rfl
   · simp only[BQ,Ct,hg] at h ⊢;exact sf _ p h
 | b i=>
   match p with
   |[]=>exact absurd rfl h
   |_::_::_=>exact absurd rfl h
   | [c]=>
     rcases hs.bx.get i with hb|hb
     · simp only[BQ,hb,Bb] at h;exact absurd rfl h
     · exact(hb.get c).of h
 | h i=>
   match p with
   |[]=>exact absurd rfl h
   |_::_::_=>exact absurd rfl h
   | [c]=>
     rcases hs.hp.get i with hb|hb
     · simp only[BQ,hb,Bb] at h;exact absurd rfl h
     · exact(hb.get c).of h
 |x i=>exact absurd rfl h
theorem sF(v:DV)(p:List Nat)(w:DV):v.enc.setc p w.enc=(v.setc p w).enc:=by
 cases v with
 | agg cs=>
   match p with
   |[]=>rfl
   |[c]=>exact congrArg PV.agg (Sq cs c w).symm
   |_::_::_=>rfl
 | tup vs=>
   match p with
   |[]=>rfl
   |[0]=>rfl
   |[_+1]=>rfl
   |0::_::_=>rfl
   |(_+1)::_::_=>rfl
 |any=>match p with|[]=>rfl|[0]=>rfl|[_+1]=>rfl|0::_::_=>rfl|(_+1)::_::_=>rfl
 |undef=>match p with|[]=>rfl|[0]=>rfl|[_+1]=>rfl|0::_::_=>rfl|(_+1)::_::_=>rfl
 |bool _=>match p with|[]=>rfl|[0]=>rfl|[_+1]=>rfl|0::_::_=>rfl|(_+1)::_::_=>rfl
 |int _ _=>match p with|[]=>rfl|[0]=>rfl|[_+1]=>rfl|0::_::_=>rfl|(_+1)::_::_=>rfl
 |str _=>match p with|[]=>rfl|[0]=>rfl|[_+1]=>rfl|0::_::_=>rfl|(_+1)::_::_=>rfl
 |ifc _=>match p with|[]=>rfl|[0]=>rfl|[_+1]=>rfl|0::_::_=>rfl|(_+1)::_::_=>rfl
 |nil _=>match p with|[]=>rfl|[0]=>rfl|[_+1]=>rfl|0::_::_=>rfl|(_+1)::_::_=>rfl
 |sl _ _ _=>match p with|[]=>rfl|[0]=>rfl|[_+1]=>rfl|0::_::_=>rfl|(_+1)::_::_=>rfl
 |ep _ _ _ _ _=>match p with|[]=>rfl|[0]=>rfl|[_+1]=>rfl|0::_::_=>rfl|(_+1)::_::_=>rfl
 |box _ _=>match p with|[]=>rfl|[0]=>rfl|[_+1]=>rfl|0::_::_=>rfl|(_+1)::_::_=>rfl
 |ptr _ _=>match p with|[]=>rfl|[0]=>rfl|[_+1]=>rfl|0::_::_=>rfl|(_+1)::_::_=>rfl
theorem EBx.put{a:List DC}{b:List PV}{v:DV}{p:PV}(n:Nat)(h:EBx a b)(hv:EV v p):EBx (C0 a n v) (BA b n p):=by
 rcases h with rfl|h
 · exact .inl rfl
 · exact .inr (h.put n hv)
theorem KM{d:DS}{s:PS}(hs:ES d s)(hd:Hd)(p:List Nat)(w:DV)(h:BQ d hd p≠.any):ES (FN d w hd p) (setK s w.enc hd p):=by
 cases hd with
 | s t=>
   refine⟨(hs.sl.put t (.inr ?_)).clr _,hs.bx,hs.hp⟩;rcases hs.sl.get t with hg|hg
   · simp only[BQ,hg] at h;refine absurd ?_ h
     match p with
     |[]=>rfl
     |[0]=>rfl
     |[_+1]=>rfl
     |0::_::_=>rfl
     |(_+1)::_::_=>rfl
   · rw[hg];exact sF _ p w
 | b i=>
   match p with
   |[]=>exact absurd rfl h
   |_::_::_=>exact absurd rfl h
   |[c]=>exact⟨hs.sl.clr _,hs.bx.put i ((hs.bx.get i).put c (.inr rfl)),hs.hp⟩
 | h i=>
   match p with
   |[]=>exact absurd rfl h
   |_::_::_=>exact absurd rfl h
   |[c]=>exact⟨hs.sl.clr _,hs.bx,hs.hp.put i ((hs.hp.get i).put c (.inr rfl))⟩
 |x i=>exact absurd rfl h
theorem mZ{n:Nat}{a x:Opnd}{d d':DS}{s:PS}{g:PX}{v:DV}(hs:ES d s)(h:Pe n a x d=some (g,v,d'))(hg:g.den):∃ s',OM n a x s=some (v.enc,s')∧ES d' s':=by
 unfold Pe at h;generalize hm:A7 x d=w at h;obtain⟨w,d1⟩:=w;simp only at h
 have hw:CQ w.cells=true→ES d1 (mvOut x s).2∧(mvOut x s).1=w.enc:=fun hcl=>by
  obtain⟨m1,m2⟩:=Ee x hs (by rw[hm];exact OR w hcl);rw[hm] at m1 m2;exact⟨m2,m1⟩
 split at h
 · rename_i i o ha;by_cases hc:(Nat.blt i d1.hp.length&&w.cells.length == n&&Nat.ble (o+n) (Br d1.hp i).length&&CQ w.cells)=true
   · rw[Ab hc] at h;simp only[Ai,AV] at hc;obtain⟨⟨⟨hi,rfl⟩,hl⟩,hcl⟩:=hc;have hi:=CF hi;have hl:=CF hl;obtain⟨m2,m1⟩:=hw hcl;have ha':=a.dev_ev m2;rw[ha] at ha';simp only[Ah,Ak] at h;obtain⟨rfl,rfl,rfl⟩:=h;have hbx:=m2.hp.get i
     have hel:o+w.cells.length≤(Aj (mvOut x s).2.hp i).length:=by
      rcases hbx with he|he
      · rw[he] at hl;simp only[AJ] at hl;omega
      · rw[← he.len];exact hl
     simp only[OM,ha'.of (by simp:DV.ptr i o≠.any),DV.enc,m1,IM,EN,HC];rw[Ab ⟨by rw[← m2.hp.len];exact hi,trivial,hel,KV _ hcl⟩];refine⟨_,rfl,m2.sl.clr2 fun hx=>?_,m2.bx,m2.hp.put i (hbx.splice (EL.news w.cells) hl)⟩;simp only[CK,E0] at hx ⊢;rw[(hbx.segm hl hx.1.1).2,Mz];exact⟨hx.1.2,hx.2⟩
   · rw[Ad hc] at h;cases h
 · rename_i hd p r0 l0 j o ha
   cases hk:BQ d1 hd [p]<;>rw[hk] at h<;>try (cases h;done)
   rename_i q r l
   cases q<;>try (cases h;done)
   simp only at h;by_cases hc:(w.cells.length == n&&Nat.ble (o+n) r.w&&CQ w.cells)=true
   · rw[Ab hc] at h;simp only[Ai,AV] at hc;obtain⟨⟨rfl,hl⟩,hcl⟩:=hc;have hl:=CF hl
     cases hof:r.of (HA (r.dv .own (lGet l j r.dflt)) o w.cells) with
     |none=>rw[hof] at h;cases h
     | some y=>
       rw[hof] at h;simp only[Ah,Ak] at h;obtain⟨rfl,rfl,rfl⟩:=h;obtain⟨m2,m1⟩:=hw hcl;have ha':=a.dev_ev m2;rw[ha] at ha'
       have hne:BQ d1 hd [p]≠.any:=by rw[hk];simp
       have hj:j<l.length:=hg;have e1:=GW m2 hd [p] hne;rw[hk] at e1;have e2:=Nb hof;rw[On,S9,MZ,← Gb r l j hj] at e2;have e3:=KM m2 hd [p] (.sl .own r (lSet l j y)) hne;simp only[OM,ha'.of (by simp:DV.ep (.bor hd [p] true) r0 l0 j o≠.any),DV.enc,m1,IM,EN,e1,A0];rw[Ab ⟨hj,trivial,by rw[Gb r l j hj,I2];exact hl,KV _ hcl⟩,e2,OV];simp only[DV.enc,PF] at e3;exact⟨_,rfl,by rw[PF];exact e3⟩
   · rw[Ad hc] at h;cases h
 · cases h
theorem Z4{m:Bool}{n:Option Nat}{a:DV}{p:PV}{d d':DS}{s:PS}{r:Dx}{g:PX}{v:DV}(hs:ES d s)(ha:EV a p)(h:HR m n a d=some r)(hr:r=some (g,v,d'))(hg:g.den):Gm m n p s=some (some v.enc)∧d'=d:=by
 unfold HR at h;split at h
 · rename_i hd c r1 l j;simp only[Ah] at h;rw[hr] at h;split at h
   · rename_i r2 l2 hk;simp only[Ah,Ak] at h;obtain⟨rfl,rfl,rfl⟩:=h;obtain⟨g1,g2⟩:=hg
     have hne:BQ d hd [c]≠.any:=by rw[hk];simp
     have e1:=GW hs hd [c] hne;rw[hk] at e1;have e2:AN (List.map (RT.enc (.one (.sl r1))) l) j=[PV.sl .own (List.map (RT.enc r1) (List.getD (α:=List r1.D) l j []))]:=Gb (.one (.sl r1)) l j g1;have e3:AN (List.map (RT.enc (.one (.sl r2))) l2) j=[PV.sl .own (List.map (RT.enc r2) (List.getD (α:=List r2.D) l2 j []))]:=Gb (.one (.sl r2)) l2 j g2;refine⟨?_,rfl⟩;rw[ha.of (by simp)];simp only[DV.enc,Gm,e1,A0];rw[e2,Ab g2,e3];rw[show lGet (α:=List r2.D) l2 j []=List.getD (α:=List r2.D) l2 j [] from MZ l2 j []]
   · cases h
 · cases h
theorem oZ{m:Bool}{n:Option Nat}{a:DV}{p:PV}{d:DS}{s:PS}(ha:EV a p)(hne:a≠.any)(h:HR m n a d=none):Gm m n p s=none:=by
 unfold Gm;split
 · rename_i hd c es j;have hp:=ha.of hne;cases a<;>simp only[DV.enc,PV.ep.injEq,reduceCtorEq] at hp;rename_i q r l j' o;obtain⟨rfl,rfl,rfl,rfl⟩:=hp;split
   · rename_i x he;rcases Bc j l.length with hj|hj
     · rw[Gb r l j hj] at he
       cases r with
       | one t=>
         cases t with
         |sl r1=>simp[HR] at h
         |slf r1=>simp[RT.enc,CT.enc] at he
         |_=>simp only[RT.enc,CT.enc,G6,reduceCtorEq,false_and] at he
       |cons t r=>cases r<;>simp[RT.enc] at he
     · have hz:AN (l.map (RT.enc r)) j=[]:=by rw[Lk,Bm (by simpa using hj)];rfl
       rw[hz] at he;cases he
   · rfl
 · rfl
theorem rN{i c:Nat}{a:DV}{p:PV}(ha:EV a p)(hx:a.nestX i c=true):p.nestX i c=true:=by
 rw[ha.of (fun e=>by rw[e] at hx;cases hx)];unfold DV.nestX at hx;split at hx
 · exact hx
 · cases hx
theorem tx{a:DV}{p:PV}(ha:EV a p)(hne:a≠.any):p.nest=a.nest:=by
 rw[ha.of hne]
 cases a<;>try rfl
 rename_i q r l j o
 cases q<;>try rfl
 rename_i hd pt tp
 match pt,tp with
 |[],_=>cases tp<;>rfl
 |[_],_=>cases tp<;>rfl
 |[_,_],true=>rfl
 |[_,_],false=>rfl
 |_::_::_::_,_=>cases tp<;>rfl
theorem ak:∀ {vs:List DV},Lm vs=true→CZ (DV.encL vs)=true
 |[],_=>rfl
 | v::r,h=>by
   simp only[Lm,Ai] at h
   simp only[DV.encL,CZ,Ai]
   refine⟨?_,ak h.2⟩
   cases v<;>first|rfl|cases h.1
theorem sg{v:DV}(h:Lm v.cells=true):v≠.any:=by
 rintro rfl;simp[DV.cells,Lm,DV.nflat] at h
theorem m9{n:Nat}{hd:Hd}{p k j o:Nat}{w:DV}{pw:PV}{d d':DS}{s:PS}{g:PX}{v:DV}(hs:ES d s)(hw:EV w pw)(h:O6 n hd p k j o w d=some (g,v,d'))(hg:g.den):∃ s',OZ n hd p k j o pw s=some (v.enc,s')∧ES d' s':=by
 unfold O6 at h;split at h
 · rename_i r l hk;by_cases hc:(w.cells.length == n&&Nat.ble (o+n) r.w&&Lm w.cells)=true
   · rw[Ab hc] at h;simp only[Ai,AV] at hc;obtain⟨⟨rfl,hl⟩,hf⟩:=hc;have hl:=CF hl
     cases hof:r.of (HA (r.dv .own (lGet (lGet (α:=List r.D) l k []) j r.dflt)) o w.cells) with
     |none=>rw[hof] at h;cases h
     | some y=>
       rw[hof] at h;simp only[Ah,Ak] at h;obtain⟨rfl,rfl,rfl⟩:=h;obtain⟨g1,g2⟩:=hg
       have hne:BQ d hd [p]≠.any:=by rw[hk];simp
       have e1:=GW hs hd [p] hne;rw[hk] at e1;have hL:lGet (α:=List r.D) l k []=List.getD (α:=List r.D) l k []:=MZ (α:=List r.D) l k [];rw[hL] at g2 hof;have g2':j<List.length (α:=r.D) (List.getD (α:=List r.D) l k []):=g2;have e4:=Gb r (List.getD (α:=List r.D) l k []) j g2';have e5:=Nb hof;rw[On,S9,MZ] at e5;have e6:Ba (List.map (RT.enc r) (List.getD (α:=List r.D) l k [])) j (RT.enc r y)=List.map (RT.enc r) (List.set (α:=r.D) (List.getD (α:=List r.D) l k []) j y):=OV r _ j y;have e7:Ba (List.map (RT.enc (.one (.sl r))) l) k [PV.sl .own (List.map (RT.enc r) (List.set (α:=r.D) (List.getD (α:=List r.D) l k []) j y))]=List.map (RT.enc (.one (.sl r))) (List.set (α:=List r.D) l k (List.set (α:=r.D) (List.getD (α:=List r.D) l k []) j y)):=OV (.one (.sl r)) l k (List.set (α:=r.D) (List.getD (α:=List r.D) l k []) j y);have e3:=KM hs hd [p] (.sl .own (.one (.sl r)) (lSet (α:=List r.D) l k (lSet (lGet (α:=List r.D) l k []) j y))) hne
       have hS:lSet (α:=List r.D) l k (lSet (lGet (α:=List r.D) l k []) j y)=List.set (α:=List r.D) l k (List.set (α:=r.D) (List.getD (α:=List r.D) l k []) j y):=by
        rw[hL];exact(PF (α:=List r.D) l k _).trans (congrArg (fun z=>List.set (α:=List r.D) l k z) (PF (α:=r.D) _ j y))
       rw[hw.of (sg hf)];have e1':Ct s hd [p]= .sl .own (List.map (RT.enc (.one (.sl r))) l):=e1;have e2':AN (List.map (RT.enc (.one (.sl r))) l) k=[.sl .own (List.map (RT.enc r) (List.getD (α:=List r.D) l k []))]:=Gb (.one (.sl r)) l k g1;have e5':Aq (RT.enc r (List.getD (α:=r.D) (List.getD (α:=List r.D) l k []) j r.dflt)) o (DV.encL w.cells)=RT.enc r y:=e5;unfold OZ;rw[e1'];simp only[A0];rw[Ab g1,e2'];simp only[A0,IM,EN];rw[Ab ⟨g2',trivial,by rw[e4,I2];exact hl,ak hf⟩,e4,e5',e6,e7];refine⟨_,rfl,?_⟩;rw[hS] at e3 ⊢;exact e3
   · rw[Ad hc] at h;cases h
 · cases h
theorem oR{d:DS}{s:PS}(x:Opnd)(h:ES d s)(hk:(Ei x d).1.ok=true):(fzOut x s).1=(Ei x d).1.enc∧ES (Ei x d).2 (fzOut x s).2:=by
 cases x with
 | c v=>
   refine⟨?_,h⟩;refine(OY v fun he=>?_).symm;simp only[Ei,he,DV.ok,AF] at hk
 | t n =>
   simp only[Ei,Qf,fzOut,TL] at hk ⊢;rcases h.sl.get n with hg|hg
   · rw[hg] at hk;simp only[DV.own,AF,AU,DV.ok] at hk
   · rw[hg,HC];by_cases ho:(Bb d.sl n).own=true
     · simp only[ho,AE] at hk ⊢;by_cases hr:(Bb d.sl n).retok=true
       · rw[Ab hr,Ab (bU _ hr),← SM];exact⟨rfl,(h.sl.put n (.inr rfl)).clr _,h.bx,h.hp⟩
       · rw[Ad hr] at hk;cases hk
     · simp only[ho] at hk ⊢;exact⟨rfl,h⟩
theorem sB(hd:Hd)(v:DV)(h:v≠.any):(XA hd v).enc=Hi hd v.enc:=by
 cases v<;>first|rfl|exact absurd rfl h|skip
 case nil q=>cases q<;>rfl
 case sl q r l=>cases q<;>rfl
 case agg cs=>show PV.agg _=PV.agg _;rw[O1]
 case tup vs=>
  simp only[XA,DV.enc,Hi,Mz];split<;>rfl
theorem oA{d:DS}{s:PS}(x:Opnd)(h:ES d s)(hk:(I8 x d).1.ok=true):(J3 x s).1=(I8 x d).1.enc∧ES (I8 x d).2 (J3 x s).2:=by
 cases x with
 | c v=>
   refine⟨?_,h⟩;refine(OY v fun he=>?_).symm;simp only[I8,he,DV.ok,AF] at hk
 | t n=>
   simp only[I8] at hk
   have hn:Bb d.sl n≠.any:=by intro e;rw[e] at hk;cases hk
   simp only[I8,J3];rw[(h.sl.get n).of hn,sB _ _ hn];exact⟨rfl,h⟩
theorem Ht:∀ (l:List V),Ga l=true→l.all V.flat=true∧DV.encL (FW l)=l.map Bn∧CQ (FW l)=true
 |[],_=>⟨rfl,rfl,rfl⟩
 | v::r,h=>by
   simp only[Ga,Ai] at h;obtain⟨h1,h2,h3⟩:=Ht r h.2
   have hv:(Ia v).cell=true∧(Ia v).enc=Bn v:=by cases v<;>first|exact⟨rfl,rfl⟩|(have:=h.1;cases this)
   refine⟨by simp only[ET,h.1,h1,CG],?_,?_⟩
   · simp only[FW,DV.encL,Bs,h2,hv.2]
   · simp only[FW,CQ,hv.1,h3,CG]
theorem UK:∀ (ps:List (Nat×Nat×Opnd)) {cs cs':List DV} {d d':DS} {s:PS},ES d s→HW cs ps d=some (cs',d')→∃ s',DH (DV.encL cs) ps s=some (DV.encL cs',s')∧ES d' s'
 | [],cs,cs',d,d',s,hs,h=>by
   simp only[HW,Ah,Ak] at h
   obtain⟨rfl,rfl⟩:=h
   exact⟨s,rfl,hs⟩
 | (off,size,x)::r,cs,cs',d,d',s,hs,h=>by
   unfold HW at h
   by_cases hc:((A7 x d).1.cells.length == size&&Nat.ble (off+size) cs.length&&CQ (A7 x d).1.cells)=true
   · rw[Ab hc] at h
     simp only[Ai,AV] at hc
     obtain⟨⟨h1,h2⟩,h3⟩:=hc
     obtain⟨m1,m2⟩:=Ee x hs (OR _ h3)
     obtain⟨s',e1,e2⟩:=UK r m2 h
     refine⟨s',?_,e2⟩
     unfold DH
     rw[m1,IM,EN,EN,Ab ⟨h1,CF h2,KV _ h3⟩,← On]
     exact e1
   · rw[Ad hc] at h;cases h
theorem bR:∀ (n:Nat) (l:List DV),DV.encL (l.take n)=(DV.encL l).take n
 |0,_=>rfl
 |_+1,[]=>rfl
 |n+1,_::r=>by simp only[Xx,DV.encL,bR n r]
theorem bK:∀ (n:Nat) (l:List DV),DV.encL (l.drop n)=(DV.encL l).drop n
 |0,_=>rfl
 |_+1,[]=>rfl
 |n+1,_::r=>by simp only[List.drop_succ_cons,DV.encL,bK n r]
theorem ZB(r:RT)(w:Nat):∀ (n:Nat) (cs:List DV) (l:List r.D),MU r w n cs=some l→DD w n (DV.encL cs)=l.map (RT.enc r)
 | 0,cs,l,h=>by
   simp only[MU,Ah] at h;subst h;rfl
 | n + 1,cs,l,h=>by
   unfold MU at h
   cases h1:r.of (cs.take w) with
   |none=>rw[h1] at h;cases h
   | some x=>
     cases h2:MU r w n (cs.drop w) with
     |none=>rw[h1,h2] at h;cases h
     | some y=>
       rw[h1,h2] at h
       have:=CD h
       subst this
       simp only[DD,Bs,← bR,← bK,Nb h1,ZB r w n _ y h2]
def DSrc.es:DSrc→List (List PV)
 |.nil=>[]
 |.sl r l=>l.map (RT.enc r)
theorem PK{r:RT}{x:DSrc}{l:List r.D}(h:x.to r=some l):x.es=l.map (RT.enc r):=by
 cases x with
 |nil=>have:=CD h;subst this;rfl
 |sl r' l'=>exact(OO h).2
theorem eT:∀ (t:CT) (x:t.D),t.flat=true→(CT.enc t x).flatc=true
 |.int _,_,_|.bool,_,_|.str,_,_|.ifc,_,_=>rfl
theorem eC:∀ (r:RT) (x:r.D),r.flat=true→CZ (RT.enc r x)=true
 |.one t,x,h=>by simp only[RT.enc,CZ,eT t x h,CG]
 | .cons t r,x,h=>by
   simp only[RT.flat,Ai] at h
   simp only[RT.enc,CZ,eT t x.1 h.1,eC r x.2 h.2,CG]
theorem dk(r:RT)(h:r.flat=true):∀ (l:List r.D),HZ (l.map (RT.enc r))=true
 |[]=>rfl
 |x::l=>by simp only[Bs,HZ,eC r x h,dk r h l,CG]
theorem vN{w:Nat}{x:DSrc}(h:x.w w=true):Ck w x.es=true:=by
 cases x with
 |nil=>rfl
 | sl r l=>
   have:r.w=w:=by simpa [DSrc.w] using h
   subst this;exact EM r l
theorem mv_ok{d:DS}{x:Opnd}(v:DV)(hx:x.dev d.sl=v)(ho:v.own=true)(hb:∀ hd,v.bor hd=false)(hk:v.ok=true):(A7 x d).1=v:=by
 cases x with
 |c c=>exact hx
 | t n=>
   have hx':Bb d.sl n=v:=hx;simp only[A7,Qi,hx',ho,hb,AE,AF,AU]
theorem UU{w:Nat}{y:Opnd}{d d':DS}{s:PS}{new:DSrc}(hs:ES d s)(h:H4 w y d=some (new,d')):∃ s',El w y s=some (new.es,s')∧ES d' s':=by
 have hy:=y.dev_ev hs;unfold H4 at h;unfold El
 cases hv:y.dev d.sl with
 | str t=>
   rw[hv] at h hy;simp only at h;by_cases hw:(w == 1)=true
   · rw[Ab hw] at h;simp only[Ah,Ak] at h;obtain⟨rfl,rfl⟩:=h;rw[hy.of (by simp)];simp only[DV.enc];rw[Ab (by simpa using hw)];refine⟨s,?_,hs⟩
     have:(DSrc.sl (.one (.int .u8)) (sRow t)).es=t.map fun b=>[PV.fl (.int .u8 b.toNat)]:=by
      unfold DSrc.es;rw[gd];clear hy hv
      induction t with
      |nil=>rfl
      |cons b t ih=>exact congrArg (List.cons _) ih
     rw[this]
   · rw[Ad hw] at h;cases h
 | nil q=>
   rw[hv] at h hy;have hp:=hy.of (by simp)
   cases q with
   | own=>
     simp only[Ah,Ak] at h;obtain⟨rfl,rfl⟩:=h;have hk:=mv_ok (.nil .own) hv rfl (fun _=>rfl) rfl;obtain⟨m1,m2⟩:=Ee y hs (by rw[hk];rfl);rw[hp];exact⟨_,rfl,m2⟩
   | frz=>
     simp only[Ah,Ak] at h;obtain⟨rfl,rfl⟩:=h;rw[hp];exact⟨s,rfl,hs⟩
   | ownw w'=>
     simp only[Ah,Ak] at h;obtain⟨rfl,rfl⟩:=h;rw[hp];exact⟨s,rfl,hs⟩
   | bor a b c=>
     simp only[Ah,Ak] at h;obtain⟨rfl,rfl⟩:=h;rw[hp];exact⟨s,rfl,hs⟩
   | pre a b=>
     simp only[Ah,Ak] at h;obtain⟨rfl,rfl⟩:=h;rw[hp];exact⟨s,rfl,hs⟩
 | sl q r l=>
   rw[hv] at h hy;have hp:=hy.of (by simp)
   have key:(if (r.w == w&&r.flat)=true then some (DSrc.sl r l,d) else none)=some (new,d')→Ck w (l.map (RT.enc r))=true∧HZ (l.map (RT.enc r))=true∧new.es=l.map (RT.enc r)∧d'=d:=fun h=>by
    by_cases hw:(r.w == w&&r.flat)=true
    · rw[Ab hw] at h;simp only[Ai,AV] at hw;simp only[Ah,Ak] at h;obtain⟨rfl,rfl⟩:=h;exact⟨hw.1▸EM r l,dk r hw.2 l,rfl,rfl⟩
    · rw[Ad hw] at h;cases h
   rw[hp]
   cases q with
   | own=>
     simp only at h;by_cases hw:(r.w == w)=true
     · rw[Ab hw] at h;simp only[Ah,Ak] at h;obtain⟨rfl,rfl⟩:=h;have hk:=mv_ok (.sl .own r l) hv rfl (fun _=>rfl) rfl;obtain⟨m1,m2⟩:=Ee y hs (by rw[hk];rfl)
       have hw':r.w=w:=by simpa using hw
       simp only[DV.enc];rw[Ab (hw'▸EM r l)];exact⟨_,rfl,m2⟩
     · rw[Ad hw] at h;cases h
   |ownw w'=>cases h
   |frz=>obtain⟨k1,k2,k3,rfl⟩:=key h;simp only[DV.enc];rw[Ab ⟨k1,k2⟩,k3];exact⟨s,rfl,hs⟩
   |bor a b c=>obtain⟨k1,k2,k3,rfl⟩:=key h;simp only[DV.enc];rw[Ab ⟨k1,k2⟩,k3];exact⟨s,rfl,hs⟩
   |pre a b=>obtain⟨k1,k2,k3,rfl⟩:=key h;simp only[DV.enc];rw[Ab ⟨k1,k2⟩,k3];exact⟨s,rfl,hs⟩
 |_=>rw[hv] at h;cases h
theorem Lh{x:DSrc}{r:RT}{l:List r.D}(h:x.to r=some l):x.es.length=l.length:=by rw[PK h,A0]
theorem aD{w:Nat}{x:Opnd}{new:DSrc}{d d':DS}{s:PS}{g:PX}{v:DV}(hs:ES d s)(h:Np w x new d=some (g,v,d'))(hg:g.den):∃ s',Hc w x new.es s=some (v.enc,s')∧ES d' s':=by
 have hx:=x.dev_ev hs;unfold Np at h;by_cases h0:(Nat.blt 0 w&&new.w w)=true
 · simp only [h0,G2,AF,AU] at h;simp only[Ai] at h0;have hw0:0<w:=CF h0.1;unfold Hc
   cases hv:x.dev d.sl with
   | nil q =>
     rw[hv] at h hx;rw[hx.of (by simp)]
     cases q with
     | own=>
       have hk:=mv_ok (.nil .own) hv rfl (fun _=>rfl) rfl;obtain⟨m1,m2⟩:=Ee x hs (by rw[hk];rfl)
       cases new with
       | nil=>
         simp only[Ah,Ak] at h;obtain⟨rfl,rfl,rfl⟩:=h;simp only[DV.enc,DSrc.es,AJ,Ej,IZ,JZ];rw[Ab ⟨hw0,rfl,Ge _⟩];exact⟨_,rfl,m2⟩
       | sl r l=>
         simp only[Ah,Ak] at h;obtain⟨rfl,rfl,rfl⟩:=h;simp only[DV.enc,DSrc.es,AJ,Bv,A0,Cj];rw[Ab ⟨hw0,rfl,hg⟩];exact⟨_,rfl,m2⟩
     | bor hd p t=>
       cases t with
       | false=>cases p with
         |nil=>cases h
         |cons c p=>cases p<;>cases h
       | true=>
         match p,h with
         | [c],h=>
           simp only at h ⊢
           cases hk:BQ d hd [c]<;>rw[hk] at h<;>try (cases h;done)
           rename_i q
           cases q<;>try (cases h;done)
           have hne:BQ d hd [c]≠.any:=by rw[hk];simp
           have e1:=GW hs hd [c] hne;rw[hk] at e1;have e3:=KM hs hd [c] .undef hne
           cases new with
           | nil=>
             simp only[Ah,Ak] at h;obtain⟨rfl,rfl,rfl⟩:=h;simp only[DV.enc,e1,DSrc.es,AJ,Ej,IZ,JZ];rw[Ab ⟨hw0,rfl,trivial,Ge _⟩];exact⟨_,rfl,e3⟩
           | sl r l=>
             simp only[Ah,Ak] at h;obtain⟨rfl,rfl,rfl⟩:=h;simp only[DV.enc,e1,DSrc.es,AJ,Bv,A0,Cj];rw[Ab ⟨hw0,rfl,trivial,hg⟩];exact⟨_,rfl,e3⟩
         |[],h=>cases h
         |_::_::_,h=>cases h
     |_=>cases h
   | sl q r l=>
     rw[hv] at h hx;rw[hx.of (by simp)]
     cases q with
     | own =>
       simp only at h;by_cases hw:(r.w == w)=true
       · rw[Ab hw] at h
         have hw':r.w=w:=by simpa using hw
         cases ht:new.to r with
         |none=>rw[ht] at h;cases h
         | some n=>
           rw[ht] at h;simp only[Ah,Ak] at h;obtain⟨rfl,rfl,rfl⟩:=h;have hk:=mv_ok (.sl .own r l) hv rfl (fun _=>rfl) rfl;obtain⟨m1,m2⟩:=Ee x hs (by rw[hk];rfl);simp only[DV.enc,A0,Lh ht];rw[Ab ⟨hw0,hw'▸EM r l,hg⟩,PK ht];refine⟨_,?_,m2⟩;simp only[Ln,EU]
       · rw[Ad hw] at h;cases h
     | bor hd p t=>
       cases t with
       | false=>cases p with
         |nil=>cases h
         |cons c p=>cases p<;>cases h
       | true=>
         match p,h with
         | [c],h=>
           simp only at h ⊢
           cases hk:BQ d hd [c]<;>rw[hk] at h<;>try (cases h;done)
           rename_i q rh lh
           cases q<;>try (cases h;done)
           simp only at h;by_cases hw:(rh.w == w)=true
           · rw[Ab hw] at h
             have hw':rh.w=w:=by simpa using hw
             cases ht:new.to rh with
             |none=>rw[ht] at h;cases h
             | some n=>
               rw[ht] at h;simp only[Ah,Ak] at h;obtain⟨rfl,rfl,rfl⟩:=h
               have hne:BQ d hd [c]≠.any:=by rw[hk];simp
               have e1:=GW hs hd [c] hne;rw[hk] at e1;have e3:=KM hs hd [c] .undef hne;simp only[DV.enc,e1,A0,Lh ht];rw[Ab ⟨hw0,hw'▸EM rh lh,hg.1,hg.2⟩,PK ht];refine⟨_,?_,e3⟩;simp only[Ln,EU,DV.enc]
           · rw[Ad hw] at h;cases h
         |[],h=>cases h
         |_::_::_,h=>cases h
     | pre hd p=>
      match p,h with
      | [c],h=>
        simp only at h ⊢
        cases hk:BQ d hd [c]<;>rw[hk] at h<;>try (cases h;done)
        rename_i q rh lh
        cases q<;>try (cases h;done)
        simp only at h;by_cases hw:(rh.w == w)=true
        · rw[Ab hw] at h
          have hw':rh.w=w:=by simpa using hw
          cases ht:new.to rh with
          |none=>rw[ht] at h;cases h
          | some n=>
            rw[ht] at h;simp only[Ah,Ak] at h;obtain⟨rfl,rfl,rfl⟩:=h
            have hne:BQ d hd [c]≠.any:=by rw[hk];simp
            have e1:=GW hs hd [c] hne;rw[hk] at e1;have e3:=KM hs hd [c] .undef hne;simp only[DV.enc,e1,A0,Lh ht];rw[Ab ⟨hw0,hw'▸EM rh lh,hg.1,hg.2.1,hg.2.2.2⟩,PK ht,Ad (Nat.ne_of_gt hg.2.2.1)];refine⟨_,?_,e3⟩;simp only[Ln,Wq,Qb,EU,List.map_take,DV.enc]
        · rw[Ad hw] at h;cases h
      |[],h=>cases h
      |_::_::_,h=>cases h
     |_=>cases h
   |_=>rw[hv] at h;cases h
 · simp only[h0] at h;cases h
theorem bH{zs:List V}(h:Ga zs=true):EL (news (FW zs)) (zs.map Bn):=by rw[← (Ht zs h).2.1];exact EL.news _
theorem EB.append{c:List DC}{p:List PV}:∀ {a:List (List DC)} {b:List (List PV)},EB a b→EBx c p→EB (a++[c]) (b++[p])
 |[],[],_,h=>⟨h,trivial⟩
 |_::_,_::_,h,h'=>⟨h.1,EB.append h.2 h'⟩
theorem mX(r:RT)(x:r.D)(n:Nat):(List.replicate n x).map (RT.enc r)=List.replicate n (RT.enc r x):=by simp
theorem Ro{m:Bool}{o:AOp}{ty:Option RT}{d d':DS}{s:PS}{g:PX}{v:DV}(hs:ES d s)(h:A8 m o ty d=some (g,v,d'))(hg:g.den):∃ s',A9 m o s=some (v.enc,s')∧ES d' s':=by
 have E:=fun x=>Opnd.dev_ev hs x
 have pure:(Ni o (fun x=>x.dev d.sl)).map (fun r=>(r.1,r.2,d))=some (g,v,d')→∃ s',A9 m o s=some (v.enc,s')∧ES d' s':=fun h=>by
  cases hp:Ni o (fun x=>x.dev d.sl) with
  |none=>rw[hp] at h;cases h
  | some r=>
    obtain⟨g1,v1⟩:=r;rw[hp] at h;simp only[BM,Ah,Ak] at h;obtain⟨rfl,rfl,rfl⟩:=h;exact⟨s,oG hs hp hg,hs⟩
 cases o<;>first|exact pure h|skip
 case mv x=>
  cases m with
  | false=>
    simp only[A8,AF,AU] at h;by_cases hk:(A7 x d).1.ok=true
    · rw[Ab hk] at h;simp only[Ah,Ak] at h;obtain⟨rfl,rfl,rfl⟩:=h;obtain⟨m1,m2⟩:=Ee x hs hk;exact⟨_,by simp only[A9,AF,AU,← m1],m2⟩
    · rw[Ad hk] at h;cases h
  | true=>
    simp only[A8,AE] at h;by_cases hk:(I8 x d).1.ok=true
    · rw[Ab hk] at h;simp only[Ah,Ak] at h;obtain⟨rfl,rfl,rfl⟩:=h;obtain⟨m1,m2⟩:=oA x hs hk;exact⟨_,by simp only[A9,AE,← m1],m2⟩
    · rw[Ad hk] at h;cases h
 case loadB i n a=>exact UH hs (E a) h
 case loadH n a=>
  simp only[A8] at h
  cases hn:HR m n (a.dev d.sl) d with
  | none=>
    rw[hn] at h;obtain⟨s',h1,h2⟩:=UF hs (E a) h hg;refine⟨s',?_,h2⟩
    have hne:a.dev d.sl≠.any:=by
     intro e;simp only[e,I5] at h;cases h
    simp only[A9,oZ (s:=s) (E a) hne hn];exact h1
  | some r=>
    rw[hn] at h;obtain⟨h1,rfl⟩:=Z4 hs (E a) hn h hg;exact⟨s,by simp only[A9,h1];rfl,hs⟩
 case loadX i c n a=>
  simp only[A8] at h;split at h
  · rename_i hx
    cases hn:HR m n (a.dev d.sl) d with
    |none=>rw[hn] at h;cases h
    | some r=>
      rw[hn] at h;obtain⟨h1,rfl⟩:=Z4 hs (E a) hn h hg;exact⟨s,by simp only[A9,rN (E a) hx,AE,h1];rfl,hs⟩
  · cases h
 case storeB i n a x=>exact mV hs h
 case storeH n a x=>
  simp only[A8] at h;split at h
  · rename_i hok;have hn:=tx (E a) (fun e=>by rw[e] at hok;cases hok);split at h
    · rename_i hd p k j o hm;obtain⟨s',h1,h2⟩:=m9 hs (E x) h hg;exact⟨s',by simp only[A9,hn,hm];exact h1,h2⟩
    · rename_i hm;obtain⟨s',h1,h2⟩:=mZ hs h hg;exact⟨s',by simp only[A9,hn,hm];exact h1,h2⟩
  · cases h
 case appN w x y=>
  simp only[A8] at h;split at h
  · rename_i hx
    cases h1:H4 w y d with
    |none=>rw[h1] at h;cases h
    | some r=>
      obtain⟨new,d1⟩:=r;rw[h1] at h;obtain⟨s1,e1,e2⟩:=UU hs h1;obtain⟨s2,e3,e4⟩:=aD e2 h hg;have ex:=(E x).of (by rw[hx];simp);rw[hx] at ex;exact⟨s2,by simp only[A9,ex,DV.enc,e1];exact e3,e4⟩
  · cases h
 case app w x y=>
  simp only[A8] at h
  cases h1:H4 w y d with
  |none=>rw[h1] at h;cases h
  | some r=>
    obtain⟨new,d1⟩:=r;rw[h1] at h;obtain⟨s1,e1,e2⟩:=UU hs h1;obtain⟨s2,e3,e4⟩:=aD e2 h hg;exact⟨s2,by simp only[A9,e1];exact e3,e4⟩
 case allocB i zs=>
  simp only[A8] at h;by_cases hc:(Nat.blt i d.bx.length&&Ga zs)=true
  · rw[Ab hc] at h;simp only[Ai] at hc;simp only[Ah,Ak] at h;obtain⟨rfl,rfl,rfl⟩:=h;simp only[A9];rw[Ab ⟨by rw[← hs.bx.len];exact CF hc.1,(Ht zs hc.2).1⟩];exact⟨_,rfl,(hs.sl.clearBox i).clr _,hs.bx.put i (.inr (bH hc.2)),hs.hp⟩
  · rw[Ad hc] at h;cases h
 case boxB i n x=>
  simp only[A8] at h;by_cases hc:(Nat.blt i (A7 x d).2.bx.length&&(A7 x d).1.cells.length == n&&CQ (A7 x d).1.cells)=true
  · rw[Ab hc] at h;simp only[Ai,AV] at hc;obtain⟨⟨h1,rfl⟩,h3⟩:=hc;obtain⟨m1,m2⟩:=Ee x hs (OR _ h3);simp only[Ah,Ak] at h;obtain⟨rfl,rfl,rfl⟩:=h;simp only[A9,m1,IM,EN];rw[Ab ⟨by rw[← m2.bx.len];exact CF h1,trivial,KV _ h3⟩];exact⟨_,rfl,(m2.sl.clearBox i).clr _,m2.bx.put i (.inr (EL.news _)),m2.hp⟩
  · rw[Ad hc] at h;cases h
 case allocH zs=>
  simp only[A8] at h;by_cases hc:Ga zs=true
  · rw[Ab hc] at h;simp only[Ah,Ak] at h;obtain⟨rfl,rfl,rfl⟩:=h;simp only[A9];rw[Ab (Ht zs hc).1,← hs.hp.len];exact⟨_,rfl,hs.sl.clr _,hs.bx,hs.hp.append (.inr (bH hc))⟩
  · rw[Ad hc] at h;cases h
 case boxH n x=>
  simp only[A8] at h;by_cases hc:((A7 x d).1.cells.length == n&&CQ (A7 x d).1.cells)=true
  · rw[Ab hc] at h;simp only[Ai,AV] at hc;obtain⟨rfl,h3⟩:=hc;obtain⟨m1,m2⟩:=Ee x hs (OR _ h3);simp only[Ah,Ak] at h;obtain⟨rfl,rfl,rfl⟩:=h;simp only[A9,m1,IM,EN];rw[Ab ⟨trivial,KV _ h3⟩,← m2.hp.len];exact⟨_,rfl,m2.sl.clr _,m2.bx,m2.hp.append (.inr (EL.news _))⟩
  · rw[Ad hc] at h;cases h
 case build zs ps=>
  simp only[A8] at h;by_cases hc:Ga zs=true
  · rw[Ab hc] at h
    cases hf:HW (FW zs) ps d with
    |none=>rw[hf] at h;cases h
    | some r=>
      obtain⟨cs,d1⟩:=r;rw[hf] at h;simp only[Ah,Ak] at h;obtain⟨rfl,rfl,rfl⟩:=h;obtain⟨s',e1,e2⟩:=UK ps hs hf;rw[(Ht zs hc).2.1] at e1;simp only[A9];rw[Ab (Ht zs hc).1,e1];exact⟨s',rfl,e2⟩
  · rw[Ad hc] at h;cases h
 case mkSlice w z len=>
  simp only[A8] at h
  cases he:len.dev d.sl with
  | int k n=>
    rw[he] at h
    cases k<;>try (cases h)
    simp only at h;split at h
    · rename_i r hr;split at h
      · rename_i x hx;split at h
        · rename_i hc;simp only[Ai,AV] at hc;obtain⟨⟨⟨h1,h2⟩,h3⟩,h4⟩:=hc;simp only[Ah,Ak] at h;obtain⟨rfl,rfl,rfl⟩:=h;have hp:=E len;rw[he] at hp;simp only[A9,hp.of (by simp),DV.enc];rw[Ab ⟨hg.1,h1,CF h3,(Ht z h4).1,hg.2⟩];refine⟨s,?_,hs⟩;rw[fF];rw[mX,← Nb hx,(Ht z h4).2.1]
        · cases h
      · cases h
    · cases h
  |_=>rw[he] at h;cases h
 case litSlice w n zs ps=>
  simp only[A8] at h;by_cases hn:(n == 0)=true
  · rw[Ab hn] at h;simp only[Ah,Ak] at h;obtain⟨rfl,rfl,rfl⟩:=h;simp only[A9];rw[Ab (by simpa using hn)];refine⟨s,?_,hs⟩;cases ty<;>rfl
  · rw[Ad hn] at h;split at h
    · rename_i hc;simp only[Ai,AV] at hc;obtain⟨⟨h1,h2⟩,h3⟩:=hc;split at h
      · rename_i cs d1 hf;split at h
        · rename_i r hr;split at h
          · split at h
            · rename_i l hl;simp only[Ah,Ak] at h;obtain⟨rfl,rfl,rfl⟩:=h;obtain⟨s',e1,e2⟩:=UK ps hs hf;rw[(Ht zs h1).2.1] at e1;simp only[A9];rw[Ad (by simpa using hn),Ab ⟨(Ht zs h1).1,h2,CF h3⟩,e1];refine⟨s',?_,e2⟩;simp only[BM,DV.enc,ZB r w n cs l hl]
            · cases h
          · cases h
        · cases h
      · cases h
    · cases h
 case extract x i=>
  simp only[A8] at h
  cases x with
  |c v=>cases h
  | t t =>
    simp only at h;have ht:EV (Bb d.sl t) (Aa s.sl t):=hs.sl.get t
    cases hv:Bb d.sl t with
    | tup vs=>
      rw[hv] at h ht;simp only at h;have hp:Aa s.sl t= .tup (DV.encL vs):=ht.of (by simp);split at h
      · rename_i hc;simp only[Ai] at hc;simp only[A9,hp];rw[EN,Ab (show i<vs.length from CF hc.1),← MC,HC,Sw];split at h
        · rename_i ho;rw[Ab ho];split at h
          · cases h
          · rename_i hb;rw[Ad hb];simp only[Ah,Ak] at h;obtain⟨rfl,rfl,rfl⟩:=h;refine⟨_,rfl,?_,hs.bx,hs.hp⟩;refine(EL.put t hs.sl (.inr ?_)).clr _;show PV.tup _=PV.tup _;rw[Sq];rfl
        · rename_i ho;rw[Ad ho];simp only[Ah,Ak] at h;obtain⟨rfl,rfl,rfl⟩:=h;exact⟨_,rfl,hs⟩
      · cases h
    |_=>rw[hv] at h;cases h
theorem Wk{w:Nat}{new:DSrc}{r:RT}{n:List r.D}(h:new.to r=some n)(l:List r.D)(hw:r.w=w):l.map (RT.enc r)++new.es=(l++n).map (RT.enc r)∧Ck w (l.map (RT.enc r)++new.es)=true:=by
 have:l.map (RT.enc r)++new.es=(l++n).map (RT.enc r):=by rw[PK h,EU]
 exact⟨this,by rw[this];exact hw▸EM r (l++n)⟩
theorem SQ{w:Nat}{es:List (List PV)}(h:Ck w es=true):D7 [(0,w)] (.sl .own es)=some (.sl (.ownw w) es):=by
 show E3 w (.sl .own es)=_;simp only[E3];rw[Ab h]
theorem uj{w:Nat}{es:List (List PV)}:D7 [(0,w)] (.sl (.ownw w) es)=some (.sl (.ownw w) es):=by
 show E3 w (.sl (.ownw w) es)=_;simp only[E3,AE]
theorem Px{w:Nat}{es:List (List PV)}{c:Prop} [Decidable c](h:Ck w es=true):D7 [(0,w)] (.sl (if c then .ownw w else .own) es)=some (.sl (.ownw w) es):=by
 split
 · exact uj
 · exact SQ h
theorem oK{w:Nat}{x:Opnd}{new:DSrc}{d d':DS}{s:PS}{g:PX}{v:DV}(hs:ES d s)(h:P2 w x new d=some (g,v,d'))(hg:g.den):∃ s' v0,Hc w x new.es s=some (v0,s')∧D7 [(0,w)] v0=some v.enc∧ES d' s':=by
 have hx:=x.dev_ev hs;unfold P2 at h;by_cases h0:(Nat.blt 0 w&&new.w w)=true
 · simp only [h0,G2,AF,AU] at h;simp only[Ai] at h0;have hw0:0<w:=CF h0.1;have haw:=vN h0.2;unfold Hc
   cases hv:x.dev d.sl with
   | nil q =>
     rw[hv] at h hx;rw[hx.of (by simp)]
     cases q with
     | own=>
       have hk:=mv_ok (.nil .own) hv rfl (fun _=>rfl) rfl;obtain⟨m1,m2⟩:=Ee x hs (by rw[hk];rfl);simp only[DV.enc,AJ,Bv,Cj]
       cases new with
       | nil=>
         simp only[Ka,Ah,Ak] at h;obtain⟨rfl,rfl,rfl⟩:=h;rw[Ab ⟨hw0,rfl,by simp[DSrc.es,AW]⟩];exact⟨_,_,rfl,SQ haw,m2⟩
       | sl r l=>
         simp only[Ka,Ah,Ak] at h;obtain⟨rfl,rfl,rfl⟩:=h;rw[Ab ⟨hw0,rfl,by simpa [DSrc.es,PX.den] using hg⟩];exact⟨_,_,rfl,SQ haw,m2⟩
     | ownw w'=>
       simp only at h;by_cases hw':(w' == w)=true
       · rw[Ab hw'] at h
         have hw':w'=w:=by simpa using hw'
         subst hw';have hk:=mv_ok (.nil (.ownw w')) hv rfl (fun _=>rfl) rfl;obtain⟨m1,m2⟩:=Ee x hs (by rw[hk];rfl);simp only[DV.enc,AJ,Bv,Cj]
         cases new with
         | nil=>
           simp only[Ka,Ah,Ak] at h;obtain⟨rfl,rfl,rfl⟩:=h;rw[Ab ⟨hw0,trivial,rfl,by simp[DSrc.es,AW]⟩];exact⟨_,_,rfl,Px haw,m2⟩
         | sl r l=>
           simp only[Ka,Ah,Ak] at h;obtain⟨rfl,rfl,rfl⟩:=h;rw[Ab ⟨hw0,trivial,rfl,by simpa [DSrc.es,PX.den] using hg⟩];exact⟨_,_,rfl,Px haw,m2⟩
       · rw[Ad hw'] at h;cases h
     |_=>cases h
   | sl q r l=>
     rw[hv] at h hx;rw[hx.of (by simp)]
     cases q with
     | own =>
       simp only at h;by_cases hw:(r.w == w)=true
       · rw[Ab hw] at h
         have hw':r.w=w:=by simpa using hw
         cases ht:new.to r with
         |none=>rw[ht] at h;cases h
         | some n=>
           rw[ht] at h;simp only[Ah,Ak] at h;obtain⟨rfl,rfl,rfl⟩:=h;have hk:=mv_ok (.sl .own r l) hv rfl (fun _=>rfl) rfl;obtain⟨m1,m2⟩:=Ee x hs (by rw[hk];rfl);obtain⟨a1,a2⟩:=Wk ht l hw';simp only[DV.enc,A0,Lh ht];rw[Ab ⟨hw0,hw'▸EM r l,hg⟩];exact⟨_,_,rfl,by rw[SQ a2,a1];simp only[Ln],m2⟩
       · rw[Ad hw] at h;cases h
     | ownw w'=>
       simp only at h;by_cases hw:(w' == w&&r.w == w)=true
       · rw[Ab hw] at h;simp only[Ai,AV] at hw;obtain⟨rfl,hw'⟩:=hw
         cases ht:new.to r with
         |none=>rw[ht] at h;cases h
         | some n=>
           rw[ht] at h;simp only[Ah,Ak] at h;obtain⟨rfl,rfl,rfl⟩:=h;have hk:=mv_ok (.sl (.ownw w') r l) hv rfl (fun _=>rfl) rfl;obtain⟨m1,m2⟩:=Ee x hs (by rw[hk];rfl);obtain⟨a1,a2⟩:=Wk ht l hw';simp only[DV.enc,A0,Lh ht];rw[Ab ⟨hw0,trivial,hw'▸EM r l,hg⟩];exact⟨_,_,rfl,by rw[Px a2,a1];simp only[Ln],m2⟩
       · rw[Ad hw] at h;cases h
     | pre hd p=>
      match p,h with
      | [c],h=>
        simp only at h ⊢
        cases hk:BQ d hd [c]<;>rw[hk] at h<;>try (cases h;done)
        rename_i q rh lh
        have hne:BQ d hd [c]≠.any:=by rw[hk];simp
        have e1:=GW hs hd [c] hne;rw[hk] at e1;have e3:=KM hs hd [c] .undef hne
        have tk:∀ {n:List rh.D},new.to rh=some n→rh.w=w→(lh.map (RT.enc rh)).take l.length++new.es=(lApp (lTake lh (lN l)) n).map (RT.enc rh)∧Ck w ((lh.map (RT.enc rh)).take l.length++new.es)=true:=by
         intro n ht hw';have:=Wk ht (lh.take l.length) hw';rw[List.map_take] at this;simp only[Ln,Wq,Qb];exact this
        cases q<;>try (cases h;done)
        case own=>
         simp only at h;by_cases hw:(rh.w == w)=true
         · rw[Ab hw] at h
           have hw':rh.w=w:=by simpa using hw
           cases ht:new.to rh with
           |none=>rw[ht] at h;cases h
           | some n=>
             rw[ht] at h;simp only[Ah,Ak] at h;obtain⟨rfl,rfl,rfl⟩:=h;obtain⟨a1,a2⟩:=tk ht hw';simp only[DV.enc,e1,A0,Lh ht];rw[Ab ⟨hw0,hw'▸EM rh lh,hg.1,hg.2.1,hg.2.2⟩];exact⟨_,_,rfl,by rw[Px a2,a1],e3⟩
         · rw[Ad hw] at h;cases h
        case ownw w'=>
         simp only at h;by_cases hw:(w' == w&&rh.w == w)=true
         · rw[Ab hw] at h;simp only[Ai,AV] at hw;obtain⟨rfl,hw'⟩:=hw
           cases ht:new.to rh with
           |none=>rw[ht] at h;cases h
           | some n=>
             rw[ht] at h;simp only[Ah,Ak] at h;obtain⟨rfl,rfl,rfl⟩:=h;obtain⟨a1,a2⟩:=tk ht hw';simp only[DV.enc,e1,A0,Lh ht];rw[Ab ⟨hw0,trivial,hw'▸EM rh lh,hg.1,hg.2.1,hg.2.2⟩];exact⟨_,_,rfl,by rw[Px a2,a1],e3⟩
         · rw[Ad hw] at h;cases h
      |[],h=>cases h
      |_::_::_,h=>cases h
     |_=>cases h
   |_=>rw[hv] at h;cases h
 · simp only[h0] at h;cases h
theorem WW{w:Nat}{v v':DV}(h:Qg w v=some v'):E3 w v.enc=some v'.enc:=by
 unfold Qg at h;split at h
 · cases h;rfl
 · split at h
   · rename_i hw;have hw:=AV.mp hw;subst hw;cases h;simp only[DV.enc,E3,AE]
   · cases h
 · rename_i r l;split at h
   · rename_i hw;have hw:=AV.mp hw;cases h;simp only[DV.enc,E3];rw[Ab (hw▸EM r l)]
   · cases h
 · split at h
   · rename_i hw;have hw:=AV.mp hw;subst hw;cases h;simp only[DV.enc,E3,AE]
   · cases h
 · cases h
theorem gF:∀ (ws:List (Nat×Nat)) {l l':List DV},TE ws l=some l'→LK ws (DV.encL l)=some (DV.encL l')
 |[],l,l',h=>by cases h;rfl
 | (c,w)::r,l,l',h=>by
   unfold TE at h
   split at h
   · rename_i v hv
     unfold LK
     rw[← MC,WW hv]
     simp only
     rw[← Sq]
     exact gF r h
   · cases h
theorem w9{ws:List (Nat×Nat)}{v v':DV}(h:LL ws v=some v'):D7 ws v.enc=some v'.enc:=by
 unfold LL at h;split at h
 · simp only[BC] at h;obtain⟨l',h1,rfl⟩:=h;show (LK ws _).map PV.agg=_;rw[gF ws h1];rfl
 · rename_i q;split at h
   · exact WW (v:=.nil q) h
   · cases h
 · rename_i q r l;split at h
   · exact WW (v:=.sl q r l) h
   · cases h
 · cases h
theorem nG{ws:List (Nat×Nat)}{m:Bool}{o:AOp}{ty:Option RT}{d d':DS}{s:PS}{g:PX}{v:DV}(hs:ES d s)(h:Le ws m o ty d=some (g,v,d'))(hg:g.den):∃ s' v0,A9 m o s=some (v0,s')∧D7 ws v0=some v.enc∧ES d' s':=by
 have gen:(match A8 m o ty d with|some (g,v,st)=>(match LL ws v with|some v=>some (g,v,st)|none=>none)|none=>none)=some (g,v,d')→∃ s' v0,A9 m o s=some (v0,s')∧D7 ws v0=some v.enc∧ES d' s':=by
  intro h
  cases h1:A8 m o ty d with
  |none=>rw[h1] at h;cases h
  | some r=>
    obtain⟨g1,v1,d1⟩:=r;rw[h1] at h;simp only at h
    cases h2:LL ws v1 with
    |none=>rw[h2] at h;cases h
    | some v2=>
      rw[h2] at h;simp only[Ah,Ak] at h;obtain⟨rfl,rfl,rfl⟩:=h;obtain⟨s',e1,e2⟩:=Ro hs h1 hg;exact⟨s',_,e1,w9 h2,e2⟩
 cases o<;>first|exact gen h|skip
 case app w x y=>
  simp only[Le] at h;split at h
  · rename_i w';split at h
    · rename_i hw;have hw:=AV.mp hw;subst hw
      cases h1:H4 w' y d with
      |none=>rw[h1] at h;cases h
      | some r=>
        obtain⟨new,d1⟩:=r;rw[h1] at h;obtain⟨s1,e1,e2⟩:=UU hs h1;obtain⟨s2,v0,e3,e4,e5⟩:=oK e2 h hg;exact⟨s2,v0,by simp only[A9,e1];exact e3,e4,e5⟩
    · cases h
  · cases h
def Chg:List DC→List DC→Prop
 |_,[]=>True
 |[],c::r=>c.d=true∧Chg [] r
 |b::a,c::r=>(c.d=true∨c=b)∧Chg a r
def ChgB:List (List DC)→List (List DC)→Prop
 |_,[]=>True
 |[],c::r=>Chg [] c∧ChgB [] r
 |b::a,c::r=>Chg b c∧ChgB a r
structure ChgS (x y:DS):Prop where
 sl:Chg x.sl y.sl
 bx:ChgB x.bx y.bx
 hp:ChgB x.hp y.hp
theorem Chg.refl:∀ (x:List DC),Chg x x
 |[]=>trivial
 |_::r=>⟨.inr rfl,Chg.refl r⟩
theorem Chg.trans:∀ {x y z:List DC},Chg x y→Chg y z→Chg x z
 |_,_,[],_,_=>by cases ‹List DC›<;>trivial
 |[],[],_::_,_,h=>h
 |_::a,[],c::r,_,h=>⟨.inl h.1,Chg.trans (x:=a) (y:=[]) (by cases a<;>trivial) h.2⟩
 | [],b::a,c::r,h,h'=>by
   refine⟨?_,Chg.trans h.2 h'.2⟩
   rcases h'.1 with h1|h1
   · exact h1
   · rw[h1];exact h.1
 | e::x,b::a,c::r,h,h'=>by
   refine⟨?_,Chg.trans h.2 h'.2⟩
   rcases h'.1 with h1|h1
   · exact .inl h1
   · rw[h1];exact h.1
theorem ChgB.refl:∀ (x:List (List DC)),ChgB x x
 |[]=>trivial
 |b::r=>⟨Chg.refl b,ChgB.refl r⟩
theorem ChgB.trans:∀ {x y z:List (List DC)},ChgB x y→ChgB y z→ChgB x z
 |_,_,[],_,_=>by cases ‹List (List DC)›<;>trivial
 |[],[],_::_,_,h=>h
 |b::a,[],c::r,_,h=>⟨Chg.trans (y:=[]) (by trivial) h.1,ChgB.trans (x:=a) (y:=[]) (by cases a<;>trivial) h.2⟩
 |[],b::a,c::r,h,h'=>⟨h.1.trans h'.1,ChgB.trans h.2 h'.2⟩
 |e::x,b::a,c::r,h,h'=>⟨h.1.trans h'.1,ChgB.trans h.2 h'.2⟩
theorem ChgS.refl(x:DS):ChgS x x:=⟨Chg.refl _,ChgB.refl _,ChgB.refl _⟩
theorem ChgS.trans{x y z:DS}(h:ChgS x y)(h':ChgS y z):ChgS x z:=⟨h.sl.trans h'.sl,h.bx.trans h'.bx,h.hp.trans h'.hp⟩
theorem Chg.put:∀ (x:List DC) (n:Nat) (v:DV),Chg x (C0 x n v)
 |[],_,_=>trivial
 |_::r,0,_=>⟨.inl rfl,Chg.refl r⟩
 |_::r,n+1,v=>⟨.inr rfl,Chg.put r n v⟩
theorem Chg.clr(hd:Hd):∀ (x:List DC),Chg x (CH hd x)
 |[]=>trivial
 | c::r=>by
   refine⟨?_,Chg.clr hd r⟩
   split
   · exact .inl rfl
   · exact .inr rfl
theorem Chg.clearBox(i:Nat):∀ (x:List DC),Chg x (OK i x)
 |[]=>trivial
 | c::r=>by
   refine⟨?_,Chg.clearBox i r⟩
   split
   · exact .inl rfl
   · exact .inr rfl
theorem Chg.keep(live:List Nat):∀ (n:Nat) (x:List DC),Chg x (S3 live n x)
 |_,[]=>trivial
 | n,c::r=>by
   refine⟨?_,Chg.keep live (n+1) r⟩
   split
   · split
     · exact .inl rfl
     · exact .inr rfl
   · exact .inl rfl
theorem Chg.trim(live:List Nat):∀ (n:Nat) (x:List DC),Chg x (Ts live n x)
 |_,[]=>trivial
 | n,c::r=>by
   refine⟨?_,Chg.trim live (n+1) r⟩
   split
   · exact .inr rfl
   · exact .inl rfl
theorem Chg.splice:∀ (x:List DC) (n:Nat) (vs:List DV),Chg x (HE x n vs)
 |[],n,[]=>trivial
 |_::_,0,[]=>Chg.refl _
 |_::_,_+1,[]=>Chg.refl _
 |[],_,_::_=>trivial
 |_::r,0,v::vs=>⟨.inl rfl,Chg.splice r 0 vs⟩
 |_::r,n+1,v::vs=>⟨.inr rfl,Chg.splice r n (v::vs)⟩
theorem Chg.news:∀ (x:List DC) (vs:List DV),Chg x (Go.Ag.news vs)
 |x,[]=>by cases x<;>trivial
 |[],v::vs=>⟨rfl,Chg.news [] vs⟩
 |_::a,v::vs=>⟨.inl rfl,Chg.news a vs⟩
theorem ChgB.put:∀ (x:List (List DC)) (i:Nat) {v:List DC},Chg (Br x i) v→ChgB x (D2 x i v)
 |[],_,_,_=>trivial
 |_::r,0,_,h=>⟨h,ChgB.refl r⟩
 |_::r,n+1,v,h=>⟨Chg.refl _,ChgB.put r n h⟩
theorem ChgB.app:∀ (x:List (List DC)) (vs:List DV),ChgB x (x++[Go.Ag.news vs])
 |[],vs=>⟨Chg.news [] vs,trivial⟩
 |b::r,vs=>⟨Chg.refl b,ChgB.app r vs⟩
theorem Chg.rem:∀ {x y:List DC},Chg (Go.Ag.clean x) y→Chg x (Nw x y)
 |x,[],_=>by cases x<;>trivial
 |[],_::_,h=>h
 | b :: a,c::r,h=>by
   refine⟨?_,Chg.rem h.2⟩
   rcases h.1 with h1|h1
   · left;simp[h1]
   · subst h1
     cases hb:b.d with
     |true=>left;rfl
     |false=>right;obtain⟨d,v⟩:=b;simp only at hb;subst hb;rfl
theorem ChgB.rem:∀ {x y:List (List DC)},ChgB (M6 x) y→ChgB x (Qj x y)
 |x,[],_=>by cases x<;>trivial
 |[],_::_,h=>h
 |b::a,c::r,h=>⟨h.1.rem,ChgB.rem h.2⟩
theorem ChgS.rem{x y:DS}(h:ChgS x.clean y):ChgS x (Kh x y):=⟨h.sl.rem,h.bx.rem,h.hp.rem⟩
theorem ChgS.put(d:DS)(n:Option Nat)(v:DV):ChgS d (d.put n v):=by
 cases n with
 |none=>exact ChgS.refl d
 | some n=>
   simp only[DS.put];split
   · exact⟨(Chg.put _ _ _).trans (Chg.clr _ _),ChgB.refl _,ChgB.refl _⟩
   · exact⟨Chg.put _ _ _,ChgB.refl _,ChgB.refl _⟩
theorem ChgS.mvOut(x:Opnd)(d:DS):ChgS d (A7 x d).2:=by
 cases x with
 |c v=>exact ChgS.refl d
 | t n=>
   simp only[A7,Qi];split
   · split
     · exact ChgS.refl d
     · exact⟨(Chg.put _ _ _).trans (Chg.clr _ _),ChgB.refl _,ChgB.refl _⟩
   · exact ChgS.refl d
theorem ChgS.fzOut(x:Opnd)(d:DS):ChgS d (Ei x d).2:=by
 cases x with
 |c v=>exact ChgS.refl d
 | t n=>
   simp only[Ei,Qf];split
   · split
     · exact⟨(Chg.put _ _ _).trans (Chg.clr _ _),ChgB.refl _,ChgB.refl _⟩
     · exact ChgS.refl d
   · exact ChgS.refl d
theorem ChgS.setK(d:DS)(v:DV):∀ (hd:Hd) (p:List Nat),ChgS d (FN d v hd p)
 |.s t,p=>⟨(Chg.put _ _ _).trans (Chg.clr _ _),ChgB.refl _,ChgB.refl _⟩
 |.b i,[c]=>⟨Chg.clr _ _,ChgB.put _ _ (Chg.put _ _ _),ChgB.refl _⟩
 |.h i,[c]=>⟨Chg.clr _ _,ChgB.refl _,ChgB.put _ _ (Chg.put _ _ _)⟩
 |.b i,[]=>ChgS.refl d
 |.b i,_::_::_=>ChgS.refl d
 |.h i,[]=>ChgS.refl d
 |.h i,_::_::_=>ChgS.refl d
 |.x i,_=>ChgS.refl d
theorem Vm:∀ (ps:List (Nat×Nat×Opnd)) {cs cs':List DV} {d d':DS},HW cs ps d=some (cs',d')→ChgS d d'
 | [],cs,cs',d,d',h=>by
   simp only[HW,Ah,Ak] at h
   obtain⟨_,rfl⟩:=h
   exact ChgS.refl d
 | (off,size,x)::r,cs,cs',d,d',h=>by
   unfold HW at h
   split at h
   · exact(ChgS.mvOut x d).trans (Vm r h)
   · cases h
theorem VV{w:Nat}{y:Opnd}{d d':DS}{new:DSrc}(h:H4 w y d=some (new,d')):ChgS d d':=by
 unfold H4 at h
 split at h<;>(try split at h)<;>first|(cases h;done)|(simp only[Ah,Ak] at h;obtain⟨_,rfl⟩:=h;first|exact ChgS.refl _|exact ChgS.mvOut y d)
theorem dj{w:Nat}{x:Opnd}{new:DSrc}{d d':DS}{g:PX}{v:DV}(h:Np w x new d=some (g,v,d')):ChgS d d':=by
 unfold Np at h;split at h
 · cases h
 · repeat' split at h
   all_goals first|(cases h;done)|(simp only[Ah,Ak] at h;obtain⟨_,_,rfl⟩:=h;first|exact ChgS.mvOut x d|exact ChgS.setK _ _ _ _)
theorem aA{m:Bool}{i:Nat}{n:Option Nat}{a:DV}{d d':DS}{g:PX}{v:DV}(h:J1 m i n a d=some (g,v,d')):ChgS d d':=by
 unfold J1 at h;split at h
 · cases m with
   | true=>
     simp only[AE] at h;split at h
     · simp only[BC,Ak] at h;obtain⟨_,_,_,_,rfl⟩:=h;exact⟨Chg.clr _ _,ChgB.put _ _ (Chg.splice _ _ _),ChgB.refl _⟩
     · cases h
   | false=>
     simp only[AF,AU] at h;split at h
     · simp only[BC,Ak] at h;obtain⟨_,_,_,_,rfl⟩:=h;exact ChgS.refl _
     · cases h
 · cases h
theorem az{m:Bool}{n:Option Nat}{a:DV}{d d':DS}{g:PX}{v:DV}(h:I5 m n a d=some (g,v,d')):ChgS d d':=by
 unfold I5 at h;split at h
 · cases m with
   | true=>
     simp only[AE] at h;split at h
     · simp only[BC,Ak] at h;obtain⟨_,_,_,_,rfl⟩:=h;exact⟨Chg.clr _ _,ChgB.refl _,ChgB.put _ _ (Chg.splice _ _ _)⟩
     · cases h
   | false=>
     simp only[AF,AU] at h;split at h
     · simp only[BC,Ak] at h;obtain⟨_,_,_,_,rfl⟩:=h;exact ChgS.refl _
     · cases h
 · split at h
   · split at h
     · simp only[BC,Ak] at h;obtain⟨_,_,_,_,rfl⟩:=h;exact ChgS.refl _
     · cases h
   · cases h
 · cases h
theorem oO{i n:Nat}{a x:Opnd}{d d':DS}{g:PX}{v:DV}(h:O5 i n a x d=some (g,v,d')):ChgS d d':=by
 unfold O5 at h;simp only at h;split at h
 · split at h
   · simp only[Ah,Ak] at h;obtain⟨_,_,rfl⟩:=h;refine(ChgS.mvOut x d).trans ⟨?_,ChgB.put _ _ (Chg.splice _ _ _),ChgB.refl _⟩;split
     · exact Chg.clr _ _
     · exact Chg.refl _
   · cases h
 · cases h
theorem n8{n:Nat}{a x:Opnd}{d d':DS}{g:PX}{v:DV}(h:Pe n a x d=some (g,v,d')):ChgS d d':=by
 unfold Pe at h;simp only at h;split at h
 · split at h
   · simp only[Ah,Ak] at h;obtain⟨_,_,rfl⟩:=h;refine(ChgS.mvOut x d).trans ⟨?_,ChgB.refl _,ChgB.put _ _ (Chg.splice _ _ _)⟩;dsimp only;split
     · exact Chg.clr _ _
     · exact Chg.refl _
   · cases h
 · split at h
   · split at h
     · split at h
       · simp only[Ah,Ak] at h;obtain⟨_,_,rfl⟩:=h;exact(ChgS.mvOut x d).trans (ChgS.setK _ _ _ _)
       · cases h
     · cases h
   · cases h
 · cases h
theorem bV{m:Bool}{n:Option Nat}{a:DV}{d d':DS}{r:Dx}{g:PX}{v:DV}(h:HR m n a d=some r)(hr:r=some (g,v,d')):ChgS d d':=by
 unfold HR at h;split at h
 · simp only[Ah] at h;rw[hr] at h;split at h
   · simp only[Ah,Ak] at h;obtain⟨_,_,rfl⟩:=h;exact ChgS.refl _
   · cases h
 · cases h
theorem oL{n:Nat}{hd:Hd}{p k j o:Nat}{w:DV}{d d':DS}{g:PX}{v:DV}(h:O6 n hd p k j o w d=some (g,v,d')):ChgS d d':=by
 unfold O6 at h;split at h
 · split at h
   · split at h
     · simp only[Ah,Ak] at h;obtain⟨_,_,rfl⟩:=h;exact ChgS.setK _ _ _ _
     · cases h
   · cases h
 · cases h
theorem vU(x:Opnd)(d:DS):(I8 x d).2=d:=by cases x<;>rfl
theorem rL{w:Nat}{new:DSrc}{d d':DS}{g:PX}{v:DV}(h:Ka w new d=some (g,v,d')):d'=d:=by
 unfold Ka at h;split at h<;>(simp only[Ah,Ak] at h;exact h.2.2.symm)
theorem q8{w:Nat}{x:Opnd}{new:DSrc}{d d':DS}{g:PX}{v:DV}(h:P2 w x new d=some (g,v,d')):ChgS d d':=by
 unfold P2 at h;split at h
 · cases h
 · repeat' split at h
   all_goals first|(cases h;done)|(have:=rL h;subst this;exact ChgS.mvOut x d)|(simp only[Ah,Ak] at h;obtain⟨_,_,rfl⟩:=h;first|exact ChgS.mvOut x d|exact ChgS.setK _ _ _ _)
theorem RO{m:Bool}{o:AOp}{ty:Option RT}{d d':DS}{g:PX}{v:DV}(h:A8 m o ty d=some (g,v,d')):ChgS d d':=by
 have pure:(Ni o (fun x=>x.dev d.sl)).map (fun r=>(r.1,r.2,d))=some (g,v,d')→ChgS d d':=fun h=>by
  simp only[BC,Ak] at h;obtain⟨_,_,_,_,rfl⟩:=h;exact ChgS.refl _
 cases o<;>first|exact pure h|skip
 case mv x=>
  cases m with
  | true=>
    simp only[A8,AE] at h;split at h
    · simp only[Ah,Ak] at h;obtain⟨_,_,rfl⟩:=h;rw[vU];exact ChgS.refl d
    · cases h
  | false=>
    simp only[A8,AF,AU] at h;split at h
    · simp only[Ah,Ak] at h;obtain⟨_,_,rfl⟩:=h;exact ChgS.mvOut x d
    · cases h
 case loadB i n a=>exact aA h
 case loadH n a=>
  simp only[A8] at h;split at h
  · rename_i h1;exact bV h1 h
  · exact az h
 case loadX i c n a=>
  simp only[A8] at h;split at h
  · split at h
    · rename_i h1;exact bV h1 h
    · cases h
  · cases h
 case storeB i n a x=>exact oO h
 case storeH n a x=>
  simp only[A8] at h;split at h
  · split at h
    · exact oL h
    · exact n8 h
  · cases h
 case app w x y=>
  simp only[A8] at h;split at h
  · rename_i h1;exact(VV h1).trans (dj h)
  · cases h
 case appN w x y=>
  simp only[A8] at h;split at h
  · split at h
    · rename_i h1;exact(VV h1).trans (dj h)
    · cases h
  · cases h
 case allocB i zs=>
  simp only[A8] at h;split at h
  · simp only[Ah,Ak] at h;obtain⟨_,_,rfl⟩:=h;exact⟨(Chg.clearBox _ _).trans (Chg.clr _ _),ChgB.put _ _ (Chg.news _ _),ChgB.refl _⟩
  · cases h
 case boxB i n x=>
  simp only[A8] at h;split at h
  · simp only[Ah,Ak] at h;obtain⟨_,_,rfl⟩:=h;exact(ChgS.mvOut x d).trans ⟨(Chg.clearBox _ _).trans (Chg.clr _ _),ChgB.put _ _ (Chg.news _ _),ChgB.refl _⟩
  · cases h
 case allocH zs=>
  simp only[A8] at h;split at h
  · simp only[Ah,Ak] at h;obtain⟨_,_,rfl⟩:=h;exact⟨Chg.clr _ _,ChgB.refl _,ChgB.app _ _⟩
  · cases h
 case boxH n x=>
  simp only[A8] at h;split at h
  · simp only[Ah,Ak] at h;obtain⟨_,_,rfl⟩:=h;exact(ChgS.mvOut x d).trans ⟨Chg.clr _ _,ChgB.refl _,ChgB.app _ _⟩
  · cases h
 case build zs ps=>
  simp only[A8] at h;split at h
  · split at h
    · rename_i hf;simp only[Ah,Ak] at h;obtain⟨_,_,rfl⟩:=h;exact Vm ps hf
    · cases h
  · cases h
 case mkSlice w z len=>
  simp only[A8] at h
  repeat' split at h
  all_goals first|(cases h;done)|(simp only[Ah,Ak] at h;obtain⟨_,_,rfl⟩:=h;exact ChgS.refl _)
 case litSlice w n zs ps=>
  simp only[A8] at h;split at h
  · simp only[Ah,Ak] at h;obtain⟨_,_,rfl⟩:=h;exact ChgS.refl _
  · split at h
    · split at h
      · rename_i hf;have:=Vm ps hf
        repeat' split at h
        all_goals first|(cases h;done)|(simp only[Ah,Ak] at h;obtain⟨_,_,rfl⟩:=h;exact this)
      · cases h
    · cases h
 case extract x i=>
  simp only[A8] at h
  repeat' split at h
  all_goals first|(cases h;done)|(simp only[Ah,Ak] at h;obtain⟨_,_,rfl⟩:=h;first|exact ChgS.refl _|exact⟨(Chg.put _ _ _).trans (Chg.clr _ _),ChgB.refl _,ChgB.refl _⟩)
theorem pP{ws:List (Nat×Nat)}{m:Bool}{o:AOp}{ty:Option RT}{d d':DS}{g:PX}{v:DV}(h:Le ws m o ty d=some (g,v,d')):ChgS d d':=by
 have gen:(match A8 m o ty d with|some (g,v,st)=>(match LL ws v with|some v=>some (g,v,st)|none=>none)|none=>none)=some (g,v,d')→ChgS d d':=by
  intro h
  cases h1:A8 m o ty d with
  |none=>rw[h1] at h;cases h
  | some r=>
    obtain⟨g1,v1,d1⟩:=r;rw[h1] at h;simp only at h
    cases h2:LL ws v1 with
    |none=>rw[h2] at h;cases h
    | some v2=>
      rw[h2] at h;simp only[Ah,Ak] at h;obtain⟨_,_,rfl⟩:=h;exact RO h1
 cases o<;>first|exact gen h|skip
 case app w x y=>
  simp only[Le] at h;split at h
  · split at h
    · split at h
      · rename_i h1;exact(VV h1).trans (q8 h)
      · cases h
    · cases h
  · cases h
theorem Bq{α:Type}(x y:α):bSel true x y=x:=by simp only[Xj,F9,Gd]
theorem Bh{α:Type}(x y:α):bSel false x y=y:=by simp only[Xj,F9,Gd]
theorem fG(c:Bool)(x y:BX):(TH c x y).b=bif c then x.b else y.b:=by
 cases x<;>cases y<;>rename_i x y<;>cases c<;>cases x<;>cases y<;>simp[TH,BX.b,M5,gR,W6,Xj]
theorem Li{q q':Ql}(h:D8 q q'=true):q=q':=of_decide_eq_true h
mutual
theorem SV(c:Bool):∀ (x y:DV),CM c x y= .any∨(CM c x y).enc=(bif c then x.enc else y.enc)
 | .undef,y=>by
   cases y<;>first|exact .inl rfl|skip
   case undef=>cases c<;>exact .inr rfl
 | .bool a,y=>by
   cases y<;>first|exact .inl rfl|skip
   case bool b=>right;simp only[CM,DV.enc,fG];cases c<;>rfl
 | .int k a,y=>by
   cases y<;>first|exact .inl rfl|skip
   case int k' b=>
    simp only[CM]
    split
    · rename_i hk;have:=Sy hk;subst this
      right;cases c<;>simp only[DV.enc,Bq,Bh,F9,Gd]
    · exact .inl rfl
 | .str a,y=>by
   cases y<;>first|exact .inl rfl|skip
   case str b=>right;cases c<;>simp only[CM,DV.enc,Bq,Bh,F9,Gd]
 | .ifc a,y=>by
   cases y<;>first|exact .inl rfl|skip
   case ifc b=>right;cases c<;>simp only[CM,DV.enc,Bq,Bh,F9,Gd]
 | .nil q,y=>by
   cases y<;>first|exact .inl rfl|skip
   case nil q'=>
    simp only[CM]
    split
    · rename_i hq;have:=Li hq;subst this;right;cases c<;>rfl
    · exact .inl rfl
   case sl q' r l=>
    simp only[CM]
    split
    · rename_i hq;have:=Li hq;subst this;right
      cases c<;>simp only[DV.enc,Bq,Bh,F9,Gd,HI]
    · exact .inl rfl
 | .sl q r l,y=>by
   cases y<;>first|exact .inl rfl|skip
   case nil q'=>
    simp only[CM]
    split
    · rename_i hq;have:=Li hq;subst this;right
      cases c<;>simp only[DV.enc,Bq,Bh,F9,Gd,HI]
    · exact .inl rfl
   case sl q' r' l'=>
    simp only[CM]
    split
    · rename_i hq;have:=Li hq;subst this
      split
      · rename_i l2 hl
        right
        cases c<;>simp only[DV.enc,Bq,Bh,F9,Gd,(OO hl).2]
      · exact .inl rfl
    · exact .inl rfl
 | .box i o,y=>by
   cases y<;>first|exact .inl rfl|skip
   case box i' o'=>
    simp only[CM]
    split
    · rename_i h;simp only[Ai,AV] at h;obtain⟨rfl,rfl⟩:=h;right;cases c<;>rfl
    · exact .inl rfl
 | .ptr i o,y=>by
   cases y<;>first|exact .inl rfl|skip
   case ptr i' o'=>
    simp only[CM]
    split
    · rename_i h;simp only[Ai,AV] at h;obtain⟨rfl,rfl⟩:=h;right;cases c<;>rfl
    · exact .inl rfl
 | .agg a,y=>by
   cases y<;>first|exact .inl rfl|skip
   case agg b=>
    simp only[CM]
    split
    · rename_i h;simp only[Ai,AV] at h
      right
      have:=Wj c a b h.1 h.2
      cases c<;>simp only[DV.enc,this,F9,Gd]
    · exact .inl rfl
 | .tup a,y=>by
   cases y<;>first|exact .inl rfl|skip
   case tup b=>
    simp only[CM]
    split
    · rename_i h;simp only[Ai,AV] at h
      right
      have:=Wj c a b h.1 h.2
      cases c<;>simp only[DV.enc,this,F9,Gd]
    · exact .inl rfl
 |.any,y=>by cases y<;>exact .inl rfl
 |.ep _ _ _ _ _,y=>by cases y<;>exact .inl rfl
theorem Wj(c:Bool):∀ (x y:List DV),x.length=y.length→DV.okL (Ja c x y)=true→DV.encL (Ja c x y)=(bif c then DV.encL x else DV.encL y)
 |[],[],_,_=>by cases c<;>rfl
 |[],_::_,h,_=>by cases h
 |_::_,[],h,_=>by cases h
 | x :: a,y::b,h,hk=>by
   simp only[Ja,DV.okL,Ai] at hk
   have h1:=Wj c a b (by simpa using h) hk.2
   rcases SV c x y with h2|h2
   · rw[h2] at hk;cases hk.1
   · simp only[Ja,DV.encL,h1,h2]
     cases c<;>rfl
end
theorem vK{c:Bool}{x y:DV}{p:PV}(h:EV (bif c then x else y) p):EV (CM c x y) p:=by
 rcases SV c x y with h1|h1
 · exact .inl h1
 · cases c with
   | true=>
     rcases h with h|h
     · simp only[F9] at h;subst h;exact .inl (by cases y<;>rfl)
     · exact .inr (by rw[h1];exact h)
   | false=>
     rcases h with h|h
     · simp only[Gd] at h;subst h;exact .inl (by cases x<;>rfl)
     · exact .inr (by rw[h1];exact h)
theorem Wl{c:Bool}:∀ {b x y:List DC} {p:List PV},Chg b x→Chg b y→x.length=y.length→EL (bif c then x else y) p→EL (PU c x y) p
 |_,[],[],p,_,_,_,h=>by cases c<;>exact h
 |_,[],_::_,_,_,_,h,_=>by cases h
 |_,_::_,[],_,_,_,h,_=>by cases h
 |b,x::a,y::e,[],_,_,_,h=>by cases c<;>exact h.elim
 | b,x::a,y::e,q::p,h1,h2,hl,h=>by
   have hr:∃ b',Chg b' a∧Chg b' e∧((x.d=true∨y.d=true)∨x=y):=by
    cases b with
    |nil=>exact⟨[],h1.2,h2.2,.inl (.inl h1.1)⟩
    | cons b0 b=>
      refine⟨b,h1.2,h2.2,?_⟩;rcases h1.1 with e1|e1
      · exact .inl (.inl e1)
      · rcases h2.1 with e2|e2
        · exact .inl (.inr e2)
        · exact .inr (e1.trans e2.symm)
   obtain⟨b',h3,h4,h5⟩:=hr;have ih:=Wl (c:=c) (p:=p) h3 h4 (by simpa using hl) (by cases c<;>exact h.2);refine⟨?_,ih⟩
   have hv:EV (bif c then x.v else y.v) q:=by cases c<;>exact h.1
   unfold TG;split
   · exact vK hv
   · rename_i hd;rcases h5 with h5|h5
     · exfalso;apply hd;rcases h5 with h5|h5<;>simp[h5]
     · subst h5;cases c<;>exact hv
theorem Wa{c:Bool}:∀ {b x y:List (List DC)} {p:List (List PV)},ChgB b x→ChgB b y→x.length=y.length→EB (bif c then x else y) p→EB (PI c x y) p
 |_,[],[],p,_,_,_,h=>by cases c<;>exact h
 |_,[],_::_,_,_,_,h,_=>by cases h
 |_,_::_,[],_,_,_,h,_=>by cases h
 |b,x::a,y::e,[],_,_,_,h=>by cases c<;>exact h.elim
 | b,x::a,y::e,q::p,h1,h2,hl,h=>by
   have hr:∃ b0 b',Chg b0 x∧Chg b0 y∧ChgB b' a∧ChgB b' e:=by
    cases b with
    |nil=>exact⟨[],[],h1.1,h2.1,h1.2,h2.2⟩
    |cons b0 b=>exact⟨b0,b,h1.1,h2.1,h1.2,h2.2⟩
   obtain⟨b0,b',h3,h4,h5,h6⟩:=hr;have ih:=Wa (c:=c) (p:=p) h5 h6 (by simpa using hl) (by cases c<;>exact h.2);refine⟨?_,ih⟩
   have hv:EBx (bif c then x else y) q:=by cases c<;>exact h.1
   split
   · rename_i hxy
     have hxy:x.length=y.length:=by simpa using hxy
     rcases hv with hv|hv
     · cases c
       · simp only[Gd] at hv;subst hv;have:x=[]:=Eh hxy;subst this;exact .inl rfl
       · simp only[F9] at hv;subst hv;have:y=[]:=Eh hxy.symm;subst this;exact .inl rfl
     · exact .inr (Wl h3 h4 hxy hv)
   · exact .inl rfl
theorem wH{c:Bool}{b x y z:DS}{s:PS}(hx:ChgS b x)(hy:ChgS b y)(h:LI c x y=some z)(hs:ES (bif c then x else y) s):ES z s:=by
 unfold LI at h;split at h
 · rename_i hl;simp only[Ai,AV] at hl;simp only[Ah] at h;subst h;exact⟨Wl hx.sl hy.sl hl.1.1 (by cases c<;>exact hs.sl),Wa hx.bx hy.bx hl.1.2 (by cases c<;>exact hs.bx),Wa hx.hp hy.hp hl.2 (by cases c<;>exact hs.hp)⟩
 · cases h
theorem OG{c:Bool}:∀ {b x y:List DC},Chg b x→Chg b y→Chg b (PU c x y)
 |b,[],_,_,_=>by cases b<;>trivial
 |b,_::_,[],_,_=>by cases b<;>trivial
 |[],x::a,y::e,h,h'=>⟨by simp[TG,h.1],OG h.2 h'.2⟩
 | b::_,x::a,y::e,h,h'=>by
   refine⟨?_,OG h.2 h'.2⟩
   unfold TG
   split
   · exact .inl rfl
   · exact h.1
theorem RJ{c:Bool}:∀ {b x y:List (List DC)},ChgB b x→ChgB b y→ChgB b (PI c x y)
 |b,[],_,_,_=>by cases b<;>trivial
 |b,_::_,[],_,_=>by cases b<;>trivial
 | [],x::a,y::e,h,h'=>by
   refine⟨?_,RJ h.2 h'.2⟩
   split
   · exact OG h.1 h'.1
   · trivial
 | b::_,x::a,y::e,h,h'=>by
   refine⟨?_,RJ h.2 h'.2⟩
   split
   · exact OG h.1 h'.1
   · cases b<;>trivial
theorem ug{c:Bool}{b x y z:DS}(hx:ChgS b x)(hy:ChgS b y)(h:LI c x y=some z):ChgS b z:=by
 unfold LI at h;split at h
 · simp only[Ah] at h;subst h;exact⟨OG hx.sl hy.sl,RJ hx.bx hy.bx,RJ hx.hp hy.hp⟩
 · cases h
theorem PX.land_den:∀ (a b:PX),(a.land b).den↔a.den∧b.den
 |.tt,b=>by simp[PX.land,PX.den]
 |.ff,b=>by simp[PX.land,PX.den]
 |.p h,b=>by cases b<;>simp[PX.land,PX.den]
 |.and x y,b=>by cases b<;>simp[PX.land,PX.den]
 |.ite c x y,b=>by cases b<;>simp[PX.land,PX.den]
theorem PX.if_den(c:Bool)(a b:PX):(PX.if' c a b).den↔(c=true→a.den)∧(c=false→b.den):=by
 cases a<;>cases b<;>simp[PX.if',PX.den]
def AExit.isN:AExit→Bool
 |.normal=>true
 |_=>false
def DT.lf:DT→Option (AExit×DS)
 |.leaf e st=>some (e,st)
 |.node c a b=>(match c with|true=>a.lf|false=>b.lf)
 |.chk _ t=>t.lf
 |.bad=>none
def DT.All(P:DS→Prop):DT→Prop
 |.leaf _ st=>P st
 |.node _ a b=>a.All P∧b.All P
 |.chk _ t=>t.All P
 |.bad=>True
theorem DT.All.imp{P Q:DS→Prop}(h:∀ st,P st→Q st):∀ {t:DT},t.All P→t.All Q
 |.leaf _ _,a=>h _ a
 |.node _ _ _,a=>⟨DT.All.imp h a.1,DT.All.imp h a.2⟩
 |.chk _ t,a=>DT.All.imp h (t:=t) a
 |.bad,_=>trivial
theorem DT.ok_lf:∀ {t:DT},t.ok.den→∃ e st,t.lf=some (e,st)
 |.leaf e st,_=>⟨e,st,rfl⟩
 | .node c a b,h=>by
   have h:=(PX.if_den c a.ok b.ok).mp h
   cases c
   · exact DT.ok_lf (t:=b) (h.2 rfl)
   · exact DT.ok_lf (t:=a) (h.1 rfl)
 |.chk g t,h=>DT.ok_lf (t:=t) ((PX.land_den g t.ok).mp h).2
 |.bad,h=>h.elim
theorem DT.All.lf{P:DS→Prop}:∀ {t:DT} {e:AExit} {st:DS},t.All P→t.lf=some (e,st)→P st
 |.leaf e st,_,_,h,hl=>by simp only[DT.lf,Ah,Ak] at hl;obtain⟨_,rfl⟩:=hl;exact h
 | .node c a b,_,_,h,hl=>by
   cases c
   · exact DT.All.lf (t:=b) h.2 hl
   · exact DT.All.lf (t:=a) h.1 hl
 |.chk g t,_,_,h,hl=>DT.All.lf (t:=t) h hl
 |.bad,_,_,_,hl=>by cases hl
theorem DT.norm_chg{b:DS}:∀ {t:DT} {m:DS},t.All (ChgS b)→t.norm= .some m→ChgS b m
 | .leaf e st,m,h,hn=>by
   cases e<;>simp only[DT.norm,reduceCtorEq,NS.some.injEq] at hn
   subst hn;exact h
 | .node c x y,m,h,hn=>by
   simp only[DT.norm] at hn
   cases h1:x.norm with
   |none=>rw[h1] at hn;exact DT.norm_chg h.2 hn
   | fail=>
     rw[h1] at hn
     cases h2:y.norm<;>rw[h2] at hn<;>cases hn
   | some a=>
     rw[h1] at hn
     cases h2:y.norm with
     |none=>rw[h2] at hn;exact DT.norm_chg h.1 (h1.trans hn)
     |fail=>rw[h2] at hn;cases hn
     | some e=>
       rw[h2] at hn
       simp only at hn
       cases h3:LI c a e with
       |none=>rw[h3] at hn;cases hn
       | some z=>
         rw[h3] at hn
         simp only[NS.some.injEq] at hn
         subst hn
         exact ug (DT.norm_chg h.1 h1) (DT.norm_chg h.2 h2) h3
 |.chk g t,m,h,hn=>DT.norm_chg (t:=t) h hn
 |.bad,m,h,hn=>by cases hn
theorem DT.norm_none:∀ {t:DT} {e:AExit} {st:DS},t.norm= .none→t.lf=some (e,st)→e.isN=false
 | .leaf e st,_,_,hn,hl=>by
   simp only[DT.lf,Ah,Ak] at hl;obtain⟨rfl,_⟩:=hl
   cases e<;>first|rfl|cases hn
 | .node c x y,e,st,hn,hl=>by
   simp only[DT.norm] at hn
   have hxy:x.norm= .none∧y.norm= .none:=by
    cases h1:x.norm<;>rw[h1] at hn<;>cases h2:y.norm<;>rw[h2] at hn<;>first|exact⟨rfl,rfl⟩|(cases hn;done)|(simp only at hn;split at hn<;>cases hn)
   cases c
   · exact DT.norm_none hxy.2 hl
   · exact DT.norm_none hxy.1 hl
 |.chk g t,_,_,hn,hl=>DT.norm_none (t:=t) hn hl
 |.bad,_,_,_,hl=>by cases hl
theorem DT.norm_s{b:DS}:∀ {t:DT} {m st:DS} {s:PS},t.All (ChgS b)→t.norm= .some m→t.lf=some (.normal,st)→ES st s→ES m s
 | .leaf e st0,m,st,s,h,hn,hl,hs=>by
   simp only[DT.lf,Ah,Ak] at hl
   obtain⟨rfl,rfl⟩:=hl
   simp only[DT.norm,NS.some.injEq] at hn
   subst hn;exact hs
 | .node c x y,m,st,s,h,hn,hl,hs=>by
   simp only[DT.norm] at hn
   cases h1:x.norm with
   | none=>
     rw[h1] at hn
     cases c with
     |true=>have:=DT.norm_none h1 hl;cases this
     |false=>exact DT.norm_s h.2 hn hl hs
   | fail=>
     rw[h1] at hn
     cases h2:y.norm<;>rw[h2] at hn<;>cases hn
   | some a=>
     rw[h1] at hn
     cases h2:y.norm with
     | none=>
       rw[h2] at hn
       cases c with
       |true=>exact DT.norm_s h.1 (h1.trans hn) hl hs
       |false=>have:=DT.norm_none h2 hl;cases this
     |fail=>rw[h2] at hn;cases hn
     | some e=>
       rw[h2] at hn
       simp only at hn
       cases h3:LI c a e with
       |none=>rw[h3] at hn;cases hn
       | some z=>
         rw[h3] at hn
         simp only[NS.some.injEq] at hn
         subst hn
         refine wH (DT.norm_chg h.1 h1) (DT.norm_chg h.2 h2) h3 ?_
         cases c with
         |true=>exact DT.norm_s h.1 h1 hl hs
         |false=>exact DT.norm_s h.2 h2 hl hs
 |.chk g t,m,st,s,h,hn,hl,hs=>DT.norm_s (t:=t) h hn hl hs
 |.bad,m,st,s,h,hn,hl,hs=>by cases hl
theorem DT.cont_s:∀ {t:DT} {b:BX} {e:AExit} {st:DS},t.cont=some b→t.lf=some (e,st)→b.b=e.isN
 | .leaf e st0,b,e',st,hc,hl=>by
   simp only[DT.lf,Ah,Ak] at hl;obtain⟨rfl,_⟩:=hl;cases e<;>simp only[DT.cont,Ah] at hc<;>subst hc<;>rfl
 | .node c x y,b,e,st,hc,hl=>by
   have hno:∀ {t:DT},t.cont=none→t.lf=none:=by
    intro t
    induction t with
    |leaf e st=>intro h;cases e<;>cases h
    | node c x y ih1 ih2=>
      intro h;simp only[DT.cont] at h
      cases h1:x.cont<;>rw[h1] at h<;>cases h2:y.cont<;>rw[h2] at h<;>first|(cases h;done)|skip
      cases c
      · exact ih2 h2
      · exact ih1 h1
    |chk g t ih=>intro h;exact ih h
    |bad=>intro _;rfl
   simp only[DT.cont] at hc
   cases h1:x.cont with
   | none=>
     rw[h1] at hc
     cases c with
     |true=>simp only[DT.lf,hno h1] at hl;cases hl
     |false=>exact DT.cont_s hc hl
   | some p=>
     rw[h1] at hc
     cases h2:y.cont with
     | none=>
       rw[h2] at hc
       cases c with
       |true=>exact DT.cont_s (h1.trans hc) hl
       |false=>simp only[DT.lf,hno h2] at hl;cases hl
     | some q=>
       rw[h2] at hc;simp only[Ah] at hc;subst hc;rw[fG]
       cases c with
       |true=>exact DT.cont_s h1 hl
       |false=>exact DT.cont_s h2 hl
 |.chk g t,b,e,st,hc,hl=>DT.cont_s (t:=t) hc hl
 |.bad,b,e,st,hc,hl=>by cases hl
theorem DT.cont_none:∀ {t:DT},t.cont=none→t.lf=none
 |.leaf e st,h=>by cases e<;>cases h
 | .node c x y,h=>by
   simp only[DT.cont] at h
   cases h1:x.cont<;>rw[h1] at h<;>cases h2:y.cont<;>rw[h2] at h<;>first|(cases h;done)|skip
   cases c
   · exact DT.cont_none (t:=y) h2
   · exact DT.cont_none (t:=x) h1
 |.chk g t,h=>DT.cont_none (t:=t) h
 |.bad,_=>rfl
theorem DT.drop_lf:∀ {t:DT} {e:AExit} {st:DS},t.lf=some (e,st)→e.isN=false→t.drop.lf=some (e,st)
 | .leaf e st0,e',st,hl,he=>by
   simp only[DT.lf,Ah,Ak] at hl;obtain⟨rfl,rfl⟩:=hl
   cases e<;>first|rfl|cases he
 | .node c x y,e,st,hl,he=>by
   have hnb:∀ a b:DT,(DT.nodeB c a b).lf=some (e,st)∨(match c with|true=>a.lf|false=>b.lf)≠some (e,st):=by
    intro a b
    cases c with
    | true=>
      cases ha:a with
      |bad=>right;simp[DT.lf]
      | _=>
        rw[← ha];by_cases h:a.lf=some (e,st)
        · left;cases hb:b<;>rw[ha] at h ⊢<;>exact h
        · right;exact h
    | false=>
      cases hb:b with
      |bad=>right;simp[DT.lf]
      | _=>
        rw[← hb];by_cases h:b.lf=some (e,st)
        · left;cases ha:a<;>rw[hb] at h ⊢<;>exact h
        · right;exact h
   simp only[DT.drop];rcases hnb x.drop y.drop with h|h
   · exact h
   · exfalso;apply h
     cases c with
     |true=>exact DT.drop_lf (t:=x) hl he
     |false=>exact DT.drop_lf (t:=y) hl he
 |.chk g t,e,st,hl,he=>DT.drop_lf (t:=t) hl he
 |.bad,e,st,hl,he=>by cases hl
theorem DT.drop_all{P:DS→Prop}:∀ {t:DT},t.All P→t.drop.All P
 |.leaf e st,h=>by cases e<;>first|trivial|exact h
 | .node c x y,h=>by
   have h1:=DT.drop_all h.1
   have h2:=DT.drop_all h.2
   simp only[DT.drop]
   cases hx:x.drop<;>cases hy:y.drop<;>rw[hx] at h1<;>rw[hy] at h2<;>first|trivial|exact h1|exact h2|exact⟨h1,h2⟩
 |.chk g t,h=>DT.drop_all (t:=t) h
 |.bad,_=>trivial
theorem DT.map_lf(f:DS→DS):∀ (t:DT),(t.map f).lf=t.lf.map fun x=>(x.1,f x.2)
 |.leaf _ _=>rfl
 | .node c a b=>by
   cases c
   · exact DT.map_lf f b
   · exact DT.map_lf f a
 |.chk _ t=>DT.map_lf f t
 |.bad=>rfl
theorem DT.map_ok(f:DS→DS):∀ (t:DT),(t.map f).ok=t.ok
 |.leaf _ _=>rfl
 |.node c a b=>by simp only[DT.map,DT.ok,DT.map_ok f a,DT.map_ok f b]
 |.chk _ t=>by simp only[DT.map,DT.ok,DT.map_ok f t]
 |.bad=>rfl
theorem DT.map_all{P Q:DS→Prop}{f:DS→DS}(h:∀ st,P st→Q (f st)):∀ {t:DT},t.All P→(t.map f).All Q
 |.leaf _ _,a=>h _ a
 |.node _ _ _,a=>⟨DT.map_all h a.1,DT.map_all h a.2⟩
 |.chk _ t,a=>DT.map_all h (t:=t) a
 |.bad,_=>trivial
theorem DT.unexit_ok(i:Nat):∀ (t:DT),(t.unexit i).ok=t.ok
 | .leaf e st=>by
   cases e<;>first|rfl|skip
   simp only[DT.unexit];split<;>rfl
 |.node c a b=>by simp only[DT.unexit,DT.ok,DT.unexit_ok i a,DT.unexit_ok i b]
 |.chk _ t=>by simp only[DT.unexit,DT.ok,DT.unexit_ok i t]
 |.bad=>rfl
def AExit.un(i:Nat):AExit→AExit
 |.exit j=>if j=i then .normal else .exit j
 |e=>e
theorem DT.unexit_lf(i:Nat):∀ (t:DT),(t.unexit i).lf=t.lf.map fun x=>(x.1.un i,x.2)
 | .leaf e st=>by
   cases e<;>first|rfl|skip
   rename_i j
   simp only[DT.unexit,DT.lf,BM,AExit.un]
   by_cases h:j=i
   · rw[Ab (by simpa using h),Ab h];rfl
   · rw[Ad (by simpa using h),Ad h];rfl
 | .node c a b=>by
   cases c
   · exact DT.unexit_lf i b
   · exact DT.unexit_lf i a
 |.chk _ t=>DT.unexit_lf i t
 |.bad=>rfl
theorem DT.unexit_all{P:DS→Prop}(i:Nat):∀ {t:DT},t.All P→(t.unexit i).All P
 | .leaf e st,a=>by
   cases e<;>first|exact a|skip
   simp only[DT.unexit];split<;>exact a
 |.node _ _ _,a=>⟨DT.unexit_all i a.1,DT.unexit_all i a.2⟩
 |.chk _ t,a=>DT.unexit_all i (t:=t) a
 |.bad,_=>trivial
theorem DT.chk_ok(g:PX)(t:DT):(DT.chk' g t).ok.den↔g.den∧t.ok.den:=by
 cases g<;>simp only[DT.chk',DT.ok,PX.land_den,PX.den,HG]
theorem DT.chk_lf(g:PX)(t:DT):(DT.chk' g t).lf=t.lf:=by cases g<;>rfl
theorem DT.chk_all{P:DS→Prop}(g:PX){t:DT}(h:t.All P):(DT.chk' g t).All P:=by cases g<;>exact h
theorem DT.bind_s{f:DS→DT}{h:DS→DS}:∀ {t:DT} {e:AExit} {st:DS},(t.bind f h).ok.den→(t.bind f h).lf=some (e,st) →
 t.ok.den∧((∃ st0,t.lf=some (.normal,st0)∧(f st0).ok.den∧(f st0).lf=some (e,st))∨(e.isN=false∧∃ st0,t.lf=some (e,st0)∧st=h st0))
 | .leaf e0 st0,e,st,ho,hl=>by
   cases e0 with
   |normal=>exact⟨trivial,.inl ⟨st0,rfl,ho,hl⟩⟩
   | ret=>
     simp only[DT.bind,DT.lf,Ah,Ak] at hl
     obtain⟨rfl,rfl⟩:=hl
     exact⟨trivial,.inr ⟨rfl,st0,rfl,rfl⟩⟩
   | exit i=>
     simp only[DT.bind,DT.lf,Ah,Ak] at hl
     obtain⟨rfl,rfl⟩:=hl
     exact⟨trivial,.inr ⟨rfl,st0,rfl,rfl⟩⟩
 | .node c a b,e,st,ho,hl=>by
   have ho:=(PX.if_den c _ _).mp ho
   cases c with
   | true=>
     obtain⟨h1,h2⟩:=DT.bind_s (t:=a) (ho.1 rfl) hl
     exact⟨(PX.if_den _ _ _).mpr ⟨fun _=>h1,fun h=>by cases h⟩,h2⟩
   | false=>
     obtain⟨h1,h2⟩:=DT.bind_s (t:=b) (ho.2 rfl) hl
     exact⟨(PX.if_den _ _ _).mpr ⟨fun h=>(by cases h),fun _=>h1⟩,h2⟩
 | .chk g t,e,st,ho,hl=>by
   have ho:=(PX.land_den g _).mp ho
   obtain⟨h1,h2⟩:=DT.bind_s (t:=t) ho.2 hl
   exact⟨(PX.land_den _ _).mpr ⟨ho.1,h1⟩,h2⟩
 |.bad,e,st,ho,hl=>ho.elim
theorem DT.bind_all{P Q:DS→Prop}{f:DS→DT}{h:DS→DS}(hf:∀ st,P st→(f st).All Q)(hh:∀ st,P st→Q (h st)):∀ {t:DT},t.All P→(t.bind f h).All Q
 |.leaf e st,a=>by cases e<;>first|exact hf _ a|exact hh _ a
 |.node _ _ _,a=>⟨DT.bind_all hf hh a.1,DT.bind_all hf hh a.2⟩
 |.chk _ t,a=>DT.bind_all hf hh (t:=t) a
 |.bad,_=>trivial
theorem DT.then_s{b:DS}{f:DS→DT}{h:DS→DS}{t:DT}{e:AExit}{st:DS}(hb:t.All (ChgS b))(ho:(t.then f h).ok.den)(hl:(t.then f h).lf=some (e,st)) :
 t.ok.den∧((∃ st0 m,t.lf=some (.normal,st0)∧(∀ s,ES st0 s→ES m s)∧ChgS b m∧(f m).ok.den∧(f m).lf=some (e,st))∨(e.isN=false∧∃ st0,t.lf=some (e,st0)∧st=h st0)):=by
 have viaBind:(t.bind f h).ok.den→(t.bind f h).lf=some (e,st)→t.ok.den∧((∃ st0 m,t.lf=some (.normal,st0)∧(∀ s,ES st0 s→ES m s)∧ChgS b m∧(f m).ok.den∧(f m).lf=some (e,st))∨(e.isN=false∧∃ st0,t.lf=some (e,st0)∧st=h st0)):=fun ho hl=>by
  obtain⟨h1,h2⟩:=DT.bind_s ho hl;refine⟨h1,h2.imp ?_ id⟩;rintro⟨st0,h3,h4,h5⟩;exact⟨st0,st0,h3,fun _ h=>h,hb.lf h3,h4,h5⟩
 unfold DT.then at ho hl
 split at ho
 · rename_i hn
   rw[Ab hn] at hl;exact viaBind ho hl
 · rename_i hn
   rw[Ad hn] at hl
   cases hm:t.norm with
   |none=>rw[hm] at ho hl;exact viaBind ho hl
   |fail=>rw[hm] at ho hl;exact viaBind ho hl
   | some m=>
     rw[hm] at ho hl;simp only[DT.chk_ok,DT.chk_lf] at ho hl;obtain⟨ho1,ho2⟩:=ho;refine⟨ho1,?_⟩;obtain⟨e0,st0,h0⟩:=DT.ok_lf ho1
     have nrm:e0.isN=true→(f m).ok.den→(f m).lf=some (e,st)→((∃ st0 m,t.lf=some (.normal,st0)∧(∀ s,ES st0 s→ES m s)∧ChgS b m∧(f m).ok.den∧(f m).lf=some (e,st))∨(e.isN=false∧∃ st0,t.lf=some (e,st0)∧st=h st0)):=fun he h1 h2=>by
      have he:e0= .normal:=by cases e0<;>first|rfl|cases he
      subst he;exact .inl ⟨st0,m,h0,fun s hs=>DT.norm_s hb hm h0 hs,DT.norm_chg hb hm,h1,h2⟩
     cases hc:t.cont with
     |none=>rw[hc] at ho2;exact ho2.elim
     | some c=>
       have hcs:=DT.cont_s hc h0
       cases c with
       | lit c=>
         cases c with
         |false=>rw[hc] at ho2;exact ho2.elim
         | true=>
           rw[hc] at ho2 hl;exact nrm hcs.symm ho2 hl
       | dyn c=>
         rw[hc] at ho2 hl;simp only[BX.b] at hcs;subst hcs;have ho2:=(PX.if_den _ _ _).mp ho2
         cases he:e0.isN with
         | true=>
           rw[he] at hl;exact nrm he (ho2.1 he) hl
         | false=>
           rw[he] at hl;simp only[DT.lf,DT.map_lf,DT.drop_lf h0 he,BM,Ah,Ak] at hl;obtain⟨rfl,rfl⟩:=hl;exact .inr ⟨he,st0,h0,rfl⟩
theorem DT.then_all{b:DS}{Q:DS→Prop}{f:DS→DT}{h:DS→DS}{t:DT}(hb:t.All (ChgS b))(hf:∀ st,ChgS b st→(f st).All Q)(hh:∀ st,ChgS b st→Q (h st)):(t.then f h).All Q:=by
 unfold DT.then;split
 · exact DT.bind_all hf hh hb
 · cases hm:t.norm with
   |none=>exact DT.bind_all hf hh hb
   |fail=>exact DT.bind_all hf hh hb
   | some m=>
     have h1:=hf m (DT.norm_chg hb hm);refine DT.chk_all _ ?_
     cases hc:t.cont with
     |none=>trivial
     | some c=>
       cases c with
       |lit c=>cases c<;>first|trivial|exact h1
       |dyn c=>exact⟨h1,DT.map_all hh (DT.drop_all hb)⟩
theorem qD(v:DV):v.enc.isAgg=v.isAgg:=by cases v<;>rfl
theorem sk{v:DV}(h:v.flatc=true):v.enc.flatc=true∧∀ q es,v.enc≠.sl q es:=by cases v<;>first|(cases h;done)|exact⟨rfl,fun _ _ h=>(by cases h)⟩
theorem rz{s:PS}{hd:Hd}{c:Nat}{v:PV}{os as:List PV}(h:v.flatc=true)(hr:Hh s hd (c+1) os as):Hh s hd c (v::os) (v::as):=by
 cases v<;>first|exact⟨rfl,h,hr⟩|(cases h;done)
theorem Ld{d:DS}{s:PS}(hs:ES d s){hd:Hd}:∀ (vs:List DV) (c:Nat) {g:PX} {os:List DV},Es d hd c vs=some (g,os)→g.den→Hh s hd c (DV.encL os) (DV.encL vs)
 | [],c,g,os,h,_=>by
   simp only[Es,Ah,Ak] at h;rw[← h.2];trivial
 | v :: vs,c,g,os,h,hg=>by
   have flat:v.flatc=true→(match Es d hd (c+1) vs with|some (g,os)=>some (g,v::os)|none=>none)=some (g,os)→Hh s hd c (DV.encL os) (DV.encL (v::vs)):=by
    intro hf h
    cases h1:Es d hd (c+1) vs with
    |none=>rw[h1] at h;cases h
    | some r=>
      obtain⟨g1,os1⟩:=r;rw[h1] at h;simp only[Ah,Ak] at h;obtain⟨rfl,rfl⟩:=h;exact rz (sk hf).1 (Ld hs vs (c+1) h1 hg)
   have flat':(if v.flatc=true then (match Es d hd (c+1) vs with|some (g,os)=>some (g,v::os)|none=>none) else none)=some (g,os)→Hh s hd c (DV.encL os) (DV.encL (v::vs)):=by
    intro h;split at h
    · exact flat (by assumption) h
    · cases h
   cases v with
   | sl q r l=>
     simp only[Es] at h;split at h
     · rename_i hq
       have hq:q= .bor hd [c] true:=by simpa [D8] using hq
       subst hq
       cases h1:Es d hd (c+1) vs with
       |none=>rw[h1] at h;split at h<;>simp_all
       | some r=>
         obtain⟨g1,os1⟩:=r;rw[h1] at h
         have hk:BQ d hd [c]≠.any:=by intro e;rw[e] at h;cases h
         have ek:=GW hs hd [c] hk;split at h
         · rename_i r' l' g2 os2 e1 e2;simp only[Ah,Ak] at h e2;obtain⟨rfl,rfl⟩:=h;obtain⟨rfl,rfl⟩:=e2;have hg:=(PX.land_den _ _).mp hg;have hl:l.length=l'.length:=hg.1;refine⟨rfl,by rw[ek,e1];rfl,⟨_,rfl,?_⟩,Ld hs vs (c+1) h1 hg.2⟩;rw[A0,A0];exact hl
         · rename_i g2 os2 e1 e2;simp only[Ah,Ak] at h e2;obtain⟨rfl,rfl⟩:=h;obtain⟨rfl,rfl⟩:=e2;have hg:=(PX.land_den _ _).mp hg;have hl:l.length=0:=hg.1;refine⟨rfl,by rw[ek,e1];rfl,⟨_,rfl,?_⟩,Ld hs vs (c+1) h1 hg.2⟩;rw[A0];exact hl
         · cases h
     · cases h
   | nil q=>
     simp only[Es] at h;split at h
     · rename_i hq
       have hq:q= .bor hd [c] true:=by simpa [D8] using hq
       subst hq
       cases h1:Es d hd (c+1) vs with
       |none=>rw[h1] at h;split at h<;>simp_all
       | some r=>
         obtain⟨g1,os1⟩:=r;rw[h1] at h
         have hk:BQ d hd [c]≠.any:=by intro e;rw[e] at h;cases h
         have ek:=GW hs hd [c] hk;split at h
         · rename_i r' l' g2 os2 e1 e2;simp only[Ah,Ak] at h e2;obtain⟨rfl,rfl⟩:=h;obtain⟨rfl,rfl⟩:=e2;have hg:=(PX.land_den _ _).mp hg;have hl:l'.length=0:=hg.1;refine⟨rfl,by rw[ek,e1];rfl,⟨_,rfl,?_⟩,Ld hs vs (c+1) h1 hg.2⟩;rw[A0];exact hl.symm
         · rename_i g2 os2 e1 e2;simp only[Ah,Ak] at h e2;obtain⟨rfl,rfl⟩:=h;obtain⟨rfl,rfl⟩:=e2;exact⟨rfl,by rw[ek,e1];rfl,⟨_,rfl,rfl⟩,Ld hs vs (c+1) h1 hg⟩
         · cases h
     · cases h
   |_=>exact flat' h
def DV.flag:List DV→Prop
 |[]=>True
 |.sl q _ _::r=>q= .own∧DV.flag r
 |_::r=>DV.flag r
theorem Wf:∀ (r:RT) (x:r.D),r.pl=true→DV.flag (r.dv .own x)
 |.one t,x,h=>by cases t<;>first|trivial|(cases h;done)|exact⟨rfl,trivial⟩
 | .cons t r,x,h=>by
   rw[RT.pl,Ai] at h
   obtain⟨h,h2⟩:=h
   cases t<;>first|(cases h;done)|exact⟨rfl,Wf r x.2 h2⟩|exact Wf r x.2 h2
theorem Xm{hd:Hd}{D':DS}{K:PS→Prop}(hK:∀ s',ES D' s'→K s'):∀ (vs:List DV) (c:Nat) {d:DS} {s:PS},ES d s→Hg hd c vs d=some D'→DV.flag vs→Ly hd c (DV.encL vs) K s
 | [],c,d,s,hs,h,_=>by
   simp only[Hg,Ah] at h;subst h;exact hK _ hs
 | v :: vs,c,d,s,hs,h,hf=>by
   cases v with
   | sl q r l=>
     simp only[Hg] at h
     have hk:BQ d hd [c]≠.any:=by intro e;rw[e] at h;cases h
     have ek:=GW hs hd [c] hk
     have hn:Hg hd (c+1) vs (FN d (.sl q r l) hd [c])=some D'∧∃ es0,Ct s hd [c]= .sl .own es0:=by
      split at h
      · rename_i e1;exact⟨h,_,by rw[ek,e1];rfl⟩
      · rename_i e1;exact⟨h,_,by rw[ek,e1];rfl⟩
      · cases h
     obtain⟨rfl,hf⟩:=hf;exact⟨hn.2,Xm hK vs (c+1) (KM hs hd [c] (.sl .own r l) hk) hn.1 hf⟩
   |nil q=>cases h
   |_=>exact Xm hK vs (c+1) hs h hf
theorem Wx:∀ (r:RT) (x y:r.D),r.pl=true→Kf (RT.enc r x) (RT.enc r y)
 |.one t,x,y,h=>by cases t<;>first|(cases h;done)|exact⟨⟨_,rfl⟩,trivial⟩|exact⟨fun _ _ h=>(by cases h),trivial⟩
 | .cons t r,x,y,h=>by
   rw[RT.pl,Ai] at h
   obtain⟨h,h2⟩:=h
   cases t<;>first|(cases h;done)|exact⟨⟨_,rfl⟩,Wx r x.2 y.2 h2⟩|exact⟨fun _ _ h=>(by cases h),Wx r x.2 y.2 h2⟩
theorem cT:∀ {vs:List DV} {c:Nat} {hd:Hd} {b:Nat},TA c vs=some (hd,b)→hd.sb=true
 |[],_,_,_,h=>by cases h
 | v :: vs,c,hd,b,h=>by
   unfold TA at h
   split at h
   · cases h
   · split at h
     · rename_i hc
       simp only[Ai] at hc
       simp only[Ah,Ak] at h
       rw[← h.1];exact hc.2
     · cases h
   · split at h
     · rename_i hc
       simp only[Ai] at hc
       simp only[Ah,Ak] at h
       rw[← h.1];exact hc.2
     · cases h
   · rename_i h1;cases h1;exact cT h
theorem vx {d d1:DS}{s:PS}(hs:ES d s){M:DMk}{x y:Opnd}{g:PX}{v:DV}(h:Lq M x y d=some (g,v,d1))(hg:g.den){dst:Option Nat}{k:PS→Prop}(hk:∀ s',ES d1 s'→k (s'.put dst v.enc)):XH M.P x y dst k s:=by
 unfold Lq at h;split at h
 · rename_i m hm;split at h
   · rename_i hc;simp only[Ai] at hc;obtain⟨hc,hpl⟩:=hc;split at h
     · rename_i hd b hh;split at h
       · rename_i g1 os ho;split at h
         · rename_i z hz;split at h
           · rename_i st' hS;simp only[Ah,Ak] at h;obtain⟨rfl,rfl,rfl⟩:=h;have hg:=(PX.land_den _ _).mp hg
             have hy:y.pev s.sl= .fl (.int .i64 m):=by
              have:=y.dev_ev hs;rw[hm] at this;exact this.of (by simp)
             have hx:x.pev s.sl=(x.dev d.sl).enc:=(x.dev_ev hs).of (by intro e;rw[e] at hc;cases hc.2);refine⟨m,hd,b,M.r.enc z,hy,?_,cT hh,?_,?_,⟨z,rfl,hg.2,Wx _ _ _ hpl,?_⟩⟩
             · rw[hx,qD];exact eq_of_beq hc.1
             · rw[hx];exact bS _ hc.2
             · rw[hx,IM,← Nb hz];exact Ld hs _ b ho hg.1
             · rw[← S9];have hP:M.P.vd=M.vd:=rfl;refine Xm (fun s' hs'=>?_) _ b hs hS (Wf _ _ hpl);have h:=hk s' hs';rw[hP]
               cases hvd:M.vd with
               |true=>rw[hvd] at h;exact h
               |false=>rw[hvd] at h;exact h
           · cases h
         · cases h
       · cases h
     · cases h
   · cases h
 · cases h
theorem Sc{hd:Hd}{D':DS}:∀ (vs:List DV) (c:Nat) {d:DS},Hg hd c vs d=some D'→ChgS d D'
 | [],c,d,h=>by
   simp only[Hg,Ah] at h
   subst h;exact ChgS.refl _
 | v :: vs,c,d,h=>by
   cases v with
   | sl q r l=>
     simp only[Hg] at h
     split at h
     · exact(ChgS.setK _ _ _ _).trans (Sc vs _ h)
     · exact(ChgS.setK _ _ _ _).trans (Sc vs _ h)
     · cases h
   |nil q=>cases h
   |_=>exact Sc vs _ h
theorem qB{d d1:DS}{M:DMk}{x y:Opnd}{g:PX}{v:DV}(h:Lq M x y d=some (g,v,d1)):ChgS d d1:=by
 unfold Lq at h
 repeat' split at h
 all_goals first|(cases h;done)|skip
 all_goals
  simp only[Ah,Ak] at h
  obtain⟨_,_,rfl⟩:=h
  exact Sc _ _ (by assumption)
theorem uo{v:DV}{r:Hd×Nat}(h:v.hld=some r):v≠.any∧v.enc.hld=some r:=by
 cases v<;>first|(cases h;done)|exact⟨by simp,h⟩
theorem sQ{a:DV}{n:Nat}{d d1:DS}{s:PS}{g:PX}{v:DV}(hs:ES d s)(h:K7 a n d=some (g,v,d1))(hg:g.den):∃ s1,Tm a.enc n s=some s1∧ES d1 s1:=by
 unfold K7 at h;split at h
 · rename_i i o;obtain⟨s1,e1,e2⟩:=UH (p:=.box i o) hs (.inr rfl) h;refine⟨s1,?_,e2⟩;show (HF true i (some n) (.box i o) s).map (·.2)=some s1;rw[e1];rfl
 · rename_i i o;obtain⟨s1,e1,e2⟩:=UF (p:=.ptr i o) hs (.inr rfl) h hg;refine⟨s1,?_,e2⟩;show (G0 true (some n) (.ptr i o) s).map (·.2)=some s1;rw[e1];rfl
 · cases h
theorem pK{a:DV}{n:Nat}{d d1:DS}{g:PX}{v:DV}(h:K7 a n d=some (g,v,d1)):ChgS d d1:=by
 unfold K7 at h;split at h
 · exact aA h
 · exact az h
 · cases h
theorem vV{a:Opnd}{t:Nat}{d d1:DS}{s:PS}{g:PX}(hs:ES d s)(h:Lw a t d=some (g,d1))(hg:g.den){K:PS→Prop}(hk:∀ s',ES d1 s'→K s'):XR a t K s:=by
 unfold Lw at h;split at h
 · rename_i hd b cs e1 e2;have ht:=hs.sl.get t;rw[e2] at ht;have ht:=ht.of (by simp);have ha:=a.dev_ev hs;obtain⟨hk1,hk2⟩:=uo e1;have ha:=ha.of hk1
   cases e3:Es d hd b cs with
   |none=>rw[e3] at h;cases h
   | some r=>
     obtain⟨g1,os⟩:=r;rw[e3] at h;simp only at h
     cases e4:K7 (a.dev d.sl) os.length d with
     |none=>rw[e4] at h;cases h
     | some r=>
       obtain⟨g2,w,d2⟩:=r;rw[e4] at h;simp only[Ah,Ak] at h;obtain⟨rfl,rfl⟩:=h;have hg:=(PX.land_den _ _).mp hg;obtain⟨s1,k1,k2⟩:=sQ hs e4 hg.2;refine⟨hd,b,DV.encL os,s1,by rw[ha];exact hk2,by rw[ht];rfl,?_,?_,hk _ (k2.put (some t) (.agg os))⟩
       · rw[ht];exact Ld hs cs b e3 hg.1
       · rw[ha,EN];exact k1
 · cases h
theorem tG{a:Opnd}{t:Nat}{d d1:DS}{g:PX}(h:Lw a t d=some (g,d1)):ChgS d d1:=by
 unfold Lw at h;split at h
 · rename_i hd b cs e1 e2
   cases e3:Es d hd b cs with
   |none=>rw[e3] at h;cases h
   | some r=>
     obtain⟨g1,os⟩:=r;rw[e3] at h;simp only at h
     cases e4:K7 (a.dev d.sl) os.length d with
     |none=>rw[e4] at h;cases h
     | some r=>
       obtain⟨g2,w,d2⟩:=r;rw[e4] at h;simp only[Ah,Ak] at h;obtain⟨_,rfl⟩:=h;exact(pK e4).trans (ChgS.put _ _ _)
 · cases h
theorem vT{c:DC}{p:PV}(h:EV c.v p):EV (ir c).v p.fz:=by
 obtain⟨d,v⟩:=c;rcases h with h|h
 · simp only at h;subst h;exact .inl rfl
 · simp only at h;subst h;have gen:(⟨true,v.fz⟩:DC).v.enc=v.enc.fz:=SM v;right
   cases v with
   |sl q r l=>cases q<;>rfl
   |nil q=>cases q<;>rfl
   |any=>rfl
   |undef=>rfl
   |int _ _=>rfl
   |bool _=>rfl
   |str _=>rfl
   |ifc _=>rfl
   |_=>exact gen.symm
theorem gD:∀ {a:List DC} {b:List PV},EL a b→EL (Nt a) (PV.fzL b)
 |[],[],_=>trivial
 |_::_,_::_,h=>⟨vT h.1,gD h.2⟩
 |[],_::_,h=>h.elim
 |_::_,[],h=>h.elim
theorem fZ{a:List DC}{b:List PV}(h:EBx a b):EBx (Nt a) (PV.fzL b):=by
 rcases h with h|h
 · left;rw[h];rfl
 · exact .inr (gD h)
theorem VF:∀ (x:List DC),Chg x (Nt x)
 |[]=>trivial
 | c::r=>by
   refine⟨?_,VF r⟩
   obtain⟨d,v⟩:=c
   cases v with
   |sl q r l=>cases q<;>first|exact .inr rfl|exact .inl rfl
   |nil q=>cases q<;>first|exact .inr rfl|exact .inl rfl
   |_=>first|exact .inr rfl|exact .inl rfl
theorem wE{a:DV}{p:PV}{d d1:DS}{s:PS}(hs:ES d s)(ha:EV a p)(h:LA a d=some d1):∃ s1,Qh p s=some s1∧ES d1 s1:=by
 unfold LA at h;split at h
 · rename_i i o;rw[ha.of (by simp)];simp only[Ah] at h;subst h;exact⟨_,rfl,hs.sl.clr _,hs.bx.put i (fZ (hs.bx.get i)),hs.hp⟩
 · rename_i i o;rw[ha.of (by simp)];simp only[Ah] at h;subst h;exact⟨_,rfl,hs.sl.clr _,hs.bx,hs.hp.put i (fZ (hs.hp.get i))⟩
 · cases h
theorem s8{a:DV}{d d1:DS}(h:LA a d=some d1):ChgS d d1:=by
 unfold LA at h;split at h
 · simp only[Ah] at h;subst h;exact⟨Chg.clr _ _,ChgB.put _ _ (VF _),ChgB.refl _⟩
 · simp only[Ah] at h;subst h;exact⟨Chg.clr _ _,ChgB.refl _,ChgB.put _ _ (VF _)⟩
 · cases h
end
end Go.Ag
