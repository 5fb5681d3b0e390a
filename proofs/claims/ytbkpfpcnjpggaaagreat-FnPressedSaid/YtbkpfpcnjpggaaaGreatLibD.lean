/- Part 4 of what FnPressed needs. No conditions. -/
import Derived.Test.YtbkpfpcnjpggaaaGreatLibC
namespace Go.Ag
set_option linter.unusedSimpArgs false
set_option linter.unusedVariables false
noncomputable section
theorem Ph{v:PV}(h:v.retc=true):v.argc=true:=by
 cases v with
 |sl q es=>rfl
 |ep=>cases h
 |fl x=>exact h
 |ptr=>rfl
 |_=>cases h
theorem zn{cs:List PV}(h:FM cs=true):JR cs=true:=by
 induction cs with
 |nil=>rfl
 |cons x r ih=>simp only[FM,JR,Ah] at h ⊢;exact⟨Ph h.1,ih h.2⟩
theorem yc{v:PV}(h:v.retok=true):v.argok=true:=by
 cases v with
 |agg cs=>exact zn (cs:=cs) h
 |tup vs=>cases h
 |fl x=>exact Ph (v:=.fl x) h
 |sl q es=>exact Ph (v:=.sl q es) h
 |ep q es j o=>exact Ph (v:=.ep q es j o) h
 |box i o=>exact Ph (v:=.box i o) h
 |ptr i o=>exact Ph (v:=.ptr i o) h
theorem Pz{v:PV}(h:v.retc=true)(hd:Hd):v.bor hd=false:=by
 cases v with
 |sl q es=>cases q<;>first|rfl|(simp[PV.retc,PV.cell] at h)
 |fl=>rfl
 |ptr=>rfl
 |ep=>cases h
 |box=>cases h
 |agg=>cases h
 |tup=>cases h
theorem Zbb{cs:List PV}(h:FM cs=true)(hd:Hd):PV.borL hd cs=false:=by
 induction cs with
 |nil=>rfl
 |cons x r ih=>simp only[FM,PV.borL,Ah,Ca] at h ⊢;exact⟨Pz h.1 hd,ih h.2⟩
theorem j5{v:PV}(h:v.retok=true)(hd:Hd):v.bor hd=false:=by
 cases v with
 |agg cs=>exact Zbb (cs:=cs) h hd
 |tup vs=>cases h
 |fl x=>exact Pz (v:=.fl x) h hd
 |sl q es=>exact Pz (v:=.sl q es) h hd
 |ep q es j o=>exact Pz (v:=.ep q es j o) h hd
 |box i o=>exact Pz (v:=.box i o) h hd
 |ptr i o=>exact Pz (v:=.ptr i o) h hd
theorem jb{n:Option Nat}{cs:List PV}{v:PV}(e:D5 n cs=some v)(h:FM cs=true):v.retok=true:=by
 cases n with
 |some n=>simp[D5] at e;subst e;exact h
 | none=>
   match cs with
   | [x]=>
     simp[D5] at e;subst e;simp only[FM,Mh] at h
     cases x with
     |agg=>cases h
     |tup=>cases h
     |_=>exact h
   |[]=>simp[D5] at e
   |_::_::_=>simp[D5] at e
section
variable {h0:Ad} {ω0 ω:Nat->W} {ρ ρ':Nat->Nat} {st st' st1:PS} {us us':St} {X X':CK}
theorem ko (R : RS h0 ω0 ω ρ st us X) (hX0:∀ p,(X 0).1.fcell p= .fl .undef) (hXb:∀ j hd,(X j).1.bor hd=false) {r:ARes} {v:PV} (e:JF st r=some (v,st1)) :
 ∃ u ω',HP us r=some u/\RS h0 ω0 ω' ρ st1 us (Xs X 0 v u)/\v.retok=true:=by
 cases r with
 | tmp t=>
   simp only[JF] at e;split at e
   . rename_i hr;simp only[Ak] at e;obtain⟨ω',R1⟩:=R.take t 0 hX0 (λ j=>hXb j _)
     have hv:(Ge (Aa st.sl t) t st).1=Aa st.sl t:=by
      simp only[Ge];split
      . rw[Ae (by rw[j5 hr];simp)]
      . rfl
     rw[hv,e] at R1
     have h1:Aa st.sl t=v:=by rw[<- hv,e]
     rw[h1] at R1 hr;refine⟨get us.sl t,ω',?_,R1,hr⟩;have:=n6 (yc hr) (by rw[<- h1];exact R.sh t) (hd:=.s t) (λ p=>by rw[<- h1];exact R.core.rc (.s t) p);simp only[HP,this,AN]
   . cases e
 | cell t n=>
   simp only[JF] at e;split at e
   . rename_i i o hx;have hev:get us.sl t= .box i o:=R.ev_box (x:=.t t) hx;split at e
     . rename_i hc;obtain⟨hle,hret⟩:=hc;simp only[Jx,HA,Ac hle,AN,B8] at e;obtain⟨v',e,he⟩:=e;cases he
       have hB:∀ k,Aj (B0 st.bx i (AM (Aj st.bx i) o (Dg (segm (Aj st.bx i) o (n.getD 1))))) k=if k=i then AM (Aj st.bx i) o (Dg (segm (Aj st.bx i) o (n.getD 1))) else Aj st.bx k:=by
        intro k;rw[Js];by_cases hk:k=i
        . subst hk;rcases BN k st.bx.length with h|h
          . simp[h]
          . rw[Ae (by omega),Ac rfl]
            have:Aj st.bx k=[]:=by rw[Dx,BV h];rfl
            rw[this];generalize Dg (segm [] o (n.getD 1))=q;cases q<;>rfl
        . simp[hk]
       obtain⟨u,ω',h1,h2⟩:=R.loadmv hX0 hXb (st':={ st with sl:=clr (.b i) st.sl,bx:=B0 st.bx i (AM (Aj st.bx i) o (Dg (segm (Aj st.bx i) o (n.getD 1)))) }) (hd:=.b i) (cs:=Aj st.bx i) (ws:=AW us.bx i) (by simp) (by simp)
        (λ p => rfl) (λ p=>by simp only[Ai,hB,Ac]) (λ hd' p h h'=>by
         cases hd' with
         |b k=>simp only[Ai,hB];rw[Ae (λ h2=>h (by rw[h2]))]
         |s t=>exact absurd rfl (h' t)
         | _ => rfl) rfl (R.lb i).symm hle (R.cb i) (by rw[Hr];exact R.lbx) (λ k=>by
           simp only[hB];split
           . rename_i hk;rw[hk,Hq];exact R.lb i
           . exact R.lb k) (λ k c=>by
           simp only[hB];split
           . rw[Iv _ _ _ _ (by rw[LS,F1 hle];exact hle)];split
             . rw[Pt];split
               . rfl
               . rw[DM];split
                 . exact R.cb i _
                 . rfl
             . exact R.cb i c
           . exact R.cb k c) R.ch rfl (λ _=>rfl) e
       exact⟨u,ω',by simp only[HP,hev];rw[Ac (by rw[<- R.lb i];exact hle)];exact h1,h2,jb e hret⟩
     . cases e
   . rename_i i o hx;obtain⟨hev,_⟩:=R.ev_ptr (x:=.t t) hx;simp only[Opnd.ev] at hev;split at e
     . rename_i hc;obtain⟨hi,hle,hret⟩:=hc;have hc':i<st.hp.length/\o+n.getD 1<=(Aj st.hp i).length:=⟨hi,hle⟩;simp only[IE,Ac hc',AN,B8] at e;obtain⟨v',e,he⟩:=e;cases he;obtain⟨b,hb1,hb2,hb3⟩:=R.blk hi;have hlen:(A5 us.hp (ρ i)).length=(Aj st.hp i).length:=(R.hp i hi).2
       have hrd:rd us.hp (ρ i) o (n.getD 1)=some (((A5 us.hp (ρ i)).drop o).take (n.getD 1)):=by
        simp[rd,hb1,hb2,hb3];rw[<- hb3,hlen];exact hle
       have hB:∀ k,Aj (B0 st.hp i (AM (Aj st.hp i) o (Dg (segm (Aj st.hp i) o (n.getD 1))))) k=if k=i then AM (Aj st.hp i) o (Dg (segm (Aj st.hp i) o (n.getD 1))) else Aj st.hp k:=by
        intro k;rw[Js];simp[hi]
       obtain⟨u,ω',h1,h2⟩:=R.loadmv hX0 hXb (st':={ st with sl:=clr (.h i) st.sl,hp:=B0 st.hp i (AM (Aj st.hp i) o (Dg (segm (Aj st.hp i) o (n.getD 1)))) }) (hd:=.h i) (cs:=Aj st.hp i) (ws:=A5 us.hp (ρ i)) (by simp) (by simp)
        (λ p => rfl) (λ p=>by simp only[Ai,hB,Ac]) (λ hd' p h h'=>by
         cases hd' with
         |h k=>simp only[Ai,hB];rw[Ae (λ h2=>h (by rw[h2]))]
         |s t=>exact absurd rfl (h' t)
         | _ => rfl) rfl hlen hle (R.ch i) R.lbx R.lb R.cb (λ k c=>by
           simp only[hB];split
           . rw[Iv _ _ _ _ (by rw[LS,F1 hle];exact hle)];split
             . rw[Pt];split
               . rfl
               . rw[DM];split
                 . exact R.ch i _
                 . rfl
             . exact R.ch i c
           . exact R.ch k c) (by simp[Hr]) (λ k=>by
           simp only[hB];split
           . rename_i hk;rw[hk,Hq]
           . rfl) e
       exact⟨u,ω',by simp only[HP,hev,hrd,JA,h1],h2,jb e hret⟩
     . cases e
   . cases e
def HX(l:List (PV×V)):CK:=λ i=>match i with
 |0=>(.fl .undef,.undef)
 |i+1=>l[i]?.getD (.fl .undef,.undef)
theorem nM(l:List (PV×V))(x:PV×V)(i:Nat):HX (l++[x]) i=if i=l.length+1 then x else HX l i:=by
 cases i with
 |zero=>rfl
 | succ i=>
   simp only[HX,Nat.add_right_cancel_iff];by_cases h:i=l.length
   . subst h;simp
   . rw[Ae h];rcases BN i l.length with h1|h1
     . rw[Bx h1]
     . rw[BV (by simp;omega),BV h1]
theorem nD{l:List (PV×V)}(h:∀ x∈l,x.1.retok=true)(j:Nat)(hd:Hd):(HX l j).1.bor hd=false:=by
 cases j with
 |zero=>rfl
 | succ i=>
   simp only[HX]
   cases e:l[i]? with
   |none=>rfl
   |some x=>exact j5 (h x (HG e)) hd
theorem RS.stash{l:List (PV×V)}{v:PV}{u:V}(hl:∀ x∈l,x.1.retok=true)(R:RS h0 ω0 ω ρ st us (Xs (HX l) 0 v u))(hv:v.retok=true):∃ ω',RS h0 ω0 ω' ρ st us (HX (l++[(v,u)])):=by
 refine⟨_,RS.ren (st':=st) (us':=us) (X':=HX (l++[(v,u)])) R (Ren.mv_ok (.x 0) (.x (l.length+1))) (XP (by simp)) (λ hd' p=>?_) rfl R.sh (λ i=>?_) R.lsl R.lbx R.lb R.cb R.ch rfl (λ _=>rfl)⟩
 . cases hd' with
   | x i =>
     simp only[Ai,nM];by_cases hi:i=l.length+1
     . subst hi;simp only[Ac];exact .inl ⟨.x 0,p,rfl,λ _ r=>by simp[Ren.mv],λ hb pb tp e=>absurd e ((Rv hv p).1 hb pb tp)⟩
     . simp only[Ae hi]
       cases i with
       |zero=>exact .inr (DI (A4 p))
       | succ i=>
         refine .inl ⟨.x (i+1),p,rfl,λ _ r=>Ren.mv_still (by simp) (by simpa using hi) _,λ hb pb tp e=>?_⟩;exfalso;have:=Ef (nD hl (i+1) hb) e;exact this rfl
   |s t=>exact .inl (Bl rfl (λ _=>Ren.mv_still (by simp) (by simp)) λ hb pb tp _ h=>Ren.mv_still (h 0) (h _))
   |b t=>exact .inl (Bl rfl (λ _=>Ren.mv_still (by simp) (by simp)) λ hb pb tp _ h=>Ren.mv_still (h 0) (h _))
   |h t=>exact .inl (Bl rfl (λ _=>Ren.mv_still (by simp) (by simp)) λ hb pb tp _ h=>Ren.mv_still (h 0) (h _))
 . rw[nM];split
   . exact R.shx 0
   . cases i with
     |zero=>exact Bd _
     |succ i=>exact R.shx (i+1)
theorem gP:∀ (rs:List ARes) {ω:Nat->W} {st st1:PS} {l:List (PV×V)} {vs:List PV},(∀ x∈l,x.1.retok=true)->RS h0 ω0 ω ρ st us (HX l)->IA st rs=some (vs,st1) ->
 ∃ ws ω',FB us rs=some ws/\ws.length=vs.length/\RS h0 ω0 ω' ρ st1 us (HX (l++vs.zip ws))/\∀ v∈vs,v.retok=true
 | [],ω,st,st1,l,vs,hl,R,e=>by
   simp only[IA,Ak,Al] at e
   obtain⟨rfl,rfl⟩:=e
   exact⟨[],ω,rfl,rfl,by simpa using R,by simp⟩
 | r :: rs,ω,st,st1,l,vs,hl,R,e=>by
   simp only[IA] at e
   cases e1:JF st r with
   |none=>rw[e1] at e;cases e
   | some x=>
     obtain⟨v,s1⟩:=x
     rw[e1] at e
     simp only at e
     cases e2:IA s1 rs with
     |none=>rw[e2] at e;cases e
     | some y=>
       obtain⟨vs',s2⟩:=y
       rw[e2] at e
       cases e
       obtain⟨u,ω1,h1,R1,hv⟩:=ko R (λ p=>A4 p) (nD hl) e1
       obtain⟨ω2,R2⟩:=RS.stash hl R1 hv
       obtain⟨ws,ω3,h2,h3,R3,h4⟩:=gP rs (l:=l++[(v,u)]) (λ x hx=>by
        rcases CF.1 hx with hx|hx
        . exact hl x hx
        . simp at hx;rw[hx];exact hv) R2 e2
       refine⟨u::ws,ω3,by simp only[FB,h1,h2],by simp[h3],by simpa using R3,?_⟩
       simp only[Cz]
       rintro x (rfl|hx)
       . exact hv
       . exact h4 x hx
def Ren.tupl:Ren:=λ hd p=>match hd with
 |.x 0=>.frz
 |.x (j+1)=>.own (.x 0) (j::p)
 |hd=>.own hd p
theorem Ren.tupl_ok:Ren.tupl.Ok:=by
 refine⟨λ hd p hd' p' x c e e'=>?_,λ hd p=>?_⟩
 . cases hd with
   | x j => cases j with
     |zero=>cases e
     | succ j=>
       cases e
       cases hd' with
       | x k=>cases k with
         |zero=>cases e'
         |succ k=>simp[Ren.tupl] at e';exact⟨by rw[e'.1],e'.2.symm⟩
       |_=>simp[Ren.tupl] at e'
   | _=>
     cases e
     cases hd' with
     |x k=>cases k<;>simp[Ren.tupl] at e'
     |_=>simp[Ren.tupl] at e';first|exact⟨by rw[e'.1],e'.2.symm⟩|skip
 . cases hd with
   | x j=>cases j with
     |zero=>exact .inl rfl
     |succ j=>exact .inr ⟨_,_,rfl⟩
   |_=>exact .inr ⟨_,_,rfl⟩
theorem Ren.tupl_still{hd:Hd}(h:∀ i,hd≠.x i):Ren.tupl.still hd:=λ p=>by
 cases hd with
 |x i=>exact absurd rfl (h i)
 |_=>rfl
theorem ZbW(hd:Hd)(p:List Nat)(i:Nat)(q:List Nat)(e:Ren.tupl hd p= .own (.h i) q):hd= .h i:=by
 cases hd with
 |x j=>cases j<;>cases e
 |_=>first|(cases e;done)|(cases e;rfl)
theorem lZ{vs:List PV}{ws:List V}(hl:ws.length=vs.length)(i:Nat):HX (vs.zip ws) (i+1)=(Aa vs i,get ws i):=by
 simp only[HX,E6,Dl];rcases BN i vs.length with h|h
 . have h2:i<ws.length:=by omega
   rw[Bf (by simp;omega),Bf h,Bf h2];simp
 . rw[BV (by simp;omega),BV h,BV (by omega)];rfl
theorem ZD{v:PV}(h:v.retok=true\/v= .fl .undef):∀ vs,v≠.tup vs:=by
 rintro vs rfl;rcases h with h|h<;>cases h
theorem bu{vs:List PV}(h:∀ v∈vs,v.retok=true)(i:Nat):(Aa vs i).retok=true\/Aa vs i= .fl .undef:=by
 rw[E6]
 cases e:vs[i]? with
 |none=>exact .inr rfl
 |some v=>exact .inl (h v (HG e))
theorem RS.tupl{vs:List PV}{ws:List V}(R:RS h0 ω0 ω ρ st us (HX (vs.zip ws)))(hl:ws.length=vs.length)(hv:∀ v∈vs,v.retok=true):∃ ω',RS h0 ω0 ω' ρ st us (X1 (.tup vs) (.tup ws)):=by
 have hshx:∀ i,AZ (Aa vs i) (get ws i):=λ i=>by have:=R.shx (i+1);rw[lZ hl] at this;exact this
 refine⟨_,RS.ren (st':=st) (us':=us) (X':=X1 (.tup vs) (.tup ws)) R Ren.tupl_ok ZbW (λ hd' p=>?_) rfl R.sh (λ i=>?_) R.lsl R.lbx R.lb R.cb R.ch rfl (λ _=>rfl)⟩
 . cases hd' with
   | x i =>
     by_cases hi:i=0
     . subst hi
       match p with
       |[]=>exact .inr (AS rfl)
       |[_]=>exact .inr (AS rfl)
       |_::_::_::_=>exact .inr (AS rfl)
       | [k, c]=>
         have hfx:Ai ρ st us (X1 (.tup vs) (.tup ws)) (.x 0) [k,c]=(Aa (Aa vs k).cells c,get (get ws k).cells c):=rfl;rw[hfx];rcases bu hv k with hr|hr
         . have hnt:=ZD (.inl hr)
           have hs:Shp1 (Aa vs k) (get ws k):=by
            have:=hshx k;generalize Aa vs k=w at this hnt
            cases w with
            |tup vs=>exact absurd rfl (hnt _)
            |_=>exact this
           have hne:Aa vs k≠.fl .undef:=by intro h;rw[h] at hr;cases hr
           have e1:=MW hnt c;have e2:=Rn (hs.notup hne) c;refine .inl ⟨.x (k+1),[c],?_,λ _ r=>rfl,λ hb pb tp e=>?_⟩
           . simp only[Ai,lZ hl];rw[e1,e2]
           . rw[<- e1] at e;exact absurd e ((Rv hr [c]).1 hb pb tp)
         . refine .inr (DI ?_);rw[hr];cases c<;>rfl
     . exact .inr (AS (GA i hi p))
   |s t=>exact .inl (Bl rfl (λ _=>Ren.tupl_still (by simp)) λ hb pb tp _ h=>Ren.tupl_still h)
   |b t=>exact .inl (Bl rfl (λ _=>Ren.tupl_still (by simp)) λ hb pb tp _ h=>Ren.tupl_still h)
   |h t=>exact .inl (Bl rfl (λ _=>Ren.tupl_still (by simp)) λ hb pb tp _ h=>Ren.tupl_still h)
 . by_cases hi:i=0
   . subst hi;refine⟨ws,rfl,hl,λ i=>?_⟩;have hnt:=ZD (bu hv i);have:=hshx i;generalize Aa vs i=w at this hnt
     cases w with
     |tup vs=>exact absurd rfl (hnt _)
     |_=>exact this
   . rw[D8 _ _ i hi];exact Bd _
theorem xC(R:RS h0 ω0 ω ρ st us X0){rs:List ARes}{v:PV}(e:IU st rs=some (v,st1)):∃ u ω',GJ us rs=some u/\RS h0 ω0 ω' ρ st1 us (X1 v u)/\v.nob:=by
 have many:(IA st rs).map (fun(vs,st)=>(PV.tup vs,st))=some (v,st1)->(∀ r,rs≠[r])->∃ u ω',GJ us rs=some u/\RS h0 ω0 ω' ρ st1 us (X1 v u)/\v.nob:=by
  intro e hr;simp only[B8] at e;obtain⟨⟨vs,s⟩,e1,e2⟩:=e;cases e2
  have hX:(HX []:CK)=X0:=by funext i;cases i<;>rfl
  obtain⟨ws,ω1,h1,h2,R1,h3⟩:=gP rs (l:=[]) (by simp) (by rw[hX];exact R) e1;rw[CW] at R1;obtain⟨ω2,R2⟩:=R1.tupl h2 h3;refine⟨.tup ws,ω2,?_,R2,λ p hb pb tp e=>?_⟩
  . match rs,hr with
    |[],_=>simp only[GJ,h1];rfl
    |[r],hr=>exact absurd rfl (hr r)
    |_::_::_,_=>simp only[GJ,h1];rfl
  . match p with
    |[]=>cases e
    |[_]=>cases e
    |_::_::_::_=>cases e
    | [k,c]=>
      have e':(Aa (Aa vs k).cells c).q=some (.bor hb pb tp):=e;rcases bu h3 k with hr|hr
      . rw[<- MW (ZD (.inl hr)) c] at e';exact(Rv hr [c]).1 hb pb tp e'
      . rw[hr] at e';cases c<;>cases e'
 match rs,e,many with
 | [r],e,_=>
   obtain⟨u,ω',h1,h2,h3⟩:=ko R (λ p=>A4 p) (λ _ _=>rfl) e;exact⟨u,ω',h1,h2,λ p=>(Rv h3 p).1⟩
 |[],e,many=>exact many e (by simp)
 |_::_::_,e,many=>exact many e (by simp)
theorem RS.forget(R:RS h0 ω0 ω ρ st us X):RS h0 ω0 ω ρ ⟨[],[],st.hp⟩ ⟨[],[],us.hp⟩ X:=by
 have:=RS.ren (st':=⟨[],[],st.hp⟩) (us':=⟨[],[],us.hp⟩) (X':=X) R Ren.id_ok (λ hd p i q e=>by simp[Ren.id] at e;exact e.1) (λ hd' p=>?_) rfl (λ t=>Bd _) R.shx rfl rfl (λ _=>rfl) (λ _ _=>rfl) R.ch rfl (λ _=>rfl)
 . rwa [DQ] at this
 . cases hd' with
   |x i=>exact .inl (Bm rfl)
   |h i=>exact .inl (Bm rfl)
   |s t=>exact .inr (AS (A4 p))
   |b t=>refine .inr (AS ?_);simp only[Ai,Aj];unfold A9;split<;>rfl
theorem zf(n i:Nat):Aa (HJ n) i= .fl .undef:=by
 induction n generalizing i with
 |zero=>rfl
 | succ n ih=>cases i with
   |zero=>rfl
   |succ i=>exact ih i
theorem y6(n:Nat):(HJ n).length=n:=by
 induction n with
 |zero=>rfl
 |succ n ih=>simp[HJ,ih]
theorem Z4(n i:Nat):Aj (JM n) i=[]:=by
 induction n generalizing i with
 |zero=>rfl
 | succ n ih=>cases i with
   |zero=>rfl
   |succ i=>exact ih i
theorem zd(n i:Nat):AW (I7 n) i=[]:=by
 induction n generalizing i with
 |zero=>rfl
 | succ n ih=>cases i with
   |zero=>rfl
   |succ i=>exact ih i
theorem zD(n:Nat):(JM n).length=n:=by
 induction n with
 |zero=>rfl
 |succ n ih=>simp[JM,ih]
theorem Zbo(n:Nat):(I7 n).length=n:=by
 induction n with
 |zero=>rfl
 |succ n ih=>simp[I7,ih]
theorem RS.start{args:List PV}{ws:List V}{H:List (List PV)}{h:Ad}(R:RS h0 ω0 ω ρ ⟨args,[],H⟩ ⟨ws,[],h⟩ X0)(n m:Nat):RS h0 ω0 ω ρ ⟨args++HJ n,JM m,H⟩ ⟨ws++K5 n,I7 m,h⟩ X0:=by
 have hl:args.length=ws.length:=R.lsl
 have sl:∀ t,(t<args.length/\Aa (args++HJ n) t=Aa args t/\get (ws++K5 n) t=get ws t)\/Aa (args++HJ n) t= .fl .undef:=by
  intro t;rcases BN t args.length with h|h
  . exact .inl ⟨h,YR _ _ _ h,fL _ _ _ (by omega)⟩
  . exact .inr (by rw[YE _ _ _ h,zf])
 have:=RS.ren (st':=⟨args++HJ n,JM m,H⟩) (us':=⟨ws++K5 n,I7 m,h⟩) (X':=X0) R Ren.id_ok (λ hd p i q e=>by simp[Ren.id] at e;exact e.1) (λ hd' p=>?_) rfl (λ t=>?_) R.shx (by simp[y6,kz,hl]) (by simp[zD,Zbo]) (λ i=>by simp[Z4,zd]) (λ i c=>by simp[Z4,Aa,PV.lay]) R.ch rfl (λ _=>rfl)
 . rwa [DQ] at this
 . cases hd' with
   |x i=>exact .inl (Bm rfl)
   |h i=>exact .inl (Bm rfl)
   | s t=>
     simp only[Ai];rcases sl t with⟨_,h1,h2⟩|h1
     . rw[h1,h2];exact .inl (Bm (hd:=.s t) rfl)
     . rw[h1];exact .inr (DI (A4 p))
   |b t=>refine .inr (AS ?_);simp only[Ai,Z4];unfold A9;split<;>rfl
 . simp only;rcases sl t with⟨_,h1,h2⟩|h1
   . rw[h1,h2];exact R.sh t
   . rw[h1];exact Bd _
theorem bq{cs:List PV}(h:PV.fltL cs=true)(c:Nat)(hc:c<cs.length):(Aa cs c).flt=true:=by
 induction cs generalizing c with
 |nil=>simp at hc
 | cons x r ih=>
   simp only[PV.fltL,Ah] at h
   cases c with
   |zero=>exact h.1
   |succ c=>exact ih h.2 c (by simpa using hc)
theorem aG{H:Ad}{m:Md}{v:PV}{u:V}(r:RC H ω m v u)(h:v.flt=true):u.flat=true/\v= .fl u:=by
 cases r with
 |undef=>cases h
 |v _ _ hx=>exact⟨hx,rfl⟩
 |nil=>cases h
 |sl=>cases h
 |ep=>cases h
 |box=>cases h
 |ptr=>cases h
theorem jN{H:Ad}{hd:Hd}{p:List Nat}{v:PV}{u:V}(h:v.flt=true)(hs:Shp1 v u)(hr:∀ c,RC H ω (.at hd (p++[c])) (Aa v.cells c) (get u.cells c)):u.flat1=true:=by
 cases v with
 | agg cs=>
   obtain⟨ws,rfl,hl⟩:=hs;simp only[V.flat1,Dz];intro w hw;obtain⟨c,hc,rfl⟩:=IF hw;have r:RC H ω (.at hd (p++[c])) (Aa cs c) (get ws c):=hr c;rw[Dl,Bf hc] at r;exact(aG r (bq h c (by omega))).1
 |tup vs=>exact hs.elim
 | fl x=>
   have hx:x≠.undef:=by rintro rfl;cases h
   have hu:(∀ us,u≠.agg us)/\∀ us,u≠.tup us:=by cases x<;>first|exact hs|exact absurd rfl hx
   have r:RC H ω (.at hd (p++[0])) (.fl x) (get u.cells 0):=hr 0
   have e:get u.cells 0=u:=by cases u<;>first|rfl|exact absurd rfl (hu.1 _)
   rw[e] at r;have:=(aG r h).1
   cases u<;>first|exact this|exact absurd rfl (hu.1 _)
 |_=>cases h
theorem zQ{v:PV}{u:V}(R:RS h0 ω0 ω ρ st us (X1 v u))(h:v.flt=true):u.flat2=true:=by
 have hs:AZ v u:=R.shx 0
 have hr:∀ p,RC us.hp ω (.at (.x 0) p) (v.fcell p) (u.fcell p):=λ p=>R.core.rc (.x 0) p
 have one:(∀ vs,v≠.tup vs)->u.flat2=true:=by
  intro hnt
  have hs1:Shp1 v u:=by cases v<;>first|exact hs|exact absurd rfl (hnt _)
  have hne:v≠.fl .undef:=by rintro rfl;cases h
  have:=jN (p:=[]) h hs1 (λ c=>by have:=hr [c];rw[MW hnt,Rn (hs1.notup hne)] at this;exact this);have hut:=hs1.notup hne
  cases u<;>first|exact this|exact absurd rfl (hut _)
 cases v with
 | tup vs=>
   obtain⟨ws,rfl,hl,h3⟩:=hs;simp only[V.flat2,Dz];intro w hw;obtain⟨i,hi,rfl⟩:=IF hw;have hh:=bq (cs:=vs) h i (by omega);have:=jN (hd:=.x 0) (p:=[i]) hh (h3 i) (λ c=>hr [i,c]);rw[Dl,Bf hi] at this;exact this
 |_=>exact one (by simp)
theorem FZ{f:PFun}(ho:AllP f.body.obs):D4 (EK f.er) (Da f):=by
 intro h ω0 ρ args ws H Q K R hloc ⟨hlen,hpu,hb⟩ hK;refine⟨by rw[<- R.lsl];exact hlen,?_⟩;have R1:=R.start (f.nslots-f.nparams) f.nbox;have hlen0:h.length<=h.length:=BI _;refine LN f.body ho (k:=oW f.pure f.res Q) (K:=Yb f.er h K) (λ e st us ω ρ2 R2 hk=>?_) R1 hb
 have fin:(match IU st f.res with|some (v,st)=>if f.pure then v.flt=true/\Q v [] else Q v st.hp|none=>False)->(match GJ us f.res with|some v=>if f.pure then v.flat2=true/\us.hp.take h.length=h/\K v h else K v us.hp|none=>False):=by
  intro hk
  cases hp:IU st f.res with
  |none=>rw[hp] at hk;exact hk.elim
  | some x=>
    obtain⟨v,s1⟩:=x;rw[hp] at hk;simp only at hk;obtain⟨u,ω',h1,R3,hnob⟩:=xC R2 hp;rw[h1];simp only
    cases hpure:f.pure with
    | false=>
      rw[hpure] at hk;simp only[AL,AQ] at hk ⊢;exact hK _ _ _ _ _ _ hk R3.forget hnob
    | true=>
      rw[hpure] at hk;simp only[AN] at hk ⊢;have hH:=hpu hpure;subst hH
      have hold:∀ l,l<h.length->us.hp[l]?=h[l]?:=by
       intro l hl;refine(R3.fr.old l hl ?_).1
       cases e:ω0 l with
       |frz=>exact .inl rfl
       |none=>exact .inr rfl
       | own hd p=>
         obtain⟨i,rfl⟩:=hloc l hd p e;have:=R.bdh l i p e;simp at this
       |ptr i=>have:=R.bdp l i e;simp at this
      have hf2:=zQ R3 hk.1;refine⟨hf2,?_,?_⟩
      . refine IG λ l=>?_
        by_cases hl:l<h.length
        . rw[PZ hl,hold l hl]
        . rw[BV (by simp;omega),BV (by omega)]
      ·
       have hs:AZ v u:=R3.shx 0
       have hcell:∀ p,RC h ω0 (.at (.x 0) p) (v.fcell p) (u.fcell p):=by
        intro p;have r:RC us.hp ω' (.at (.x 0) p) (v.fcell p) (u.fcell p):=R3.core.rc (.x 0) p
        have hfc:(v.fcell p).flt=true\/v.fcell p= .fl .undef:=by
         have hL:∀ (cs:List PV) c,PV.fltL cs=true->(Aa cs c).flt=true\/Aa cs c= .fl .undef:=by
          intro cs c h;rcases BN c cs.length with hc|hc
          . exact .inl (bq h c hc)
          . exact .inr (Gv _ _ hc)
         have hkf:=hk.1;unfold PV.fcell;split
         . exact hL _ _ hkf
         . exact .inr rfl
         . rename_i vs i c;rcases hL vs i hkf with h|h
           . generalize Aa vs i=w at h
             cases w with
             |agg cs=>exact hL cs c h
             |_=>cases c<;>first|exact .inl h|exact .inr rfl
           . rw[h];cases c<;>exact .inr rfl
         . exact .inr rfl
         . exact .inl hkf
         . exact .inr rfl
        rcases hfc with h|h
        . obtain⟨a,b⟩:=aG r h;rw[b];exact .v _ _ a
        . rw[h];exact .undef _ _
       have R0:RS h ω0 ω0 ρ ⟨[],[],[]⟩ ⟨[],[],h⟩ X0:=R.forget
       exact hK u h v [] ω0 ρ hk.2 (R0.handx hs hcell (λ p=>by
        intro i pb tp e;exact hnob p _ _ _ e)) hnob
 cases e with
 |normal=>exact fin hk
 |ret=>exact fin hk
 |exit i=>exact hk.elim
end
noncomputable section
def shut.{u}{α:Sort u}(a:α):{x:α // x=a}:=Classical.choice ⟨⟨a,rfl⟩⟩
section
variable {α:Type}
def ZdG(k:IntKind)(a b:Int):Int:=k.wrap (a+b)
def Zd3(k:IntKind)(a b:Int):Int:=k.wrap (a-b)
def Zd1(k:IntKind)(a b:Int):Int:=k.wrap (a*b)
def ZdX(k:IntKind)(a b:Int):Int:=k.wrap (a.tdiv b)
def ZdZ(a b:Int):Int:=a.tmod b
def ZdO(k:IntKind)(a b:Int):Int:=k.wrap (BitVec.ofInt k.bits a &&& BitVec.ofInt k.bits b).toNat
def Zee(k:IntKind)(a b:Int):Int:=k.wrap (BitVec.ofInt k.bits a ||| BitVec.ofInt k.bits b).toNat
def Zdt(k:IntKind)(a b:Int):Int:=k.wrap (BitVec.ofInt k.bits a ^^^ BitVec.ofInt k.bits b).toNat
def ZaY(k:IntKind)(a b:Int):Int:=k.wrap (BitVec.ofInt k.bits a &&& ~~~BitVec.ofInt k.bits b).toNat
def ZdR(k:IntKind)(a b:Int):Int:=k.wrap (a*2^min b.toNat k.bits)
def ZdA(k:IntKind)(a b:Int):Int:=a.fdiv (2^min b.toNat k.bits)
def ZdM(k:IntKind)(a:Int):Int:=k.wrap (0-a)
def Zc9(k:IntKind)(a:Int):Int:=k.wrap a
def ZdN(a b:Int):Int:=if b<a then b else a
def ZdV(a b:Int):Int:=if b > a then b else a
def ZdL(a:Int):Nat:=a.toNat
def Zeh(a b:Int):Bool:=a == b
def Zef(a b:Int):Bool:=a != b
def Zd6(a b:Int):Bool:=decide (a<b)
def Zei(a b:Int):Bool:=decide (a<=b)
def Zeg(a b:Int):Bool:=decide (a > b)
def Zd8(a b:Int):Bool:=decide (a>=b)
def ZdQ(a b:List UInt8):List UInt8:=a++b
def Zd5(a b:List UInt8):Bool:=a == b
def Zeb(a b:List UInt8):Bool:=!(a == b)
def ZdK(s:List UInt8)(j:Int):Int:=(s.getD j.toNat 0).toNat
def Zdq(s:List UInt8):List Int:=s.map λ b=>((b.toNat:Nat):Int)
def Zdk(l:List Int):List UInt8:=l.map λ n=>UInt8.ofNat n.toNat
def Zdv(l:List α):Int:=l.length
def Zek(l:List α):Nat:=l.length
def ZdP(l:List α)(j:Nat)(d:α):α:=l.getD j d
def ZdE(l:List α)(j:Nat)(x:α):List α:=l.set j x
def Zdl(l:List α)(a b:Nat):List α:=(l.drop a).take (b-a)
def ZcY(l:List α)(n:Nat):List α:=l.take n
def Zd4(l m:List α):List α:=l++m
def Zdw(n:Int)(x:α):List α:=List.replicate n.toNat x
def Zdj(a:Bool):Bool:=!a
def Zdh(a b:Bool):Bool:=a&&b
def Zed(a b:Bool):Bool:=a||b
def Zdp(a b:Bool):Bool:=a == b
def Zdn(c:Bool)(x y:α):α:=bif c then x else y
end
structure Leaf where
 iAdd:∀ (k:IntKind) (a b:Int),Int
 iSub:∀ (k:IntKind) (a b:Int),Int
 iMul:∀ (k:IntKind) (a b:Int),Int
 iQuo:∀ (k:IntKind) (a b:Int),Int
 iRem:∀ (a b:Int),Int
 iAnd:∀ (k:IntKind) (a b:Int),Int
 iOr:∀ (k:IntKind) (a b:Int),Int
 iXor:∀ (k:IntKind) (a b:Int),Int
 iAndNot:∀ (k:IntKind) (a b:Int),Int
 iShl:∀ (k:IntKind) (a b:Int),Int
 iShr:∀ (k:IntKind) (a b:Int),Int
 iNeg:∀ (k:IntKind) (a:Int),Int
 iConv:∀ (k:IntKind) (a:Int),Int
 iMin:∀ (a b:Int),Int
 iMax:∀ (a b:Int),Int
 iNat:∀ (a:Int),Nat
 iEq:∀ (a b:Int),Bool
 iNe:∀ (a b:Int),Bool
 iLt:∀ (a b:Int),Bool
 iLe:∀ (a b:Int),Bool
 iGt:∀ (a b:Int),Bool
 iGe:∀ (a b:Int),Bool
 sAdd:∀ (a b:List UInt8),List UInt8
 sEq:∀ (a b:List UInt8),Bool
 sNe:∀ (a b:List UInt8),Bool
 sGet:∀ (s:List UInt8) (j:Int),Int
 sRow:∀ (s:List UInt8),List Int
 rowS:∀ (l:List Int),List UInt8
 lLen:∀ {α:Type} (l:List α),Int
 lN:∀ {α:Type} (l:List α),Nat
 lGet:∀ {α:Type} (l:List α) (j:Nat) (d:α),α
 lSet:∀ {α:Type} (l:List α) (j:Nat) (x:α),List α
 lSub:∀ {α:Type} (l:List α) (a b:Nat),List α
 lTake:∀ {α:Type} (l:List α) (n:Nat),List α
 lApp:∀ {α:Type} (l m:List α),List α
 lRep:∀ {α:Type} (n:Int) (x:α),List α
 bNot:∀ (a:Bool),Bool
 bAnd:∀ (a b:Bool),Bool
 bOr:∀ (a b:Bool),Bool
 bIff:∀ (a b:Bool),Bool
 bSel:∀ {α:Type} (c:Bool) (x y:α),α
def n5:Leaf:=⟨@ZdG,@Zd3,@Zd1,@ZdX,@ZdZ,@ZdO,@Zee,@Zdt,@ZaY,@ZdR,@ZdA,@ZdM,@Zc9,@ZdN,@ZdV,@ZdL,@Zeh,@Zef,@Zd6,@Zei,@Zeg,@Zd8,@ZdQ,@Zd5,@Zeb,@ZdK,@Zdq,@Zdk,@Zdv,@Zek,@ZdP,@ZdE,@Zdl,@ZcY,@Zd4,@Zdw,@Zdj,@Zdh,@Zed,@Zdp,@Zdn⟩
def AK:{l:Leaf // l=n5}:=Classical.choice ⟨⟨n5,rfl⟩⟩
section
variable {α:Type}
@[irreducible] def iAdd(k:IntKind)(a b:Int):Int:=AK.1.iAdd k a b
theorem nf(k:IntKind)(a b:Int):iAdd k a b=(k.wrap (a+b)):=by unfold iAdd;rw[AK.2];rfl
@[irreducible] def iSub(k:IntKind)(a b:Int):Int:=AK.1.iSub k a b
theorem ny(k:IntKind)(a b:Int):iSub k a b=(k.wrap (a-b)):=by unfold iSub;rw[AK.2];rfl
@[irreducible] def iMul(k:IntKind)(a b:Int):Int:=AK.1.iMul k a b
theorem nU(k:IntKind)(a b:Int):iMul k a b=(k.wrap (a*b)):=by unfold iMul;rw[AK.2];rfl
@[irreducible] def iQuo(k:IntKind)(a b:Int):Int:=AK.1.iQuo k a b
theorem ZcU(k:IntKind)(a b:Int):iQuo k a b=(k.wrap (a.tdiv b)):=by unfold iQuo;rw[AK.2];rfl
@[irreducible] def iRem(a b:Int):Int:=AK.1.iRem a b
theorem mW(a b:Int):iRem a b=(a.tmod b):=by unfold iRem;rw[AK.2];rfl
@[irreducible] def iAnd(k:IntKind)(a b:Int):Int:=AK.1.iAnd k a b
theorem cE(k:IntKind)(a b:Int):iAnd k a b=(k.wrap (BitVec.ofInt k.bits a &&& BitVec.ofInt k.bits b).toNat):=by unfold iAnd;rw[AK.2];rfl
@[irreducible] def iOr(k:IntKind)(a b:Int):Int:=AK.1.iOr k a b
theorem oc(k:IntKind)(a b:Int):iOr k a b=(k.wrap (BitVec.ofInt k.bits a ||| BitVec.ofInt k.bits b).toNat):=by unfold iOr;rw[AK.2];rfl
@[irreducible] def iXor(k:IntKind)(a b:Int):Int:=AK.1.iXor k a b
theorem nB(k:IntKind)(a b:Int):iXor k a b=(k.wrap (BitVec.ofInt k.bits a ^^^ BitVec.ofInt k.bits b).toNat):=by unfold iXor;rw[AK.2];rfl
@[irreducible] def iAndNot(k:IntKind)(a b:Int):Int:=AK.1.iAndNot k a b
theorem j7(k:IntKind)(a b:Int):iAndNot k a b=(k.wrap (BitVec.ofInt k.bits a &&& ~~~BitVec.ofInt k.bits b).toNat):=by unfold iAndNot;rw[AK.2];rfl
@[irreducible] def iShl(k:IntKind)(a b:Int):Int:=AK.1.iShl k a b
theorem m9(k:IntKind)(a b:Int):iShl k a b=(k.wrap (a*2^min b.toNat k.bits)):=by unfold iShl;rw[AK.2];rfl
@[irreducible] def iShr(k:IntKind)(a b:Int):Int:=AK.1.iShr k a b
theorem nL(k:IntKind)(a b:Int):iShr k a b=(a.fdiv (2^min b.toNat k.bits)):=by unfold iShr;rw[AK.2];rfl
@[irreducible] def iNeg(k:IntKind)(a:Int):Int:=AK.1.iNeg k a
theorem ZcX(k:IntKind)(a:Int):iNeg k a=(k.wrap (0-a)):=by unfold iNeg;rw[AK.2];rfl
@[irreducible] def iConv(k:IntKind)(a:Int):Int:=AK.1.iConv k a
theorem ZbB(k:IntKind)(a:Int):iConv k a=(k.wrap a):=by unfold iConv;rw[AK.2];rfl
@[irreducible] def iMin(a b:Int):Int:=AK.1.iMin a b
theorem ZcK(a b:Int):iMin a b=(if b<a then b else a):=by unfold iMin;rw[AK.2];rfl
@[irreducible] def iMax(a b:Int):Int:=AK.1.iMax a b
theorem cI(a b:Int):iMax a b=(if b > a then b else a):=by unfold iMax;rw[AK.2];rfl
@[irreducible] def iNat(a:Int):Nat:=AK.1.iNat a
theorem ct(a:Int):iNat a=(a.toNat):=by unfold iNat;rw[AK.2];rfl
@[irreducible] def iEq(a b:Int):Bool:=AK.1.iEq a b
theorem X4(a b:Int):iEq a b=(a == b):=by unfold iEq;rw[AK.2];rfl
@[irreducible] def iNe(a b:Int):Bool:=AK.1.iNe a b
theorem n9(a b:Int):iNe a b=(a != b):=by unfold iNe;rw[AK.2];rfl
@[irreducible] def iLt(a b:Int):Bool:=AK.1.iLt a b
theorem oA(a b:Int):iLt a b=(decide (a<b)):=by unfold iLt;rw[AK.2];rfl
@[irreducible] def iLe(a b:Int):Bool:=AK.1.iLe a b
theorem n7(a b:Int):iLe a b=(decide (a<=b)):=by unfold iLe;rw[AK.2];rfl
@[irreducible] def iGt(a b:Int):Bool:=AK.1.iGt a b
theorem nZ(a b:Int):iGt a b=(decide (a > b)):=by unfold iGt;rw[AK.2];rfl
@[irreducible] def iGe(a b:Int):Bool:=AK.1.iGe a b
theorem oJ(a b:Int):iGe a b=(decide (a>=b)):=by unfold iGe;rw[AK.2];rfl
@[irreducible] def sAdd(a b:List UInt8):List UInt8:=AK.1.sAdd a b
theorem mY(a b:List UInt8):sAdd a b=(a++b):=by unfold sAdd;rw[AK.2];rfl
@[irreducible] def sEq(a b:List UInt8):Bool:=AK.1.sEq a b
theorem oC(a b:List UInt8):sEq a b=(a == b):=by unfold sEq;rw[AK.2];rfl
@[irreducible] def sNe(a b:List UInt8):Bool:=AK.1.sNe a b
theorem oj(a b:List UInt8):sNe a b=(!(a == b)):=by unfold sNe;rw[AK.2];rfl
@[irreducible] def sGet(s:List UInt8)(j:Int):Int:=AK.1.sGet s j
@[irreducible] def sRow(s:List UInt8):List Int:=AK.1.sRow s
theorem Zdd(s:List UInt8):sRow s=(s.map λ b=>((b.toNat:Nat):Int)):=by unfold sRow;rw[AK.2];rfl
@[irreducible] def rowS(l:List Int):List UInt8:=AK.1.rowS l
@[irreducible] def lLen(l:List α):Int:=AK.1.lLen l
theorem nj(l:List α):lLen l=(l.length):=by unfold lLen;rw[AK.2];rfl
@[irreducible] def lN(l:List α):Nat:=AK.1.lN l
theorem Yf(l:List α):lN l=(l.length):=by unfold lN;rw[AK.2];rfl
@[irreducible] def lGet(l:List α)(j:Nat)(d:α):α:=AK.1.lGet l j d
theorem cw(l:List α)(j:Nat)(d:α):lGet l j d=(l.getD j d):=by unfold lGet;rw[AK.2];rfl
@[irreducible] def lSet(l:List α)(j:Nat)(x:α):List α:=AK.1.lSet l j x
theorem cW(l:List α)(j:Nat)(x:α):lSet l j x=(l.set j x):=by unfold lSet;rw[AK.2];rfl
@[irreducible] def lSub(l:List α)(a b:Nat):List α:=AK.1.lSub l a b
theorem nJ(l:List α)(a b:Nat):lSub l a b=((l.drop a).take (b-a)):=by unfold lSub;rw[AK.2];rfl
@[irreducible] def lTake(l:List α)(n:Nat):List α:=AK.1.lTake l n
theorem bP(l:List α)(n:Nat):lTake l n=(l.take n):=by unfold lTake;rw[AK.2];rfl
@[irreducible] def lApp(l m:List α):List α:=AK.1.lApp l m
theorem Nt(l m:List α):lApp l m=(l++m):=by unfold lApp;rw[AK.2];rfl
@[irreducible] def lRep(n:Int)(x:α):List α:=AK.1.lRep n x
theorem nb(n:Int)(x:α):lRep n x=(List.replicate n.toNat x):=by unfold lRep;rw[AK.2];rfl
@[irreducible] def bNot(a:Bool):Bool:=AK.1.bNot a
theorem PR(a:Bool):bNot a=(!a):=by unfold bNot;rw[AK.2];rfl
@[irreducible] def bAnd(a b:Bool):Bool:=AK.1.bAnd a b
theorem di(a b:Bool):bAnd a b=(a&&b):=by unfold bAnd;rw[AK.2];rfl
@[irreducible] def bOr(a b:Bool):Bool:=AK.1.bOr a b
theorem n8(a b:Bool):bOr a b=(a||b):=by unfold bOr;rw[AK.2];rfl
@[irreducible] def bIff(a b:Bool):Bool:=AK.1.bIff a b
theorem nC(a b:Bool):bIff a b=(a == b):=by unfold bIff;rw[AK.2];rfl
@[irreducible] def bSel(c:Bool)(x y:α):α:=AK.1.bSel c x y
theorem dr(c:Bool)(x y:α):bSel c x y=(bif c then x else y):=by unfold bSel;rw[AK.2];rfl
end
mutual
inductive CT where
 |int (k:IntKind)|bool|str|ifc|sl (r:RT)|slf (r:RT)
inductive RT where
 |one (t:CT)|cons (t:CT) (r:RT)
end
abbrev BD:RT:=.cons (.int .i64) (.cons (.int .i64) (.one (.int .i64)))
abbrev BA:RT:=.cons (.int .i64) (.cons (.int .i64) (.cons (.int .i64) (.one (.int .i64))))
abbrev Bj:RT:=.cons (.int .i64) (.cons (.int .i64) (.cons (.int .i64) (.cons (.int .i64) (.one (.int .i64)))))
mutual
def CT.D:CT->Type
 |.int _=>Int
 |.bool=>Bool
 |.str=>List UInt8
 |.ifc=>Bool
 |.sl r=>List r.D
 |.slf r=>List r.D
def RT.D:RT->Type
 |.one t=>t.D
 |.cons t r=>t.D×r.D
end
def RT.w:RT->Nat
 |.one _=>1
 |.cons _ r=>r.w+1
def CT.dflt:(t:CT)->t.D
 |.int _=>(0:Int)
 |.bool=>false
 |.str=>([]:List UInt8)
 |.ifc=>true
 |.sl r=>([]:List r.D)
 |.slf r=>([]:List r.D)
def RT.dflt:(r:RT)->r.D
 |.one t=>t.dflt
 |.cons t r=>(t.dflt,r.dflt)
mutual
def CT.beq:CT->CT->Bool
 |.int k,.int k'=>decide (k=k')
 |.bool,.bool=>true
 |.str,.str=>true
 |.ifc,.ifc=>true
 |.sl r,.sl r'=>RT.beq r r'
 |.slf r,.slf r'=>RT.beq r r'
 |_,_=>false
def RT.beq:RT->RT->Bool
 |.one t,.one t'=>CT.beq t t'
 |.cons t r,.cons t' r'=>CT.beq t t'&&RT.beq r r'
 |_,_=>false
end
mutual
theorem CT.beq_eq:∀ {a b:CT},CT.beq a b=true->a=b
 |.int k,.int k',h=>by simp only[CT.beq,Ar] at h;rw[h]
 |.bool,.bool,_=>rfl
 |.str,.str,_=>rfl
 |.ifc,.ifc,_=>rfl
 |.sl r,.sl r',h=>by rw[RT.beq_eq (a:=r) (b:=r') h]
 |.slf r,.slf r',h=>by rw[RT.beq_eq (a:=r) (b:=r') h]
 |.int _,.bool,h|.int _,.str,h|.int _,.ifc,h|.int _,.sl _,h|.int _,.slf _,h=>by cases h
 |.bool,.int _,h|.bool,.str,h|.bool,.ifc,h|.bool,.sl _,h|.bool,.slf _,h=>by cases h
 |.str,.int _,h|.str,.bool,h|.str,.ifc,h|.str,.sl _,h|.str,.slf _,h=>by cases h
 |.ifc,.int _,h|.ifc,.bool,h|.ifc,.str,h|.ifc,.sl _,h|.ifc,.slf _,h=>by cases h
 |.sl _,.int _,h|.sl _,.bool,h|.sl _,.str,h|.sl _,.ifc,h|.sl _,.slf _,h=>by cases h
 |.slf _,.int _,h|.slf _,.bool,h|.slf _,.str,h|.slf _,.ifc,h|.slf _,.sl _,h=>by cases h
theorem RT.beq_eq:∀ {a b:RT},RT.beq a b=true->a=b
 |.one t,.one t',h=>by rw[CT.beq_eq (a:=t) (b:=t') h]
 | .cons t r,.cons t' r',h=>by
   simp only[RT.beq,Ah] at h
   rw[CT.beq_eq h.1,RT.beq_eq h.2]
 |.one _,.cons _ _,h=>by cases h
 |.cons _ _,.one _,h=>by cases h
end
def Mn{r' r:RT}(l:List r'.D):Option (List r.D):=if h:RT.beq r' r=true then some ((congrArg (λ x:RT=>List x.D) (RT.beq_eq h)).mp l) else none
inductive BX where
 |lit (b:Bool)|dyn (b:Bool)
def BX.b:BX->Bool
 |.lit b=>b
 |.dyn b=>b
inductive DV where
 |any
 |undef
 |bool (b:BX)
 |int (k:IntKind) (n:Int)
 |str (s:List UInt8)
 |ifc (b:Bool)
 |nil (q:Ql)
 |sl (q:Ql) (r:RT) (l:List r.D)
 |ep (q:Ql) (r:RT) (l:List r.D) (j o:Nat)
 |box (i o:Nat)
 |ptr (i o:Nat)
 |agg (cs:List DV)
 |tup (vs:List DV)
 deriving Inhabited
mutual
def CT.enc:(t:CT)->t.D->PV
 |.int k,n=>.fl (.int k n)
 |.bool,b=>.fl (.bool b)
 |.str,s=>.fl (.str s)
 |.ifc,b=>.fl (.ifc b)
 |.sl r,l=>.sl .own (l.map (RT.enc r))
 |.slf r,l=>.sl .frz (l.map (RT.enc r))
def RT.enc:(r:RT)->r.D->List PV
 |.one t,x=>[CT.enc t x]
 |.cons t r,x=>CT.enc t x.1::RT.enc r x.2
end
mutual
def DV.enc:DV->PV
 |.any=>.fl .undef
 |.undef=>.fl .undef
 |.bool b=>.fl (.bool b.b)
 |.int k n=>.fl (.int k n)
 |.str s=>.fl (.str s)
 |.ifc b=>.fl (.ifc b)
 |.nil q=>.sl q []
 |.sl q r l=>.sl q (l.map r.enc)
 |.ep q r l j o=>.ep q (l.map r.enc) j o
 |.box i o=>.box i o
 |.ptr i o=>.ptr i o
 |.agg cs=>.agg (DV.encL cs)
 |.tup vs=>.tup (DV.encL vs)
def DV.encL:List DV->List PV
 |[]=>[]
 |v::r=>v.enc::DV.encL r
end
def CT.dv(q:Ql):(t:CT)->t.D->DV
 |.int k,n=>.int k n
 |.bool,b=>.bool (.dyn b)
 |.str,s=>.str s
 |.ifc,b=>.ifc b
 |.sl r,l=>.sl q r l
 |.slf r,l=>.sl .frz r l
def RT.dv(q:Ql):(r:RT)->r.D->List DV
 |.one t,x=>[CT.dv q t x]
 |.cons t r,x=>CT.dv q t x.1::RT.dv q r x.2
def CT.of:(t:CT)->DV->Option t.D
 |.int k,.int k' n=>if k=k' then some n else none
 |.bool,.bool b=>some b.b
 |.str,.str s=>some s
 |.ifc,.ifc b=>some b
 |.sl r,.nil .own=>some ([]:List r.D)
 |.sl r,.sl .own r' l=>Mn (r':=r') (r:=r) l
 |.slf r,.nil .frz=>some ([]:List r.D)
 |.slf r,.sl .frz r' l=>Mn (r':=r') (r:=r) l
 |_,_=>none
def RT.of:(r:RT)->List DV->Option r.D
 |.one t,[v]=>t.of v
 | .cons t r,v::vs=>(match t.of v,r.of vs with
   |some x,some y=>some (x,y)
   |_,_=>none)
 |_,_=>none
def DV.ty:DV->Option CT
 |.int k _=>some (.int k)
 |.bool _=>some .bool
 |.str _=>some .str
 |.ifc _=>some .ifc
 |.sl _ r _=>some (.sl r)
 |_=>none
def eC:List DV->Option RT
 |[]=>none
 |[v]=>v.ty.map .one
 | v::r=>(match v.ty,eC r with
   |some t,some r=>some (.cons t r)
   |_,_=>none)
mutual
def CT.pl:CT->Bool
 |.sl r=>r.pl
 |.slf _=>false
 |_=>true
def RT.pl:RT->Bool
 |.one t=>t.pl
 |.cons t r=>t.pl&&r.pl
end
mutual
def CT.nrm:CT->CT
 |.sl r=>.sl r.nrm
 |.slf r=>.sl r.nrm
 |t=>t
def RT.nrm:RT->RT
 |.one t=>.one t.nrm
 |.cons t r=>.cons t.nrm r.nrm
end
mutual
theorem CT.D_nrm:∀ t:CT,t.nrm.D=t.D
 |.int _|.bool|.str|.ifc=>rfl
 |.sl r=>congrArg List (RT.D_nrm r)
 |.slf r=>congrArg List (RT.D_nrm r)
theorem RT.D_nrm:∀ r:RT,r.nrm.D=r.D
 |.one t=>CT.D_nrm t
 | .cons t r=>by
   show (t.nrm.D×r.nrm.D)=(t.D×r.D)
   rw[CT.D_nrm t,RT.D_nrm r]
end
def Yk(r:RT)(l:List r.D):List r.nrm.D:=(congrArg List (RT.D_nrm r).symm).mp l
def DV.nrm1:DV->DV
 |.sl .frz r l=>if r.pl then .sl .frz r l else .sl .frz r.nrm (Yk r l)
 |v=>v
def DV.nrmA:List DV->List DV
 |[]=>[]
 |v::r=>v.nrm1::DV.nrmA r
def DV.nrm:DV->DV
 |.agg cs=>.agg (DV.nrmA cs)
 |v=>v.nrm1
def DV.nrmV:List DV->List DV
 |[]=>[]
 |v::r=>v.nrm::DV.nrmV r
def DV.cells:DV->List DV
 |.agg cs=>cs
 |v=>[v]
def Ql.own':Ql->Bool
 |.own|.ownw _=>true
 |_=>false
def Ql.bor' (hd:Hd):Ql->Bool
 |.bor h _ _=>h == hd
 |.pre h _=>h == hd
 |_=>false
mutual
def DV.own:DV->Bool
 |.nil q=>q.own'
 |.sl q _ _=>q.own'
 |.agg cs=>DV.ownL cs
 |.tup vs=>DV.ownL vs
 |_=>false
def DV.ownL:List DV->Bool
 |[]=>false
 |v::r=>v.own||DV.ownL r
end
mutual
def DV.bor(hd:Hd):DV->Bool
 |.nil q=>q.bor' hd
 |.sl q _ _=>q.bor' hd
 |.ep q _ _ _ _=>q.bor' hd
 |.agg cs=>DV.borL hd cs
 |.tup vs=>DV.borL hd vs
 |_=>false
def DV.borL(hd:Hd):List DV->Bool
 |[]=>false
 |v::r=>v.bor hd||DV.borL hd r
end
mutual
def DV.hold:DV->Bool
 |.nil q=>(match q with|.frz=>false|_=>true)
 |.sl q _ _=>(match q with|.frz=>false|_=>true)
 |.ep q _ _ _ _=>(match q with|.frz=>false|_=>true)
 |.agg cs=>DV.holdL cs
 |.tup vs=>DV.holdL vs
 |_=>false
def DV.holdL:List DV->Bool
 |[]=>false
 |v::r=>v.hold||DV.holdL r
end
mutual
def DV.fz:DV->DV
 |.nil _=>.nil .frz
 |.sl _ r l=>.sl .frz r l
 |.ep _ r l j o=>.ep .frz r l j o
 |.agg cs=>.agg (DV.fzL cs)
 |.tup vs=>.tup (DV.fzL vs)
 |v=>v
def DV.fzL:List DV->List DV
 |[]=>[]
 |v::r=>v.fz::DV.fzL r
end
def Ql.detop:Ql->Ql
 |.bor h p _=>.bor h p false
 |.pre h p=>.bor h p false
 |q=>q
mutual
def DV.detop:DV->DV
 |.nil q=>.nil q.detop
 |.sl q r l=>.sl q.detop r l
 |.ep q r l j o=>.ep q.detop r l j o
 |.agg cs=>.agg (DV.detopL cs)
 |.tup vs=>.tup (DV.detopL vs)
 |v=>v
def DV.detopL:List DV->List DV
 |[]=>[]
 |v::r=>v.detop::DV.detopL r
end
mutual
def DV.hasPtr:DV->Bool
 |.ptr _ _=>true
 |.agg cs=>DV.hasPtrL cs
 |.tup vs=>DV.hasPtrL vs
 |_=>false
def DV.hasPtrL:List DV->Bool
 |[]=>false
 |v::r=>v.hasPtr||DV.hasPtrL r
end
mutual
def DV.deep:DV->Bool
 |.undef|.bool _|.int _ _|.str _|.ifc _=>true
 |.nil q=>q.own'
 |.sl q r _=>q.own'&&r.pl
 |.agg cs=>DV.deepL cs
 |.tup vs=>DV.deepL vs
 |.ptr _ _=>true
 |_=>false
def DV.deepL:List DV->Bool
 |[]=>true
 |v::r=>v.deep&&DV.deepL r
end
def DV.cell:DV->Bool
 |.bool _|.int _ _|.str _|.ifc _=>true
 |.nil q=>(match q with|.own|.frz|.ownw _=>true|_=>false)
 |.sl q _ _=>(match q with|.own|.frz|.ownw _=>true|_=>false)
 |_=>false
def DR:List DV->Bool
 |[]=>true
 |v::r=>v.cell&&DR r
def DV.argc:DV->Bool
 |.bool _|.int _ _|.str _|.ifc _|.nil _|.sl _ _ _|.ptr _ _=>true
 |_=>false
def XY:List DV->Bool
 |[]=>true
 |v::r=>v.argc&&XY r
def DV.argok:DV->Bool
 |.agg cs=>XY cs
 |v=>v.argc
def ID:List DV->Bool
 |[]=>true
 |v::r=>v.argok&&ID r
def DV.retc:DV->Bool
 |.ptr _ _=>true
 |v=>v.cell
def JO:List DV->Bool
 |[]=>true
 |v::r=>v.retc&&JO r
def DV.retok:DV->Bool
 |.agg cs=>JO cs
 |v=>v.retc
def CT.flat:CT->Bool
 |.sl _=>false
 |.slf _=>false
 |_=>true
def RT.flat:RT->Bool
 |.one t=>t.flat
 |.cons t r=>t.flat&&r.flat
structure DC where
 d:Bool
 v:DV
structure DS where
 sl:List DC
 bx:List (List DC)
 hp:List (List DC)
def Bs:List DC->Nat->DV
 |[],_=>.any
 |x::_,0=>x.v
 |_::r,n+1=>Bs r n
def DX:List DC->Nat->DV->List DC
 |[],_,_=>[]
 |_::r,0,v=>⟨true,v⟩::r
 |x::r,n+1,v=>x::DX r n v
def BO:List (List DC)->Nat->List DC
 |[],_=>[]
 |x::_,0=>x
 |_::r,n+1=>BO r n
def Fa:List (List DC)->Nat->List DC->List (List DC)
 |[],_,_=>[]
 |_::r,0,v=>v::r
 |x::r,n+1,v=>x::Fa r n v
def Jw:List DC->Nat->List DV->List DC
 |cs,_,[]=>cs
 |[],_,_::_=>[]
 |_::r,0,v::vs=>⟨true,v⟩::Jw r 0 vs
 |c::r,n+1,v::vs=>c::Jw r n (v::vs)
def LV:List DV->Nat->List DV->List DV
 |cs,_,[]=>cs
 |[],_,_::_=>[]
 |_::r,0,v::vs=>v::LV r 0 vs
 |c::r,n+1,v::vs=>c::LV r n (v::vs)
def Hj:List DV->Nat->DV
 |[],_=>.any
 |x::_,0=>x
 |_::r,n+1=>Hj r n
def Qn:List DV->Nat->DV->List DV
 |[],_,_=>[]
 |_::r,0,v=>v::r
 |x::r,n+1,v=>x::Qn r n v
def Ch:List DV->Nat->Nat->List DV
 |_,0,0=>[]
 |[],_,_=>[]
 |c::r,0,n+1=>c::Ch r 0 n
 |_::r,o+1,n=>Ch r o n
def BT:List DC->List DV
 |[]=>[]
 |c::r=>c.v::BT r
def news:List DV->List DC
 |[]=>[]
 |v::r=>⟨true,v⟩::news r
def Dt(hd:Hd):List DC->List DC
 |[]=>[]
 |c::r=>(if c.v.bor hd then ⟨true,.any⟩ else c)::Dt hd r
def DV.isBox(i:Nat):DV->Bool
 |.box j _=>i == j
 |_=>false
def RD(i:Nat):List DC->List DC
 |[]=>[]
 |c::r=>(if c.v.isBox i then ⟨true,.any⟩ else c)::RD i r
def XS(live:List Nat):Nat->List DC->List DC
 |_,[]=>[]
 |n,c::r=>(if live.contains n then c else ⟨true,.any⟩)::XS live (n+1) r
def clean:List DC->List DC
 |[]=>[]
 |c::r=>⟨false,c.v⟩::clean r
def PT:List (List DC)->List (List DC)
 |[]=>[]
 |b::r=>clean b::PT r
def DS.clean(st:DS):DS:=⟨Go.Ag.clean st.sl,PT st.bx,PT st.hp⟩
def et:List DC->List PV
 |[]=>[]
 |c::r=>c.v.enc::et r
def dU:List (List DC)->List (List PV)
 |[]=>[]
 |b::r=>et b::dU r
def DS.enc(st:DS):PS:=⟨et st.sl,dU st.bx,dU st.hp⟩
inductive PX where
 |tt|ff|p (h:Prop)|and (a b:PX)|ite (c:Bool) (a b:PX)
def PX.den:PX->Prop
 |.tt=>True
 |.ff=>False
 |.p h=>h
 |.and a b=>a.den/\b.den
 |.ite c a b=>(c=true->a.den)/\(c=false->b.den)
def PX.land:PX->PX->PX
 |.tt,b=>b
 |.ff,_=>.ff
 |a,.tt=>a
 |a,b=>.and a b
def PX.if' (c:Bool):PX->PX->PX
 |.tt,.tt=>.tt
 |a,b=>.ite c a b
def JX:V->DV
 |.nils=>.nil .own
 |.tup []=>.tup []
 |.bool b=>.bool (.lit b)
 |.int k n=>.int k n
 |.str s=>.str s
 |.ifc b=>.ifc b
 |_=>.undef
def Hg:List V->List DV
 |[]=>[]
 |v::r=>JX v::Hg r
def Opnd.dev(s:List DC):Opnd->DV
 |.t n=>Bs s n
 |.c v=>JX v
end
abbrev dX:=List UInt8
abbrev Bb:=List Int
abbrev A6:=Int×Int
abbrev Mr:=Bool×Int
abbrev CS:=Int×A6
abbrev Eh:=Bb×Int
abbrev DY:=Int×Bb
abbrev NW:=List A6
abbrev CH:=Int×CS
abbrev oL:=Bb×Bb
abbrev CY:=List CS
abbrev Zd2:=Int×DY
abbrev CB:=Bb×A6
abbrev Fb:=List DY
abbrev Fc:=Int×CH
abbrev Hc:=List CH
abbrev De:=List CY
abbrev IQ:=NW×Int
abbrev Bz:=List Fc
abbrev DU:=List Hc
abbrev oE:=NW×A6
abbrev Cw:=CB×Int
abbrev XX:=De×Int
abbrev SW:=DY×DY
abbrev oh:=CB×Bb
abbrev He:=Bz×Int
abbrev XV:=Int×Bz
abbrev CZ:=Int×DU
abbrev SU:=DY×NW
abbrev ZdT:=CH×CH
abbrev JP:=DY×Fb
abbrev Mg:=Fb×Zd2
abbrev oI:=Bz×CS
abbrev NG:=Int×DU×A6
abbrev JK:=CZ×A6
abbrev JJ:=Bz×CY
abbrev F8:=Bz×Bz
abbrev XU:=CZ×De
abbrev Ci:=Int×DU×De×Int×Bz×Int×Bool
abbrev HQ:=Ci×Int
abbrev Ff:=Ci×Int×Bool
abbrev Mi:=Int×Int×DU×De×Int×Bz×Int×Bool×A6
abbrev oH:=CB×Ci
abbrev XW:=CB×HQ
abbrev Qb:=Ci×ZdT
abbrev Ab:V:=.int .i64 0
abbrev Zel:V:=.int .i64 1
abbrev Cy:V:=.bool false
abbrev Zej:V:=.bool true
abbrev AE:Opnd:=.c Ab
abbrev Au:Opnd:=.c Zel
abbrev An:Opnd:=.c Cy
abbrev AR:Opnd:=.c Zej
abbrev Aq:Ql×CT:=(.own,.int .i64)
abbrev Aw:Ql×CT:=(.frz,.int .i64)
noncomputable section
mutual
def DV.ok:DV->Bool
 |.any=>false
 |.agg cs=>DV.okL cs
 |.tup vs=>DV.okL vs
 |_=>true
def DV.okL:List DV->Bool
 |[]=>true
 |v::r=>v.ok&&DV.okL r
end
def DS.put(st:DS)(d:Option Nat)(v:DV):DS:=
 match d with
 |none=>st
 |some d=>if v.own then { st with sl:=Dt (.s d) (DX st.sl d v) } else { st with sl:=DX st.sl d v }
def Th(v:DV)(n:Nat)(st:DS):DV×DS:=if v.own then (if v.bor (.s n) then (.any,st) else (v,{ st with sl:=Dt (.s n) (DX st.sl n .any) })) else (v,st)
def Bp(x:Opnd)(st:DS):DV×DS:=match x with
 |.c v=>(JX v,st)
 |.t n=>Th (Bs st.sl n) n st
def Te(v:DV)(n:Nat)(st:DS):DV×DS:=if v.own then (if v.retok then (v.fz,{ st with sl:=Dt (.s n) (DX st.sl n v.fz) }) else (.any,st)) else (v,st)
def Fz(x:Opnd)(st:DS):DV×DS:=match x with
 |.c v=>(JX v,st)
 |.t n=>Te (Bs st.sl n) n st
def DV.fcell:DV->List Nat->DV
 |.agg cs,[c]=>Hj cs c
 |.agg _,_=>.any
 |.tup vs,[i,c]=>Hj (Hj vs i).cells c
 |.tup _,_=>.any
 |v,[0]=>v
 |_,_=>.any
def DV.setc:DV->List Nat->DV->DV
 |.agg cs,[c],w=>.agg (Qn cs c w)
 |.agg cs,_,_=>.agg cs
 |.tup vs,_,_=>.tup vs
 |_,[0],w=>w
 |v,_,_=>v
def CG(st:DS):Hd->List Nat->DV
 |.s t,p=>(Bs st.sl t).fcell p
 |.b i,[c]=>Bs (BO st.bx i) c
 |.h i,[c]=>Bs (BO st.hp i) c
 |_,_=>.any
def HR(st:DS)(v:DV):Hd->List Nat->DS
 |.s t,p=>{ st with sl:=Dt (.s t) (DX st.sl t ((Bs st.sl t).setc p v)) }
 |.b i,[c]=>{ st with sl:=Dt (.b i) st.sl,bx:=Fa st.bx i (DX (BO st.bx i) c v) }
 |.h i,[c]=>{ st with sl:=Dt (.h i) st.sl,hp:=Fa st.hp i (DX (BO st.hp i) c v) }
 |_,_=>st
def Ql.brw(hd:Hd)(p:List Nat):Ql->Ql
 |.own=>.bor hd p true
 |.ownw _=>.pre hd p
 |q=>q
def dG(hd:Hd)(p:List Nat):DV->DV
 |.sl q r l=>.sl (q.brw hd p) r l
 |.nil q=>.nil (q.brw hd p)
 |v=>v
def JL(hd:Hd):Nat->List DV->List DV
 |_,[]=>[]
 |c,v::r=>dG hd [c] v::JL hd (c+1) r
def dL(hd:Hd):DV->DV
 |.agg cs=>.agg (JL hd 0 cs)
 |.tup vs=>if DV.ownL vs then .undef else .tup vs
 |v=>dG hd [0] v
def KT(x:Opnd)(st:DS):DV×DS:=match x with
 |.c v=>(JX v,st)
 |.t n=>(dL (.s n) (Bs st.sl n),st)
def NJ:Ql->Option Ql
 |.frz=>some .frz
 |.bor hd _ _=>some (.bor hd [] false)
 |.pre hd _=>some (.bor hd [] false)
 |_=>none
def Qc:List DV->List DV
 |[]=>[]
 |v::r=>(if v.own then .any else v)::Qc r
def F7(n:Option Nat)(cs:List DV):Option DV:=
 match n,cs with
 |some _,cs=>some (.agg cs)
 |none,[v]=>some v
 |none,_=>none
def Nw(d:Nat):Option DV->Option (PX×Nat)
 |none=>some (.tt,d)
 |some (.int _ i)=>some (.p (0<=i),iNat i)
 |some _=>none
def JH:List DV->List (Nat×Nat×Opnd)->DS->Option (List DV×DS)
 |cs,[],st=>some (cs,st)
 | cs,(off,size,x)::r,st=>
   if (Bp x st).1.cells.length == size&&Nat.ble (off+size) cs.length&&DR (Bp x st).1.cells then JH (LV cs off (Bp x st).1.cells) r (Bp x st).2 else none
abbrev DO:=Option (PX×DV)
def GK(v:DV):DO:=some (.tt,v)
def dI(k:IntKind)(n:Int):DO:=some (.tt,.int k n)
def dB(b:Bool):DO:=some (.tt,.bool (.dyn b))
def Xc(op:BinOp)(k:IntKind)(a b:Int):DO:=
 match op with
 |.add=>dI k (iAdd k a b)
 |.sub=>dI k (iSub k a b)
 |.mul=>dI k (iMul k a b)
 |.quo=>some (.p (b≠0),.int k (iQuo k a b))
 |.rem=>some (.p (b≠0),.int k (iRem a b))
 |.and=>dI k (iAnd k a b)
 |.or=>dI k (iOr k a b)
 |.xor=>dI k (iXor k a b)
 |.andNot=>dI k (iAndNot k a b)
 |.eql=>dB (iEq a b)
 |.neq=>dB (iNe a b)
 |.lss=>dB (iLt a b)
 |.leq=>dB (iLe a b)
 |.gtr=>dB (iGt a b)
 |.geq=>dB (iGe a b)
 |_=>none
def Xl(op:BinOp)(k:IntKind)(a b:Int):DO:=
 match op with
 |.shl=>some (.p (0<=b),.int k (iShl k a b))
 |.shr=>some (.p (0<=b),.int k (iShr k a b))
 |_=>none
def IntKind.same(k k':IntKind):Bool:=decide (k=k')
def Qk(op:BinOp)(x y:DV):DO:=
 match x,y with
 | .int k a,.int k' b=>(match op with
   |.shl=>Xl .shl k a b
   |.shr=>Xl .shr k a b
   |op=>if IntKind.same k k' then Xc op k a b else none)
 | .str a,.str b=>(match op with
   |.add=>some (.p (a.length+b.length<=9223372036854775807),.str (sAdd a b))
   |.eql=>dB (sEq a b)
   |.neq=>dB (sNe a b)
   |_=>none)
 |_,_=>none
def BX.not:BX->BX
 |.lit b=>.lit (!b)
 |.dyn b=>.dyn (bNot b)
def BX.eq:BX->BX->BX
 |.lit a,.lit b=>.lit (a == b)
 |.lit true,.dyn b=>.dyn b
 |.lit false,.dyn b=>.dyn (bNot b)
 |.dyn a,.lit true=>.dyn a
 |.dyn a,.lit false=>.dyn (bNot a)
 |.dyn a,.dyn b=>.dyn (bIff a b)
def Yj(neg:Bool):DV->DV->DO
 |.bool a,.bool b=>GK (.bool (if neg then (a.eq b).not else a.eq b))
 |_,_=>none
def dY(neg:Bool):DV->DO
 |.ifc a=>dB (if neg then bNot a else a)
 |_=>none
def LU:List DV->List DV->Option BX
 |[],[]=>some (.lit true)
 |.int k a::x,.int k' b::y=>if IntKind.same k k' then (match x,y with
  |[],[]=>some (.dyn (iEq a b))
  |x,y=>(LU x y).map λ t=>.dyn (bAnd (iEq a b) t.b)) else none
 |_,_=>none
def Yc(n:Nat)(neg:Bool):DV->DV->DO
 | .agg a,.agg b=>if a.length == n&&b.length == n then (match LU a b with
   |some t=>GK (.bool (if neg then t.not else t))
   |none=>none) else none
 |_,_=>none
def eE(op:UnOp)(x:DV):DO:=
 match op,x with
 |.not,.bool b=>GK (.bool b.not)
 |.neg,.int k n=>dI k (iNeg k n)
 |_,_=>none
def dJ(k:IntKind):DV->DO
 |.int _ n=>dI k (iConv k n)
 |_=>none
def od(_:DV):DO:=none
def oU(x:Opnd)(z:Bool)(q:Ql):Option Ql:=FH x (if z then 0 else 1) q
def cC(w:Nat)(x:Opnd)(lo hi:Option DV):DV->DO
 | .sl q r l=>(match Nw 0 lo,Nw (lN l) hi with
   | some (g,a),some (g',b)=>if r.w == w then (match oU x lo.isNone q with
     |some q'=>some ((g.land g').land (.p (a<=b/\b<=l.length/\0<l.length)),.sl q' r (lSub l a b))
     |none=>none) else none
   |_,_=>none)
 |_=>none
def mq(_ _:Option DV)(_:DV):DO:=none
def dx:DV->DO
 |.box i o=>GK (.box i o)
 |.ptr i o=>GK (.ptr i o)
 |.ep q r l j o=>GK (.ep q r l j o)
 |_=>none
def bK(off:Nat):DV->DO
 |.box i o=>GK (.box i (o+off))
 |.ptr i o=>GK (.ptr i (o+off))
 |.ep q r l j o=>GK (.ep q r l j (o+off))
 |_=>none
def de(off:Nat)(n:Option Nat)(x:Opnd):DV->DO
 | .agg cs=>(match x with
   |.t t=>if Nat.ble (off+n.getD 1) cs.length&&DV.okL (Ch cs off (n.getD 1)) then (F7 n (JL (.s t) off (Ch cs off (n.getD 1)))).map λ v=>(.tt,v) else none
   |.c _=>none)
 |_=>none
def R6(w:Nat)(x:Opnd):DV->DV->DO
 | .sl q r l,.int _ j=>if r.w == w then (match FL x q with
   |some q'=>some (.p (0<=j/\j<l.length),.ep q' r l (iNat j) 0)
   |none=>none) else none
 |.nil _,.int _ _=>none
 |_,_=>none
def nP(_ _:DV):DO:=none
def ed:DV->DO
 |.sl _ _ l=>dI .i64 (lLen l)
 |.nil _=>dI .i64 0
 |_=>none
def oG(_:DV):DO:=none
def eu:DV->DV->DO
 |.int .i64 a,.int .i64 b=>dI .i64 (iMin a b)
 |_,_=>none
def dZ:DV->DV->DO
 |.int .i64 a,.int .i64 b=>dI .i64 (iMax a b)
 |_,_=>none
abbrev Ez:=Option (PX×DV×DS)
def L9(m:Bool)(i:Nat)(n:Option Nat)(a:DV)(st:DS):Ez:=
 match a with
 | .box j o=>
   let cs:=Ch (BT (BO st.bx i)) o (n.getD 1)
   if i == j&&Nat.ble (o+n.getD 1) (BO st.bx i).length&&DV.okL cs then
    if m then (F7 n cs).map λ v=>(.tt,v,{ st with sl:=Dt (.b i) st.sl,bx:=Fa st.bx i (Jw (BO st.bx i) o (Qc cs)) })
    else (F7 n (JL (.b i) o cs)).map λ v=>(.tt,v,st)
   else none
 |_=>none
def KZ(m:Bool)(n:Option Nat)(a:DV)(st:DS):Ez:=
 match a with
 | .ptr i o=>
   let cs:=Ch (BT (BO st.hp i)) o (n.getD 1)
   if Nat.blt i st.hp.length&&Nat.ble (o+n.getD 1) (BO st.hp i).length&&DV.okL cs then
    if m then (F7 n cs).map λ v=>(.tt,v,{ st with sl:=Dt (.h i) st.sl,hp:=Fa st.hp i (Jw (BO st.hp i) o (Qc cs)) })
    else (F7 n (JL (.h i) o cs)).map λ v=>(.tt,v,st)
   else none
 | .ep q r l j o=>(match NJ q with
   |some q'=>if Nat.ble (o+n.getD 1) r.w then (F7 n (Ch (r.dv q' (lGet l j r.dflt)) o (n.getD 1))).map λ v=>(.p (j<l.length),v,st) else none
   |none=>none)
 |_=>none
def Sa(i n:Nat)(a x:Opnd)(st0:DS):Ez:=
 match Bp x st0 with
 | (v, st)=>match a.dev st0.sl with
   |.box j o=>if i == j&&Nat.blt i st.bx.length&&v.cells.length == n&&Nat.ble (o+n) (BO st.bx i).length&&DR v.cells then
    some (.tt,.undef,{ st with sl:=if (!DV.okL (Ch (BT (BO st.bx i)) o n))||DV.ownL (Ch (BT (BO st.bx i)) o n)||v.own then Dt (.b i) st.sl else st.sl,bx:=Fa st.bx i (Jw (BO st.bx i) o v.cells) }) else none
   |_=>none
def R8(n:Nat)(a x:Opnd)(st0:DS):Ez:=
 match Bp x st0 with
 | (v, st)=>match a.dev st.sl with
   |.ptr i o=>if Nat.blt i st.hp.length&&v.cells.length == n&&Nat.ble (o+n) (BO st.hp i).length&&DR v.cells then
    some (.tt,.undef,{ st with sl:=if (!DV.okL (Ch (BT (BO st.hp i)) o n))||DV.ownL (Ch (BT (BO st.hp i)) o n)||v.own then Dt (.h i) st.sl else st.sl,hp:=Fa st.hp i (Jw (BO st.hp i) o v.cells) }) else none
   | .ep (.bor hd [p] true) _ _ j o=>(match CG st hd [p] with
     | .sl .own r l=>if v.cells.length == n&&Nat.ble (o+n) r.w&&DR v.cells then (match r.of (LV (r.dv .own (lGet l j r.dflt)) o v.cells) with
       |some y=>some (.p (j<l.length),.undef,HR st (.sl .own r (lSet l j y)) hd [p])
       |none=>none) else none
     |_=>none)
   |_=>none
def Nr(_:Bool)(_:Option Nat)(_:DV)(_:DS):Option Ez:=none
def DV.nestX(i c:Nat):DV->Bool
 |.ep (.bor (.b i') [c'] true) _ _ _ _=>i == i'&&c == c'
 |_=>false
def DV.nest(_:DV):Option (Hd×Nat×Nat×Nat×Nat):=none
def bB(_:Nat)(_:Hd)(_ _ _ _:Nat)(_:DV)(_:DS):Ez:=none
inductive DSrc where
 |nil
 |sl (r:RT) (l:List r.D)
def DSrc.w:DSrc->Nat->Bool
 |.nil,_=>true
 |.sl r _,w=>r.w == w
def DSrc.to(r:RT):DSrc->Option (List r.D)
 |.nil=>some []
 |.sl _ l=>Mn l
def JW(w:Nat)(y:Opnd)(st:DS):Option (DSrc×DS):=
 match y.dev st.sl with
 |.str s=>if w == 1 then some (.sl (.one (.int .u8)) (sRow s),st) else none
 |.sl .own r l=>if r.w == w then some (.sl r l,(Bp y st).2) else none
 |.sl (.ownw _) _ _=>none
 |.sl _ r l=>if r.w == w&&r.flat then some (.sl r l,st) else none
 |.nil .own=>some (.nil,(Bp y st).2)
 |.nil _=>some (.nil,st)
 |_=>none
def Ms(w:Nat)(x:Opnd)(new:DSrc)(st:DS):Ez:=
 if !(Nat.blt 0 w&&new.w w) then none else
 match x.dev st.sl with
 | .nil .own=>(match new with
   |.nil=>some (.tt,.nil .own,(Bp x st).2)
   |.sl r l=>some (.p (Av (l.length*w)),.sl .own r l,(Bp x st).2))
 | .sl .own r l=>if r.w == w then (match new.to r with
   |some n=>some (.p (Av ((l.length+n.length)*w)),.sl .own r (lApp l n),(Bp x st).2)
   |none=>none) else none
 | .sl (.bor hd [c] true) r l=>(match CG st hd [c] with
   | .sl .own rh lh=>if rh.w == w then (match new.to rh with
     |some n=>some (.p (l.length=lh.length/\Av ((lh.length+n.length)*w)),.sl .own rh (lApp lh n),HR st .undef hd [c])
     |none=>none) else none
   |_=>none)
 | .nil (.bor hd [c] true)=>(match CG st hd [c] with
   | .nil .own=>(match new with
     |.nil=>some (.tt,.nil .own,HR st .undef hd [c])
     |.sl r l=>some (.p (Av (l.length*w)),.sl .own r l,HR st .undef hd [c]))
   |_=>none)
 | .sl (.pre hd [c]) r l=>(match CG st hd [c] with
   | .sl .own rh lh=>if rh.w == w then (match new.to rh with
     |some n=>some (.p (0<lh.length/\l.length<=lh.length/\0<l.length+n.length/\Av ((l.length+n.length)*w)),.sl .own rh (lApp (lTake lh (lN l)) n),HR st .undef hd [c])
     |none=>none) else none
   |_=>none)
 |_=>none
def Mj(w:Nat)(new:DSrc)(st:DS):Ez:=
 match new with
 |.nil=>some (.tt,.nil (.ownw w),st)
 |.sl r l=>some (.p (Av (l.length*w)),.sl (.ownw w) r l,st)
def S8(w:Nat)(x:Opnd)(new:DSrc)(st:DS):Ez:=
 if !(Nat.blt 0 w&&new.w w) then none else
 match x.dev st.sl with
 |.nil .own=>Mj w new (Bp x st).2
 |.nil (.ownw w')=>if w' == w then Mj w new (Bp x st).2 else none
 | .sl .own r l=>if r.w == w then (match new.to r with
   |some n=>some (.p (Av ((l.length+n.length)*w)),.sl (.ownw w) r (lApp l n),(Bp x st).2)
   |none=>none) else none
 | .sl (.ownw w') r l=>if w' == w&&r.w == w then (match new.to r with
   |some n=>some (.p (Av ((l.length+n.length)*w)),.sl (.ownw w) r (lApp l n),(Bp x st).2)
   |none=>none) else none
 | .sl (.pre hd [c]) r l=>(match CG st hd [c] with
   | .sl .own rh lh=>if rh.w == w then (match new.to rh with
     |some n=>some (.p (0<lh.length/\l.length<=lh.length/\Av ((l.length+n.length)*w)),.sl (.ownw w) rh (lApp (lTake lh (lN l)) n),HR st .undef hd [c])
     |none=>none) else none
   | .sl (.ownw w') rh lh=>if w' == w&&rh.w == w then (match new.to rh with
     |some n=>some (.p (0<lh.length/\l.length<=lh.length/\Av ((l.length+n.length)*w)),.sl (.ownw w) rh (lApp (lTake lh (lN l)) n),HR st .undef hd [c])
     |none=>none) else none
   |_=>none)
 |_=>none
def Tj(w:Nat):DV->Option DV
 |.nil .own=>some (.nil (.ownw w))
 |.nil (.ownw w')=>if w' == w then some (.nil (.ownw w)) else none
 |.sl .own r l=>if r.w == w then some (.sl (.ownw w) r l) else none
 |.sl (.ownw w') r l=>if w' == w then some (.sl (.ownw w) r l) else none
 |_=>none
def Ye:List (Nat×Nat)->List DV->Option (List DV)
 |[],l=>some l
 | (c,w)::r,l=>match Tj w (Hj l c) with
   |some v=>Ye r (Qn l c v)
   |none=>none
def NZ(ws:List (Nat×Nat)):DV->Option DV
 |.agg l=>(Ye ws l).map .agg
 | .nil q=>(match ws with
   |[(0,w)]=>Tj w (.nil q)
   |_=>none)
 | .sl q r l=>(match ws with
   |[(0,w)]=>Tj w (.sl q r l)
   |_=>none)
 |_=>none
def PJ(r:RT)(w:Nat):Nat->List DV->Option (List r.D)
 |0,_=>some []
 | n+1,cs=>(match r.of (cs.take w),PJ r w n (cs.drop w) with
   |some x,some l=>some (x::l)
   |_,_=>none)
def Hz:List V->Bool
 |[]=>true
 |v::r=>v.flat&&Hz r
def P8(o:AOp)(e:Opnd->DV):DO:=
 match o with
 |.nilck x=>dx (e x)
 |.bin op x y=>Qk op (e x) (e y)
 |.eqB neg x y=>Yj neg (e x) (e y)
 |.eqN neg x y=>(match y with|.c (.ifc true)=>dY neg (e x)|_=>none)
 |.eqA n neg x y=>Yc n neg (e x) (e y)
 |.un op x=>eE op (e x)
 |.conv k x=>dJ k (e x)
 |.bstr x=>od (e x)
 |.slice w x lo hi=>cC w x (lo.map e) (hi.map e) (e x)
 |.substr x lo hi=>mq (lo.map e) (hi.map e) (e x)
 |.fieldA off a=>bK off (e a)
 |.field off n x=>de off n x (e x)
 |.indexA w x i=>R6 w x (e x) (e i)
 |.index x i=>nP (e x) (e i)
 |.len x=>ed (e x)
 |.lenT x=>oG (e x)
 |.minI x y=>eu (e x) (e y)
 |.maxI x y=>dZ (e x) (e y)
 |_=>none
def Br (m:Bool)(o:AOp)(ty:Option RT)(st:DS):Ez:=
 let e (x:Opnd):=x.dev st.sl
 let known (r:DV×DS):Ez:=if r.1.ok then some (.tt,r.1,r.2) else none
 match o with
 |.mv x=>known (if m then KT x st else Bp x st)
 |.allocB i zs=>if Nat.blt i st.bx.length&&Hz zs then some (.tt,.box i 0,{ st with sl:=Dt (.b i) (RD i st.sl),bx:=Fa st.bx i (news (Hg zs)) }) else none
 | .boxB i n x=>(match Bp x st with
   |(v,st)=>if Nat.blt i st.bx.length&&v.cells.length == n&&DR v.cells then some (.tt,.box i 0,{ st with sl:=Dt (.b i) (RD i st.sl),bx:=Fa st.bx i (news v.cells) }) else none)
 |.allocH zs=>if Hz zs then some (.tt,.ptr st.hp.length 0,{ st with sl:=Dt (.h st.hp.length) st.sl,hp:=st.hp++[news (Hg zs)] }) else none
 | .boxH n x=>(match Bp x st with
   |(v,st)=>if v.cells.length == n&&DR v.cells then some (.tt,.ptr st.hp.length 0,{ st with sl:=Dt (.h st.hp.length) st.sl,hp:=st.hp++[news v.cells] }) else none)
 | .build zs ps=>if Hz zs then (match JH (Hg zs) ps st with
   |some (cs,st)=>some (.tt,.agg cs,st)
   |none=>none) else none
 | .mkSlice w z len=>(match e len with
   | .int .i64 n=>(match (match ty with|some r=>some r|none=>eC (Hg z)) with
     | some r=>(match r.of (Hg z) with
       |some d=>if z.length == w&&r.w == w&&Nat.blt 0 w&&Hz z then some (.p (0<=n/\Av (n.toNat*w)),.sl .own r (lRep n d),st) else none
       |none=>none)
     |none=>none)
   |_=>none)
 | .litSlice w n zs ps=>
   if n == 0 then some (.tt,(match ty with|some r=>.sl .own r []|none=>.nil .own),st)
   else if Hz zs&&zs.length == n*w&&Nat.blt 0 w then (match JH (Hg zs) ps st with
    | some (cs,st)=>(match (match ty with|some r=>some r|none=>eC (cs.take w)) with
      | some r=>if r.w == w then (match PJ r w n cs with
        |some l=>some (.tt,.sl .own r l,st)
        |none=>none) else none
      |none=>none)
    |none=>none)
   else none
 |.loadB i n a=>L9 m i n (e a) st
 | .loadH n a=>(match Nr m n (e a) st with
   |some r=>r
   |none=>KZ m n (e a) st)
 | .loadX i c n a=>if (e a).nestX i c then (match Nr m n (e a) st with
   |some r=>r
   |none=>none) else none
 |.storeB i n a x=>Sa i n a x st
 | .storeH n a x=>if (e a).ok then (match (e a).nest with
   |some (hd,p,k,j,o)=>bB n hd p k j o (e x) st
   |none=>R8 n a x st) else none
 | .app w x y=>(match JW w y st with
   |some (new,st)=>Ms w x new st
   |none=>none)
 | .appN w x y=>(match x.dev st.sl with
   | .nil .own=>(match JW w y st with
     |some (new,st)=>Ms w x new st
     |none=>none)
   |_=>none)
 | .extract x i=>(match x with
   | .t t=>(match Bs st.sl t with
     |.tup vs=>if Nat.blt i vs.length&&(Hj vs i).ok then (if (Hj vs i).own then (if (Hj vs i).bor (.s t) then none else some (.tt,Hj vs i,{ st with sl:=Dt (.s t) (DX st.sl t (.tup (Qn vs i .undef))) })) else some (.tt,Hj vs i,st)) else none
     |_=>none)
   |.c _=>none)
 |.pick ..=>none
 |.callB ..=>none
 |o=>(P8 o e).map λ r=>(r.1,r.2,st)
def Np(ws:List (Nat×Nat))(m:Bool)(o:AOp)(ty:Option RT)(st:DS):Ez:=
 match o with
 | .app w x y=>(match ws with
   | [(0,w')]=>if w' == w then (match JW w y st with
     |some (new,st)=>S8 w x new st
     |none=>none) else none
   |_=>none)
 | o => (match Br m o ty st with
   | some (g,v,st)=>(match NZ ws v with
     |some v=>some (g,v,st)
     |none=>none)
   |none=>none)
end
noncomputable section
def Ya(c:Bool):BX->BX->BX
 |.lit true,.lit true=>.lit true
 |.lit false,.lit false=>.lit false
 |.lit true,.lit false=>.dyn c
 |.lit false,.lit true=>.dyn (bNot c)
 |.lit true,.dyn y=>.dyn (bOr c y)
 |.lit false,.dyn y=>.dyn (bAnd (bNot c) y)
 |.dyn x,.lit true=>.dyn (bOr (bNot c) x)
 |.dyn x,.lit false=>.dyn (bAnd c x)
 |.dyn x,.dyn y=>.dyn (bSel c x y)
def Fk(q q':Ql):Bool:=decide (q=q')
mutual
def DD(c:Bool):DV->DV->DV
 |.undef,.undef=>.undef
 |.bool x,.bool y=>.bool (Ya c x y)
 |.int k x,.int k' y=>if IntKind.same k k' then .int k (bSel c x y) else .any
 |.str x,.str y=>.str (bSel c x y)
 |.ifc x,.ifc y=>.ifc (bSel c x y)
 |.nil q,.nil q'=>if Fk q q' then .nil q else .any
 |.nil q,.sl q' r l=>if Fk q q' then .sl q r (bSel c [] l) else .any
 |.sl q r l,.nil q'=>if Fk q q' then .sl q r (bSel c l []) else .any
 | .sl q r l,.sl q' r' l'=>if Fk q q' then (match Mn (r':=r') (r:=r) l' with
   |some l'=>.sl q r (bSel c l l')
   |none=>.any) else .any
 |.box i o,.box i' o'=>if i == i'&&o == o' then .box i o else .any
 |.ptr i o,.ptr i' o'=>if i == i'&&o == o' then .ptr i o else .any
 |.agg x,.agg y=>if x.length == y.length&&DV.okL (K4 c x y) then .agg (K4 c x y) else .any
 |.tup x,.tup y=>if x.length == y.length&&DV.okL (K4 c x y) then .tup (K4 c x y) else .any
 |_,_=>.any
def K4(c:Bool):List DV->List DV->List DV
 |x::a,y::b=>DD c x y::K4 c a b
 |_,_=>[]
end
def Yi(c:Bool)(x y:DC):DC:=if x.d||y.d then ⟨true,DD c x.v y.v⟩ else x
def SL(c:Bool):List DC->List DC->List DC
 |x::a,y::b=>Yi c x y::SL c a b
 |_,_=>[]
def S6(c:Bool):List (List DC)->List (List DC)->List (List DC)
 |x::a,y::b=>(if x.length == y.length then SL c x y else [])::S6 c a b
 |_,_=>[]
def NQ(c:Bool)(x y:DS):Option DS:=
 if x.sl.length == y.sl.length&&x.bx.length == y.bx.length&&x.hp.length == y.hp.length then some ⟨SL c x.sl y.sl,S6 c x.bx y.bx,S6 c x.hp y.hp⟩ else none
def Qj:List DC->List DC->List DC
 |x::a,y::b=>⟨x.d||y.d,y.v⟩::Qj a b
 |_,r=>r
def Ti:List (List DC)->List (List DC)->List (List DC)
 |x::a,y::b=>Qj x y::Ti a b
 |_,r=>r
def Mu(x y:DS):DS:=⟨Qj x.sl y.sl,Ti x.bx y.bx,Ti x.hp y.hp⟩
inductive DT where
 |leaf (e:AExit) (st:DS)
 |node (c:Bool) (a b:DT)
 |chk (g:PX) (t:DT)
 |bad
inductive NS where
 |none|some (st:DS)|fail
def DT.norm:DT->NS
 |.leaf .normal st=>.some st
 |.leaf _ _=>.none
 | .node c a b=>(match a.norm,b.norm with
   |.none,y=>y
   |x,.none=>x
   | .some x,.some y=>(match NQ c x y with
     |some z=>.some z
     |none=>.fail)
   |_,_=>.fail)
 |.chk _ t=>t.norm
 |.bad=>.none
def DT.nn:DT->Nat
 |.leaf .normal _=>1
 |.node _ a b=>a.nn+b.nn
 |.chk _ t=>t.nn
 |_=>0
def DT.cont:DT->Option BX
 |.leaf .normal _=>some (.lit true)
 |.leaf _ _=>some (.lit false)
 | .node c a b=>(match a.cont,b.cont with
   |none,y=>y
   |x,none=>x
   |some x,some y=>some (Ya c x y))
 |.chk _ t=>t.cont
 |.bad=>none
def DT.ok:DT->PX
 |.leaf _ _=>.tt
 |.node c a b=>PX.if' c a.ok b.ok
 |.chk g t=>g.land t.ok
 |.bad=>.ff
def DT.nodeB(c:Bool):DT->DT->DT
 |.bad,b=>b
 |a,.bad=>a
 |a,b=>.node c a b
def DT.drop:DT->DT
 |.leaf .normal _=>.bad
 |.leaf e st=>.leaf e st
 |.node c a b=>DT.nodeB c a.drop b.drop
 |.chk _ t=>t.drop
 |.bad=>.bad
def DT.map(f:DS->DS):DT->DT
 |.leaf e st=>.leaf e (f st)
 |.node c a b=>.node c (a.map f) (b.map f)
 |.chk g t=>.chk g (t.map f)
 |.bad=>.bad
def DT.bind(f:DS->DT)(h:DS->DS):DT->DT
 |.leaf .normal st=>f st
 |.leaf e st=>.leaf e (h st)
 |.node c a b=>.node c (a.bind f h) (b.bind f h)
 |.chk g t=>.chk g (t.bind f h)
 |.bad=>.bad
def DT.unexit(i:Nat):DT->DT
 |.leaf (.exit j) st=>if j == i then .leaf .normal st else .leaf (.exit j) st
 |.leaf e st=>.leaf e st
 |.node c a b=>.node c (a.unexit i) (b.unexit i)
 |.chk g t=>.chk g (t.unexit i)
 |.bad=>.bad
def DT.chk':PX->DT->DT
 |.tt,t=>t
 |g,t=>.chk g t
def DT.then(f:DS->DT)(h:DS->DS)(t:DT):DT:=
 if Nat.ble t.nn 1 then t.bind f h
 else match t.norm with
  | .some m=>DT.chk' t.ok (match t.cont with
    |some (.dyn c)=>.node c (f m) (t.drop.map h)
    |some (.lit true)=>f m
    |_=>.bad)
  |_=>t.bind f h
section
variable {X:Type}
inductive LoopTo (c:X->Bool) (f:X->X) (p:X->Prop):X->X->Prop
 |stop {x:X}:p x->c x=false->LoopTo c f p x x
 |go {x y:X}:p x->c x=true->LoopTo c f p (f x) y->LoopTo c f p x y
def LoopOk(c:X->Bool)(f:X->X)(p:X->Prop)(x:X):Prop:=∃ y,LoopTo c f p x y
open Classical in
def Am(c:X->Bool)(f:X->X)(x:X):X:=if h:∃ y,LoopTo c f (λ _=>True) x y then Classical.choose h else x
theorem LoopTo.fst{c:X->Bool}{f:X->X}{p q:X->Prop}{x y z:X}(h:LoopTo c f p x y)(h':LoopTo c f q x z):y=z:=by
 induction h with
 | stop _ h1=>
   cases h' with
   |stop=>rfl
   |go _ h2=>rw[h1] at h2;cases h2
 | go _ h1 _ ih=>
   cases h' with
   |stop _ h2=>rw[h1] at h2;cases h2
   |go _ _ h3=>exact ih h3
theorem LoopTo.mono{c:X->Bool}{f:X->X}{p q:X->Prop}(hp:∀ x,p x->q x){x y:X}(h:LoopTo c f p x y):LoopTo c f q x y:=by
 induction h with
 |stop h0 h1=>exact .stop (hp _ h0) h1
 |go h0 h1 _ ih=>exact .go (hp _ h0) h1 ih
theorem LoopTo.val{c:X->Bool}{f:X->X}{p:X->Prop}{x y:X}(h:LoopTo c f p x y):Am c f x=y:=by
 have h':∃ y,LoopTo c f (λ _=>True) x y:=⟨y,h.mono λ _ _=>trivial⟩;unfold Am;rw[dif_pos h'];exact(Classical.choose_spec h').fst h
theorem yj{c:X->Bool}{f:X->X}{x:X}(h:c x=false):Am c f x=x:=(LoopTo.stop (p:=λ _=>True) trivial h).val
theorem LoopOk.to{c:X->Bool}{f:X->X}{p:X->Prop}{x:X}(h:LoopOk c f p x):LoopTo c f p x (Am c f x):=by
 obtain⟨y,h⟩:=h;rw[h.val];exact h
end
inductive Pl where
 |s (i:Nat)|b (i c:Nat)|h (i c:Nat)
inductive HT where
 |one (q:Ql) (t:CT)|agg (l:List (Ql×CT))
structure Hole where
 pl:Pl
 t:HT
def AgX:List (Ql×CT)->Type
 |[]=>Unit
 |[a]=>a.2.D
 |a::r=>a.2.D×AgX r
def HT.D:HT->Type
 |.one _ t=>t.D
 |.agg l=>AgX l
def HV:List Hole->Type
 |[]=>Unit
 |[a]=>a.t.D
 |a::r=>a.t.D×HV r
def DS.at(st:DS):Pl->DV
 |.s i=>Bs st.sl i
 |.b i c=>Bs (BO st.bx i) c
 |.h i c=>Bs (BO st.hp i) c
def DS.wr(st:DS)(v:DV):Pl->DS
 |.s i=>{ st with sl:=DX st.sl i v }
 |.b i c=>{ st with bx:=Fa st.bx i (DX (BO st.bx i) c v) }
 |.h i c=>{ st with hp:=Fa st.hp i (DX (BO st.hp i) c v) }
def CT.ofQ(q:Ql):(t:CT)->DV->Option t.D
 |.int k,.int k' n=>if IntKind.same k k' then some n else none
 |.bool,.bool b=>some b.b
 |.str,.str s=>some s
 |.ifc,.ifc b=>some b
 |.sl r,.nil q'=>if Fk q q' then some ([]:List r.D) else none
 |.sl r,.sl q' r' l=>if Fk q q' then Mn (r':=r') (r:=r) l else none
 |_,_=>none
def Fg:(l:List (Ql×CT))->List DV->Option (AgX l)
 |[],[]=>some ()
 |[a],[v]=>a.2.ofQ a.1 v
 | a::b::r,v::vs=>(match a.2.ofQ a.1 v,Fg (b::r) vs with
   |some x,some y=>some (x,y)
   |_,_=>none)
 |_,_=>none
def Cc:(l:List (Ql×CT))->AgX l->List DV
 |[],_=>[]
 |[a],x=>[a.2.dv a.1 x]
 |a::b::r,x=>a.2.dv a.1 x.1::Cc (b::r) x.2
def HT.of:(h:HT)->DV->Option h.D
 |.one q t,v=>t.ofQ q v
 |.agg l,.agg vs=>Fg l vs
 |.agg _,_=>none
def HT.dv:(h:HT)->h.D->DV
 |.one q t,x=>t.dv q x
 |.agg l,x=>.agg (Cc l x)
def Mx(st:DS):(H:List Hole)->Option (HV H)
 |[]=>some ()
 |[a]=>a.t.of (st.at a.pl)
 | a::b::r=>(match a.t.of (st.at a.pl),Mx st (b::r) with
   |some x,some y=>some (x,y)
   |_,_=>none)
def wrX(st:DS):(H:List Hole)->HV H->DS
 |[],_=>st
 |[a],x=>st.wr (a.t.dv x) a.pl
 |a::b::r,x=>wrX (st.wr (a.t.dv x.1) a.pl) (b::r) x.2
def DV.same:DV->DV->Bool
 |.undef,.undef=>true
 |.nil q,.nil q'=>Fk q q'
 |.box i o,.box i' o'=>i == i'&&o == o'
 |.ptr i o,.ptr i' o'=>i == i'&&o == o'
 |_,_=>false
def DV.isAny:DV->Bool
 |.any=>true
 |_=>false
inductive Cls where
 |left|hole (t:HT)|kill
def oQ:DV->DV->Option (Ql×CT)
 |.int k _,.int k' _=>if IntKind.same k k' then some (.own,.int k) else none
 |.bool _,.bool _=>some (.own,.bool)
 |.str _,.str _=>some (.own,.str)
 |.ifc _,.ifc _=>some (.own,.ifc)
 |.nil q,.sl q' r _=>if Fk q q' then some (q,.sl r) else none
 |.sl q r _,.nil q'=>if Fk q q' then some (q,.sl r) else none
 |.sl q r _,.sl q' r' _=>if Fk q q'&&RT.beq r' r then some (q,.sl r) else none
 |_,_=>none
def oM:List DV->List DV->Option (List (Ql×CT))
 |[],[]=>some []
 | x::a,y::b=>(match oQ x y,oM a b with
   |some t,some l=>some (t::l)
   |_,_=>none)
 |_,_=>none
def oV(x:DV)(y:DC):Cls:=
 if y.d then (if x.isAny||x.same y.v then .left else match x,y.v with
  | .agg a,.agg b=>(match oM a b with
    |some l=>.hole (.agg l)
    |none=>.kill)
  | x,y=>(match oQ x y with
    |some t=>.hole (.one t.1 t.2)
    |none=>.kill)) else .left
def K7(pl:Nat->Pl):Nat->List DC->List DC->List Hole×List DC
 | n,x::a,y::b=>(match oV x.v y,K7 pl (n+1) a b with
   |.left,(H,l)=>(H,x::l)
   |.hole t,(H,l)=>(⟨pl n,t⟩::H,⟨true,.any⟩::l)
   |.kill,(H,l)=>(H,⟨true,.any⟩::l))
 |_,a,_=>([],a)
def NM(pl:Nat->Nat->Pl):Nat->List (List DC)->List (List DC)->List Hole×List (List DC)
 | n,x::a,y::b=>(match NM pl (n+1) a b with
   |(H,l)=>if x.length == y.length then (match K7 (pl n) 0 x y with|(H',x')=>(H'++H,x'::l)) else (H,[]::l))
 |_,a,_=>([],a)
def To(x y:DS):List Hole×DS:=
 match K7 .s 0 x.sl y.sl,NM .b 0 x.bx y.bx,NM .h 0 x.hp y.hp with
 |(H1,s),(H2,b),(H3,h)=>(H1++H2++H3,⟨s,b,h⟩)
def Tb:List DC->List DC->Bool
 |k::a,y::b=>(k.v.isAny||!y.d||k.v.same y.v)&&Tb a b
 |[],[]=>true
 |_,_=>false
def Tm:List (List DC)->List (List DC)->Bool
 |k::a,y::b=>(k.length == 0||Tb k y)&&Tm a b
 |[],[]=>true
 |_,_=>false
def eA(K y:DS):Bool:=Tb K.sl y.sl&&Tm K.bx y.bx&&Tm K.hp y.hp
def PB(K:DS):List Hole->Bool
 |[]=>true
 |a::r=>(K.at a.pl).isAny&&PB K r
def DV.top:DV->Bool
 |.sl (.bor _ _ t) _ _=>t
 |.sl (.pre _ _) _ _=>true
 |.nil (.bor _ _ t)=>t
 |.nil (.pre _ _)=>true
 |.ep (.bor _ _ t) _ _ _ _=>t
 |.ep (.pre _ _) _ _ _ _=>true
 |.agg _=>true
 |.tup _=>true
 |_=>false
mutual
def DV.hasTop:DV->Bool
 |.agg cs=>DV.hasTopL cs
 |.tup cs=>DV.hasTopL cs
 |v=>v.top
def DV.hasTopL:List DV->Bool
 |[]=>false
 |v::r=>v.hasTop||DV.hasTopL r
end
def XF (live:List Nat):Nat->List DC->List DC
 |_,[]=>[]
 |n,c::r=>(if live.contains n then (if c.v.hasTop then ⟨true,c.v.detop⟩ else c) else ⟨true,.any⟩)::XF live (n+1) r
def Ex(live:List Nat)(st:DS):DS:={ st with sl:=XF live 0 st.sl }
def X9(live:List Nat)(st:DS):DS:={ st with sl:=XS live 0 st.sl }
def SH(live:List Nat)(body:DS->DT)(A:DS):Nat->DS->Option (List Hole×DS)
 | 0,cur=>(match (body cur).norm with
   |.some m=>some (To A (Ex live m))
   |_=>none)
 | n + 1,cur=>(match (body cur).norm with
   | .some m=>(match To A (Ex live m) with
     | (H,K)=>(match Mx A H with
       |some x0=>SH live body A n (wrX K H x0)
       |none=>none))
   |_=>none)
def NS.isNone:NS->Bool
 |.none=>true
 |_=>false
section
variable (live:List Nat) (body:DS->DT) (K:DS) (H:List Hole)
def lT(x:HV H):DT:=body (wrX K H x)
def Qd(x:HV H):Bool:=match (lT body K H x).cont with|some b=>b.b|none=>false
def P7(x:HV H):HV H:=match (lT body K H x).norm with
 |.some m=>(match Mx (Ex live m) H with|some y=>y|none=>x)
 |_=>x
def oz(x:HV H):PX:=(lT body K H x).ok.land (match (lT body K H x).norm with
 |.some m=>if eA K (Ex live m)&&(Mx (Ex live m) H).isSome then .tt else .ff
 |.none=>.tt
 |.fail=>.ff)
end
def P9 (live:List Nat)(n:Nat)(body:DS->DT)(st:DS):DT:=
 if (body (Ex live st)).norm.isNone then (body (Ex live st)).map (Mu (Ex live st))
 else match SH live body (Ex live st) n (Ex live st) with
 |none=>.bad
 | some (H,K)=>(match Mx (Ex live st) H with
   |none=>.bad
   | some x0=>if PB K H then
      .chk (.p (LoopOk (Qd body K H) (P7 live body K H) (λ x=>(oz live body K H x).den) x0))
       ((lT body K H (Am (Qd body K H) (P7 live body K H) x0)).drop.map (Mu (wrX K H (Am (Qd body K H) (P7 live body K H) x0))))
     else .bad)
abbrev Mp:=List DV->Option (PX×DV)
abbrev CL:=List DV->List (List DV)->Option (PX×DV×List (List DV))
structure DMk where
 r:RT
 agg:Bool
 ok:r.D->Prop
 g:r.D->Int->r.D×Int
 vd:Bool
def DMk.P(M:DMk):PMk:=⟨M.agg,λ AB m K=>∃ x,AB=M.r.enc x/\M.ok x/\K (M.r.enc (M.g x m).1) (M.g x m).2,M.vd⟩
inductive DOp where
 |a (m:Bool) (o:AOp) (ty:Option RT)
 |aw (ws:List (Nat×Nat)) (m:Bool) (o:AOp) (ty:Option RT)
 |call (m:Bool) (f:Be) (p:Cb) (D:Mp) (args:List Opnd)
 |mark (f:Be) (M:DMk) (x k:Opnd)
 |callp (m:Bool) (f:Be) (p:Cb) (D:CL) (args:List Opnd)
 |callv (m:Bool) (f:Be) (p:Cb) (D:CL) (args:List Opnd) (i c:Nat)
 |fz (x:Opnd)
 |clm (a:Opnd) (t:Nat) (o:AOp)
 |fzb (a:Opnd) (o:AOp)
structure DOper where
 id:Nat
 dst:Option Nat
 op:DOp
 guard:Option (Nat×Bool)
 anc:List Nat
inductive DCode where
 |skip
 |region (ops:List DOper)
 |regionU (ops:List DOper)
 |seq (l:List Nat) (a b:DCode)
 |cond (c:Opnd) (a b:DCode)
 |block (id:Nat) (a:DCode)
 |scope (a:DCode)
 |loop (live:List Nat) (n:Nat) (a:DCode)
 |exit (id:Nat)
 |ret
def DOp.er:DOp->POp
 |.a m o _=>.a m o
 |.aw ws m o _=>.aw ws m o
 |.call m f p _ args=>.callk m f p args
 |.mark f M x k=>.mark f M.P x k
 |.callp m f p _ args=>.call m f p args
 |.callv m f p _ args i c=>.callv m f p args i c
 |.fz x=>.fz x
 |.clm x t o=>.clm x t o
 |.fzb x o=>.fzb x o
def DOper.er(o:DOper):POper:=⟨o.id,o.dst,o.op.er,o.guard,o.anc⟩
def DCode.er:DCode->PCode
 |.skip=>.skip
 |.region ops=>.region (ops.map DOper.er)
 |.regionU ops=>.regionU (ops.map DOper.er)
 |.seq l a b=>.seq l a.er b.er
 |.cond c a b=>.cond c a.er b.er
 |.block i a=>.block i a.er
 |.scope a=>.scope a.er
 |.loop l _ a=>.loop l a.er
 |.exit i=>.exit i
 |.ret=>.ret
@[reducible] def oa (i d:Nat) (o:AOp):DOper:=⟨i,some d,.a false o none,none,[]⟩
@[reducible] def ob (i d:Nat) (o:AOp):DOper:=⟨i,some d,.a true o none,none,[]⟩
@[reducible] def om (i d t:Nat):DOper:=⟨i,some d,.a false (.mv (.t t)) none,none,[]⟩
@[reducible] def on (i d t:Nat):DOper:=⟨i,some d,.a true (.mv (.t t)) none,none,[]⟩
@[reducible] def oi (i d:Nat) (n:Int):DOper:=⟨i,some d,.a false (.mv (.c (.int .i64 n))) none,none,[]⟩
@[reducible] def os (i:Nat) (o:AOp):DOper:=⟨i,none,.a false o none,none,[]⟩
@[reducible] def og (i d:Nat) (o:AOp) (g:Nat) (b:Bool):DOper:=⟨i,some d,.a false o none,some (g,b),[]⟩
@[reducible] def xA (i d:Nat) (o:AOp) (a:List Nat):DOper:=⟨i,some d,.a false o none,none,a⟩
@[reducible] def xB (i d:Nat) (o:AOp) (a:List Nat):DOper:=⟨i,some d,.a true o none,none,a⟩
@[reducible] def xS (i:Nat) (o:AOp) (a:List Nat):DOper:=⟨i,none,.a false o none,none,a⟩
@[reducible] def op (i d:Nat) (f:Be) (p:Cb) (D:CL) (args:List Opnd):DOper:=⟨i,some d,.callp false f p D args,none,[]⟩
@[reducible] def xP (i d:Nat) (f:Be) (p:Cb) (D:CL) (args:List Opnd) (a:List Nat):DOper:=⟨i,some d,.callp false f p D args,none,a⟩
def nG:Nat->Nat->List Nat
 |_,0=>[]
 |k,n+1=>k::nG (k+1) n
def rg(n:Nat):List Nat:=nG 0 n
def E7:List Opnd->DS->DS
 |[],st=>st
 |x::r,st=>E7 r (Fz x st).2
def FK(s:List DC):List Opnd->List DV
 |[]=>[]
 |x::r=>x.dev s::FK s r
def ND(D:Mp)(args:List Opnd)(st:DS):Ez:=
 let as:=FK st.sl args
 if ID as&&!(DV.hasPtrL as) then (match D (DV.nrmV (DV.fzL as)) with
  |some (g,v)=>if v.ok&&!v.hasPtr&&(v.deep||!(DV.holdL as)) then some (g,v,st) else none
  |none=>none)
 else none
def Ql.isH':Ql->Bool
 |.bor (.h _) _ _=>true
 |.pre (.h _) _=>true
 |_=>false
mutual
def DV.isH:DV->Bool
 |.nil q=>q.isH'
 |.sl q _ _=>q.isH'
 |.ep q _ _ _ _=>q.isH'
 |.agg cs=>DV.isHL cs
 |.tup vs=>DV.isHL vs
 |_=>false
def DV.isHL:List DV->Bool
 |[]=>false
 |v::r=>v.isH||DV.isHL r
end
def SP:List DC->List DC
 |[]=>[]
 |c::r=>(if c.v.isH then ⟨true,.any⟩ else c)::SP r
def HO:List (List DC)->List (List DV)
 |[]=>[]
 |b::r=>BT b::HO r
def newsB:List (List DV)->List (List DC)
 |[]=>[]
 |b::r=>news b::newsB r
def NK:List DC->List DV->List DC
 |[],vs=>news vs
 |c::r,[]=>c::r
 |c::r,v::vs=>(if v.isAny then c else ⟨true,v⟩)::NK r vs
def NV:List (List DC)->List (List DV)->List (List DC)
 |[],vs=>newsB vs
 |c::r,[]=>c::r
 |c::r,v::vs=>NK c v::NV r vs
def D9:List DV->List DV->List DV
 |[],vs=>vs
 |c::r,[]=>c::r
 |c::r,v::vs=>(if v.isAny then c else v)::D9 r vs
def IV:List (List DV)->List (List DV)->List (List DV)
 |[],vs=>vs
 |c::r,[]=>c::r
 |c::r,v::vs=>D9 c v::IV r vs
def Yo:List (List DV)->Bool
 |[]=>true
 |b::r=>Nat.blt 0 b.length&&DV.okL b&&Yo r
def GG:List (List DV)->List (List PV)
 |[]=>[]
 |b::r=>DV.encL b::GG r
def DV.isP0:DV->Bool
 |.ptr 0 0=>true
 |_=>false
def KX(D:CL)(args:List Opnd)(st:DS):Ez:=
 let as:=FK st.sl args
 if ID as&&!(DV.holdL as)&&Yo (HO st.hp) then
  (if DV.hasPtrL as then (match D (DV.nrmV (DV.fzL as)) (HO st.hp) with
   |some (g,v,H)=>if v.ok&&!v.hasPtr then some (g,v,{ st with sl:=SP st.sl,hp:=NV st.hp H }) else none
   |none=>none)
  else if st.hp.length == 0 then (match D (DV.nrmV (DV.fzL as)) [] with
   |some (g,v,H)=>if v.isP0 then some (g,v,{ st with hp:=newsB H }) else none
   |none=>none)
  else none)
 else none
def DV.ownS:DV->Bool
 |.sl .own _ _|.nil .own=>true
 |_=>false
def Sl(i c:Nat)(D:CL)(args:List Opnd)(st:DS):Ez:=
 if DV.hasPtrL (FK st.sl args)&&(CG st (.b i) [c]).ownS then KX D args st else none
def DV.isAgg:DV->Bool
 |.agg _=>true
 |_=>false
def DV.flatc:DV->Bool
 |.bool _|.int _ _|.str _|.ifc _=>true
 |_=>false
def X7:Nat->List DV->Option (Hd×Nat)
 |_,[]=>none
 |c,.sl (.bor hd [p] true) _ _::_=>if Nat.ble c p&&hd.sb then some (hd,p-c) else none
 |c,.nil (.bor hd [p] true)::_=>if Nat.ble c p&&hd.sb then some (hd,p-c) else none
 |c,_::r=>X7 (c+1) r
def FN(st:DS)(hd:Hd):Nat->List DV->Option (PX×List DV)
 |_,[]=>some (.tt,[])
 |c,.sl q _ l::vs=>if Fk q (.bor hd [c] true) then (match CG st hd [c],FN st hd (c+1) vs with
  |.sl .own r' l',some (g,os)=>some (PX.land (.p (l.length=l'.length)) g,.sl .own r' l'::os)
  |.nil .own,some (g,os)=>some (PX.land (.p (l.length=0)) g,.nil .own::os)
  |_,_=>none) else none
 |c,.nil q::vs=>if Fk q (.bor hd [c] true) then (match CG st hd [c],FN st hd (c+1) vs with
  |.sl .own r' l',some (g,os)=>some (PX.land (.p (l'.length=0)) g,.sl .own r' l'::os)
  |.nil .own,some (g,os)=>some (g,.nil .own::os)
  |_,_=>none) else none
 |c,v::vs=>if v.flatc then (match FN st hd (c+1) vs with
  |some (g,os)=>some (g,v::os)
  |none=>none) else none
def I0(hd:Hd):Nat->List DV->DS->Option DS
 |_,[],st=>some st
 | c,.sl q r l::vs,st=>(match CG st hd [c] with
   |.sl .own _ _=>I0 hd (c+1) vs (HR st (.sl q r l) hd [c])
   |.nil .own=>I0 hd (c+1) vs (HR st (.sl q r l) hd [c])
   |_=>none)
 |_,.nil _::_,_=>none
 |c,_::vs,st=>I0 hd (c+1) vs st
def NC (M:DMk)(x k:Opnd)(st:DS):Ez:=
 match k.dev st.sl with
 | .int .i64 m=>if (x.dev st.sl).isAgg == M.agg&&(x.dev st.sl).argok&&M.r.pl then (match X7 0 (x.dev st.sl).cells with
   | some (hd,b)=>(match FN st hd b (x.dev st.sl).cells with
     | some (g,os)=>(match M.r.of os with
       | some y=>(match I0 hd b (M.r.dv .own (M.g y m).1) st with
         |some st'=>some (g.land (.p (M.ok y)),(match M.vd with|true=>.undef|false=>.int .i64 (M.g y m).2),st')
         |none=>none)
       |none=>none)
     |none=>none)
   |none=>none) else none
 |_=>none
def Ns(a:DV)(n:Nat)(st:DS):Ez:=
 match a with
 |.box i o=>L9 true i (some n) (.box i o) st
 |.ptr i o=>KZ true (some n) (.ptr i o) st
 |_=>none
def DV.hld:DV->Option (Hd×Nat)
 |.box i o=>some (.b i,o)
 |.ptr i o=>some (.h i,o)
 |_=>none
def oN(c:DC):DC:=
 match c.v with
 |.sl .frz _ _=>c
 |.nil .frz=>c
 |.sl _ _ _=>⟨true,c.v.fz⟩
 |.nil _=>⟨true,c.v.fz⟩
 |.any=>c
 |.undef=>c
 |.int _ _=>c
 |.bool _=>c
 |.str _=>c
 |.ifc _=>c
 |_=>⟨true,c.v.fz⟩
def Qm:List DC->List DC
 |[]=>[]
 |c::r=>oN c::Qm r
def NT(a:DV)(st:DS):Option DS:=
 match a with
 |.box i _=>some { st with sl:=Dt (.b i) st.sl,bx:=Fa st.bx i (Qm (BO st.bx i)) }
 |.ptr i _=>some { st with sl:=Dt (.h i) st.sl,hp:=Fa st.hp i (Qm (BO st.hp i)) }
 |_=>none
def NR(a:Opnd)(t:Nat)(st:DS):Option (PX×DS):=
 match (a.dev st.sl).hld,Bs st.sl t with
 | some (hd,b),.agg cs=>(match FN st hd b cs with
   | some (g,os)=>(match Ns (a.dev st.sl) os.length st with
     |some (g2,_,st1)=>some (g.land g2,st1.put (some t) (.agg os))
     |none=>none)
   |none=>none)
 |_,_=>none
def Cx(o:DOp)(d:Option Nat)(k:DS->DT)(st:DS):DT:=
 match o with
 | .call m _ _ D args=>(match ND D args (if m then E7 args st else st) with
   |some (g,v,st)=>DT.chk' g (k (st.put d v))
   |none=>.bad)
 | .callp m _ _ D args=>(match KX D args (if m then E7 args st else st) with
   |some (g,v,st)=>DT.chk' g (k (st.put d v))
   |none=>.bad)
 |.fz x=>if (Fz x st).1.ok then k ((Fz x st).2.put d (Fz x st).1.nrm) else .bad
 | .fzb a o=>(match NT (a.dev st.sl) st with
   | some st=>(match Br false o none st with
     |some (g,v,st)=>DT.chk' g (k (st.put d v))
     |none=>.bad)
   |none=>.bad)
 | .clm a t o=>(match NR a t st with
   | some (g0,st)=>(match Br false o none st with
     |some (g,v,st)=>DT.chk' (g0.land g) (k (st.put d v))
     |none=>.bad)
   |none=>.bad)
 | .callv m _ _ D args i c=>(match Sl i c D args (if m then E7 args st else st) with
   |some (g,v,st)=>DT.chk' g (k (st.put d v))
   |none=>.bad)
 | .aw ws m o ty=>(match Np ws m o ty st with
   |some (g,v,st)=>DT.chk' g (k (st.put d v))
   |none=>.bad)
 | .mark _ M x y=>(match NC M x y st with
   |some (g,v,st)=>DT.chk' g (k (st.put d v))
   |none=>.bad)
 | .a m o ty=>(match o with
   | .pick c a b=>(match c.dev st.sl with
     | .bool (.lit t)=>(match if t then Bp a st else Bp b st with
       |(v,st)=>if v.ok then k (st.put d v) else .bad)
     | .bool (.dyn t)=>
       if (a.dev st.sl).own||(b.dev st.sl).own||!(DD t (a.dev st.sl) (b.dev st.sl)).ok then .node t (match Bp a st with|(v,st)=>if v.ok then k (st.put d v) else .bad) (match Bp b st with|(v,st)=>if v.ok then k (st.put d v) else .bad)
       else k (st.put d (DD t (a.dev st.sl) (b.dev st.sl)))
     |_=>.bad)
   | o=>(match Br m o ty st with
     |some (g,v,st)=>DT.chk' g (k (st.put d v))
     |none=>.bad))
def NI(st:DS)(g:Nat)(b:Bool):DS:={ st with sl:=DX st.sl g (.bool (.lit b)) }
def Qf(o:DOper)(k:DS->DT)(st:DS):DT:=
 match o.guard with
 |none=>Cx o.op o.dst k st
 | some (g,want)=>(match Bs st.sl g with
   |.bool (.lit b)=>if b == want then Cx o.op o.dst k st else k (st.put o.dst (.tup []))
   |.bool (.dyn b)=>.node b (if want then Cx o.op o.dst k (NI st g true) else k ((NI st g true).put o.dst (.tup []))) (if want then k ((NI st g false).put o.dst (.tup [])) else Cx o.op o.dst k (NI st g false))
   |.tup []=>k (st.put o.dst (.tup []))
   |_=>.bad)
def JQ:List DOper->DS->DT
 |[],st=>.leaf .normal st
 |o::r,st=>Qf o (JQ r) st
def setc(st:DS)(c:Opnd)(b:Bool):DS:=match c with
 |.t g=>NI st g b
 |.c _=>st
mutual
def DV.pge(n:Nat):DV->Bool
 |.ptr i _=>Nat.ble n i
 |.agg cs=>DV.pgeL n cs
 |.tup vs=>DV.pgeL n vs
 |_=>false
def DV.pgeL(n:Nat):List DV->Bool
 |[]=>false
 |v::r=>v.pge n||DV.pgeL n r
end
def X6(n:Nat):List DC->List DC
 |[]=>[]
 |c::r=>(if c.v.isH||c.v.pge n then ⟨true,.any⟩ else c)::X6 n r
def DS.trunc(n:Nat)(st:DS):DS:={ st with sl:=X6 n st.sl,hp:=st.hp.take n }
def dev:DCode->DS->DT
 |.skip,st=>.leaf .normal st
 |.region ops,st=>JQ ops st
 |.regionU ops,st=>if SQ (ops.map DOper.er) then JQ ops st else .bad
 |.seq l a b,st=>(dev a st.clean).then (λ st'=>dev b (Mu st (X9 l st'))) (Mu st)
 | .cond c a b,st=>(match c.dev st.sl with
   |.bool (.lit t)=>if t then dev a st else dev b st
   |.bool (.dyn t)=>.node t (dev a (setc st c true)) (dev b (setc st c false))
   |_=>.bad)
 |.block i a,st=>(dev a st).unexit i
 |.scope a,st=>(dev a st).map (DS.trunc st.hp.length)
 |.loop live n a,st=>P9 live n (λ st=>dev a st.clean) st
 |.exit i,st=>.leaf (.exit i) st
 |.ret,st=>.leaf .ret st
structure DFun where
 nparams:Nat
 nslots:Nat
 nbox:Nat
 pure:Bool
 res:List ARes
 body:DCode
def DFun.er(f:DFun):PFun:=⟨f.nparams,f.nslots,f.nbox,f.pure,f.res,f.body.er⟩
def KV(st:DS):ARes->Option (DV×DS)
 |.tmp t=>if (Bs st.sl t).retok&&(Bs st.sl t).ok then some (Th (Bs st.sl t) t st) else none
 | .cell t n=>(match Bs st.sl t with
   |.box i o=>if Nat.ble (o+n.getD 1) (BO st.bx i).length&&JO (Ch (BT (BO st.bx i)) o (n.getD 1)) then (L9 true i n (.box i o) st).map (·.2) else none
   |.ptr i o=>if Nat.ble (o+n.getD 1) (BO st.hp i).length&&JO (Ch (BT (BO st.hp i)) o (n.getD 1)) then (KZ true n (.ptr i o) st).map (·.2) else none
   |_=>none)
def Iz(st:DS):List ARes->Option (List DV×DS)
 |[]=>some ([],st)
 | r :: rs=>(match KV st r with
   | some (v,st)=>(match Iz st rs with
     |some (vs,st)=>some (v::vs,st)
     |none=>none)
   |none=>none)
def Hb(st:DS):List ARes->Option DV
 |[r]=>(KV st r).map (·.1)
 |rs=>(Iz st rs).map λ x=>.tup x.1
def DT.val(res:List ARes):DT->PX×Option DV
 |.leaf (.exit _) _=>(.ff,none)
 | .leaf _ st=>(match Hb st res with
   |some v=>if v.ok&&!v.hasPtr then (.tt,some v) else (.ff,none)
   |none=>(.ff,none))
 | .node c a b=>(match a.val res,b.val res with
   |(g,none),(g',y)=>(PX.if' c g g',y)
   |(g,x),(g',none)=>(PX.if' c g g',x)
   |(g,some x),(g',some y)=>(PX.if' c g g',some (DD c x y)))
 | .chk g t=>(match t.val res with
   |(g',v)=>(g.land g',v))
 |.bad=>(.ff,none)
def FD(n:Nat):List DC:=match n with
 |0=>[]
 |n+1=>⟨true,.any⟩::FD n
def Fy:Nat->List (List DC)
 |0=>[]
 |n+1=>[]::Fy n
def Tf(f:DFun)(args:List DV):PX×Option DV:=
 (dev f.body ⟨news args++FD (f.nslots-f.nparams),Fy f.nbox,[]⟩).val f.res
end
def EC(c:DC)(p:PV):Prop:=c.v= .any\/p=c.v.enc
def EL:List DC->List PV->Prop
 |[],[]=>True
 |c::a,p::b=>EC c p/\EL a b
 |_,_=>False
def EBx(b:List DC)(p:List PV):Prop:=b=[]\/EL b p
def EB:List (List DC)->List (List PV)->Prop
 |[],[]=>True
 |c::a,p::b=>EBx c p/\EB a b
 |_,_=>False
structure ES (d:DS) (s:PS):Prop where
 sl:EL d.sl s.sl
 bx:EB d.bx s.bx
 hp:EB d.hp s.hp
theorem EL.len:∀ {a:List DC} {b:List PV},EL a b->a.length=b.length
 |[],[],_=>rfl
 |_::_,_::_,h=>by simp only[AH,EL.len h.2]
theorem EB.len:∀ {a:List (List DC)} {b:List (List PV)},EB a b->a.length=b.length
 |[],[],_=>rfl
 |_::_,_::_,h=>by simp only[AH,EB.len h.2]
def EV(v:DV)(p:PV):Prop:=v= .any\/p=v.enc
theorem EL.get:∀ {a:List DC} {b:List PV} (n:Nat),EL a b->EV (Bs a n) (Aa b n)
 |[],[],_,_=>.inl rfl
 |_::_,_::_,0,h=>h.1
 |_::_,_::_,n+1,h=>EL.get n h.2
theorem EL.put:∀ {a:List DC} {b:List PV} {v:DV} {p:PV} (n:Nat),EL a b->EV v p->EL (DX a n v) (B1 b n p)
 |[],[],_,_,_,_,_=>trivial
 |_::_,_::_,_,_,0,h,hv=>⟨hv,h.2⟩
 |_::_,_::_,_,_,n+1,h,hv=>⟨h.1,EL.put n h.2 hv⟩
theorem EB.get:∀ {a:List (List DC)} {b:List (List PV)} (n:Nat),EB a b->EBx (BO a n) (Aj b n)
 |[],[],_,_=>.inl rfl
 |_::_,_::_,0,h=>h.1
 |_::_,_::_,n+1,h=>EB.get n h.2
theorem EB.put:∀ {a:List (List DC)} {b:List (List PV)} {v:List DC} {p:List PV} (n:Nat),EB a b->EBx v p->EB (Fa a n v) (B0 b n p)
 |[],[],_,_,_,_,_=>trivial
 |_::_,_::_,_,_,0,h,hv=>⟨hv,h.2⟩
 |_::_,_::_,_,_,n+1,h,hv=>⟨h.1,EB.put n h.2 hv⟩
theorem E3:∀ (l:List DV),(DV.encL l).length=l.length
 |[]=>rfl
 |_::r=>by simp only[DV.encL,AH,E3 r]
theorem EL.splice:∀ {a:List DC} {b:List PV} (n:Nat) (vs:List DV),EL a b->EL (Jw a n vs) (AM b n (DV.encL vs))
 |[],[],_,[],_=>trivial
 |[],[],_,_::_,_=>trivial
 |_::_,_::_,0,[],h=>h
 |_::_,_::_,_+1,[],h=>h
 |_::_,_::_,0,v::vs,h=>⟨.inr rfl,EL.splice 0 vs h.2⟩
 |_::_,_::_,n+1,v::vs,h=>⟨h.1,EL.splice n (v::vs) h.2⟩
theorem VY:∀ (cs:List DV) (n:Nat) (vs:List DV),DV.encL (LV cs n vs)=AM (DV.encL cs) n (DV.encL vs)
 |[],_,[]=>rfl
 |_::_,0,[]=>rfl
 |_::_,_+1,[]=>rfl
 |[],0,_::_=>rfl
 |[],_+1,_::_=>rfl
 |_::r,0,v::vs=>by simp only[LV,DV.encL,AM,VY r 0 vs]
 |c::r,n+1,v::vs=>by simp only[LV,DV.encL,AM,VY r n (v::vs)]
theorem Wh:∀ (cs:List DV) (o n:Nat),DV.encL (Ch cs o n)=segm (DV.encL cs) o n
 |[],0,0=>rfl
 |[],0,_+1=>rfl
 |[],_+1,_=>rfl
 |_::_,0,0=>rfl
 |c::r,0,n+1=>by simp only[Ch,DV.encL,segm,Wh r 0 n]
 | _::r,o+1,n=>by
   simp only[Ch,DV.encL,segm];exact Wh r o n
theorem Px:∀ (cs:List DV) (n:Nat),(Hj cs n).enc=Aa (DV.encL cs) n
 |[],_=>rfl
 |_::_,0=>rfl
 |_::r,n+1=>Px r n
theorem WJ:∀ (cs:List DV) (n:Nat) (v:DV),DV.encL (Qn cs n v)=B1 (DV.encL cs) n v.enc
 |[],_,_=>rfl
 |_::_,0,_=>rfl
 |_::r,n+1,v=>by simp only[Qn,DV.encL,B1,WJ r n v]
theorem EL.segm:∀ {a:List DC} {b:List PV} (o n:Nat),EL a b->DV.okL (Ch (BT a) o n)=true->Go.Ag.segm b o n=DV.encL (Ch (BT a) o n)
 |[],[],0,0,_,_=>rfl
 |[],[],0,_+1,_,_=>rfl
 |[],[],_+1,_,_,_=>rfl
 |_::_,_::_,0,0,_,_=>rfl
 | c::r,p::s,0,n+1,h,hk=>by
   simp only[BT,Ch,DV.okL,Ah] at hk
   simp only[BT,Ch,Go.Ag.segm,DV.encL]
   rw[EL.segm 0 n h.2 hk.2]
   rcases h.1 with h1|h1
   . rw[h1] at hk;cases hk.1
   . rw[h1]
 | _::r,_::s,o+1,n,h,hk=>by
   simp only[BT,Ch,Go.Ag.segm] at hk ⊢
   exact EL.segm o n h.2 hk
theorem RP:∀ (a:List DC),(BT a).length=a.length
 |[]=>rfl
 |_::r=>by simp only[BT,AH,RP r]
theorem EL.news:∀ (vs:List DV),EL (Go.Ag.news vs) (DV.encL vs)
 |[]=>trivial
 |_::r=>⟨.inr rfl,EL.news r⟩
theorem ml(q:Ql)(es:List (List PV)):(PV.sl q es).own=q.own':=by cases q<;>rfl
theorem my(q:Ql)(hd:Hd)(es:List (List PV)):(PV.sl q es).bor hd=q.bor' hd:=by cases q<;>rfl
theorem ZaX(q:Ql)(hd:Hd)(es:List (List PV))(j o:Nat):(PV.ep q es j o).bor hd=q.bor' hd:=by cases q<;>rfl
mutual
theorem Jy:∀ (v:DV),v.enc.own=v.own
 |.any|.undef|.bool _|.int _ _|.str _|.ifc _|.box _ _|.ptr _ _=>rfl
 |.nil q=>ml q []
 |.sl q _ _=>ml q _
 |.ep q _ _ _ _=>by cases q<;>rfl
 |.agg cs=>Pq cs
 |.tup vs=>Pq vs
theorem Pq:∀ (l:List DV),PV.ownL (DV.encL l)=DV.ownL l
 |[]=>rfl
 |v::r=>by simp only[DV.encL,PV.ownL,DV.ownL,Jy v,Pq r]
end
mutual
theorem W5(hd:Hd):∀ (v:DV),v.enc.bor hd=v.bor hd
 |.any|.undef|.bool _|.int _ _|.str _|.ifc _|.box _ _|.ptr _ _=>rfl
 |.nil q=>my q hd []
 |.sl q _ _=>my q hd _
 |.ep q _ _ _ _=>ZaX q hd _ _ _
 |.agg cs=>aJ hd cs
 |.tup vs=>aJ hd vs
theorem aJ(hd:Hd):∀ (l:List DV),PV.borL hd (DV.encL l)=DV.borL hd l
 |[]=>rfl
 |v::r=>by simp only[DV.encL,PV.borL,DV.borL,W5 hd v,aJ hd r]
end
mutual
theorem Zat:∀ (v:DV),v.enc.hold=v.hold
 |.any|.undef|.bool _|.int _ _|.str _|.ifc _|.box _ _|.ptr _ _=>rfl
 |.nil q=>by cases q<;>rfl
 |.sl q _ _=>by cases q<;>rfl
 |.ep q _ _ _ _=>by cases q<;>rfl
 |.agg cs=>RI cs
 |.tup vs=>RI vs
theorem RI:∀ (l:List DV),PV.holdL (DV.encL l)=DV.holdL l
 |[]=>rfl
 |v::r=>by simp only[DV.encL,PV.holdL,DV.holdL,Zat v,RI r]
end
mutual
theorem XI:∀ (v:DV),v.fz.enc=v.enc.fz
 |.any|.undef|.bool _|.int _ _|.str _|.ifc _|.box _ _|.ptr _ _|.nil _|.sl _ _ _|.ep _ _ _ _ _=>rfl
 |.agg cs=>by simp only[DV.fz,DV.enc,PV.fz,PD cs]
 |.tup cs=>by simp only[DV.fz,DV.enc,PV.fz,PD cs]
theorem PD:∀ (l:List DV),DV.encL (DV.fzL l)=PV.fzL (DV.encL l)
 |[]=>rfl
 |v::r=>by simp only[DV.encL,PV.fzL,DV.fzL,XI v,PD r]
end
mutual
theorem Z7:∀ (v:DV),v.detop.enc=v.enc.detop
 |.any|.undef|.bool _|.int _ _|.str _|.ifc _|.box _ _|.ptr _ _=>rfl
 |.nil q=>by cases q<;>rfl
 |.sl q _ _=>by cases q<;>rfl
 |.ep q _ _ _ _=>by cases q<;>rfl
 |.agg cs=>by simp only[DV.detop,DV.enc,PV.detop,ZX cs]
 |.tup cs=>by simp only[DV.detop,DV.enc,PV.detop,ZX cs]
theorem ZX:∀ (l:List DV),DV.encL (DV.detopL l)=PV.detopL (DV.encL l)
 |[]=>rfl
 |v::r=>by simp only[DV.encL,PV.detopL,DV.detopL,Z7 v,ZX r]
end
mutual
theorem V9:∀ (v:DV),v.enc.hasPtr=v.hasPtr
 |.any|.undef|.bool _|.int _ _|.str _|.ifc _|.box _ _|.ptr _ _|.nil _|.sl _ _ _|.ep _ _ _ _ _=>rfl
 |.agg cs=>LJ cs
 |.tup vs=>LJ vs
theorem LJ:∀ (l:List DV),PV.hasPtrL (DV.encL l)=DV.hasPtrL l
 |[]=>rfl
 |v::r=>by simp only[DV.encL,PV.hasPtrL,DV.hasPtrL,V9 v,LJ r]
end
mutual
theorem mC:∀ (t:CT) (x:t.D),t.pl=true->(CT.enc t x).deep=true
 |.int _,_,_|.bool,_,_|.str,_,_|.ifc,_,_=>rfl
 | .sl r,l,h=>by
   simp only[CT.enc,PV.deep]
   exact aI r l h
 |.slf _,_,h=>by cases h
theorem lS:∀ (r:RT) (x:r.D),r.pl=true->PV.deepL (RT.enc r x)=true
 |.one t,x,h=>by simp only[RT.enc,PV.deepL,mC t x h,Dm]
 | .cons t r,x,h=>by
   rw[RT.pl,Ah] at h
   simp only[RT.enc,PV.deepL,mC t x.1 h.1,lS r x.2 h.2,Dm]
theorem aI:∀ (r:RT) (l:List r.D),r.pl=true->PV.deepE (l.map (RT.enc r))=true
 |_,[],_=>rfl
 |r,x::l,h=>by simp only[Cr,PV.deepE,lS r x h,aI r l h,Dm]
end
theorem EL.clr(hd:Hd):∀ {a:List DC} {b:List PV},EL a b->EL (Dt hd a) (Go.Ag.clr hd b)
 |[],[],_=>trivial
 | c :: _,p::_,h=>by
   refine⟨?_,EL.clr hd h.2⟩
   by_cases hb:c.v.bor hd=true
   . rw[Ac hb];exact .inl rfl
   . rw[Ae hb]
     rcases h.1 with h1|h1
     . exact .inl h1
     . rw[h1,W5,Ae hb];exact .inr rfl
theorem zo(i:Nat)(v:DV):v.enc.isBox i=v.isBox i:=by cases v<;>rfl
theorem EL.clearBox(i:Nat):∀ {a:List DC} {b:List PV},EL a b->EL (RD i a) (G0 i b)
 |[],[],_=>trivial
 | c :: _,p::_,h=>by
   refine⟨?_,EL.clearBox i h.2⟩
   by_cases hb:c.v.isBox i=true
   . rw[Ac hb];exact .inl rfl
   . rw[Ae hb]
     rcases h.1 with h1|h1
     . exact .inl h1
     . rw[h1,zo,Ae hb];exact .inr rfl
theorem EL.trim(live:List Nat):∀ {a:List DC} {b:List PV} (n:Nat),EL a b->EL (XS live n a) (GF live n b)
 |[],[],_,_=>trivial
 | c::_,p::_,n,h=>by
   refine⟨?_,EL.trim live (n+1) h.2⟩
   by_cases hb:live.contains n=true
   . rw[Ac hb,Ac hb];exact h.1
   . rw[Ae hb];exact .inl rfl
mutual
theorem lJ:∀ (v:DV),v.hasTop=false->v.detop=v
 |.any,_|.undef,_|.bool _,_|.int _ _,_|.str _,_|.ifc _,_|.box _ _,_|.ptr _ _,_=>rfl
 |.nil q,h=>by cases q<;>first|rfl|(simp only[DV.hasTop,DV.top] at h;first|(subst h;rfl)|cases h)
 |.sl q _ _,h=>by cases q<;>first|rfl|(simp only[DV.hasTop,DV.top] at h;first|(subst h;rfl)|cases h)
 |.ep q _ _ _ _,h=>by cases q<;>first|rfl|(simp only[DV.hasTop,DV.top] at h;first|(subst h;rfl)|cases h)
 |.agg cs,h=>by simp only[DV.hasTop] at h;simp only[DV.detop,au cs h]
 |.tup cs,h=>by simp only[DV.hasTop] at h;simp only[DV.detop,au cs h]
theorem au:∀ (l:List DV),DV.hasTopL l=false->DV.detopL l=l
 |[],_=>rfl
 | v::r,h=>by
   simp only[DV.hasTopL,Ca] at h
   simp only[DV.detopL,lJ v h.1,au r h.2]
end
theorem EL.keep(live:List Nat):∀ {a:List DC} {b:List PV} (n:Nat),EL a b->EL (XF live n a) (E9 live n b)
 |[],[],_,_=>trivial
 | c :: _,p::_,n,h=>by
   refine⟨?_,EL.keep live (n+1) h.2⟩
   by_cases hb:live.contains n=true
   . rw[Ac hb,Ac hb]
     rcases h.1 with h1|h1
     . rw[h1];exact .inl h1
     . by_cases ht:c.v.hasTop=true
       . rw[Ac ht,h1];exact .inr (Z7 c.v).symm
       . rw[Ae ht,h1,<- Z7,lJ c.v (by simpa using ht)];exact .inr rfl
   . rw[Ae hb];exact .inl rfl
theorem EL.clean:∀ {a:List DC} {b:List PV},EL a b->EL (Go.Ag.clean a) b
 |[],[],_=>trivial
 |_::_,_::_,h=>⟨h.1,EL.clean h.2⟩
theorem EBx.clean{a:List DC}{b:List PV}(h:EBx a b):EBx (Go.Ag.clean a) b:=by
 rcases h with rfl|h
 . exact .inl rfl
 . exact .inr h.clean
theorem EB.clean:∀ {a:List (List DC)} {b:List (List PV)},EB a b->EB (PT a) b
 |[],[],_=>trivial
 |_::_,_::_,h=>⟨h.1.clean,EB.clean h.2⟩
theorem ES.clean{d:DS}{s:PS}(h:ES d s):ES d.clean s:=⟨h.sl.clean,h.bx.clean,h.hp.clean⟩
theorem ES.trim{d:DS}{s:PS}(l:List Nat)(h:ES d s):ES (X9 l d) { s with sl:=GF l 0 s.sl }:=⟨h.sl.trim l 0,h.bx,h.hp⟩
theorem ES.keep{d:DS}{s:PS}(l:List Nat)(h:ES d s):ES (Ex l d) { s with sl:=E9 l 0 s.sl }:=⟨h.sl.keep l 0,h.bx,h.hp⟩
theorem EL.rem:∀ {x a:List DC} {b:List PV},EL a b->EL (Qj x a) b
 |[],[],[],_=>trivial
 |[],_::_,_::_,h=>h
 |_::_,[],[],_=>trivial
 |_::_,_::_,_::_,h=>⟨h.1,EL.rem h.2⟩
theorem EBx.rem{x a:List DC}{b:List PV}(h:EBx a b):EBx (Qj x a) b:=by
 rcases h with rfl|h
 . cases x<;>exact .inl rfl
 . exact .inr h.rem
theorem EB.rem:∀ {x a:List (List DC)} {b:List (List PV)},EB a b->EB (Ti x a) b
 |[],[],[],_=>trivial
 |[],_::_,_::_,h=>h
 |_::_,[],[],_=>trivial
 |_::_,_::_,_::_,h=>⟨h.1.rem,EB.rem h.2⟩
theorem ES.rem{x d:DS}{s:PS}(h:ES d s):ES (Mu x d) s:=⟨h.sl.rem,h.bx.rem,h.hp.rem⟩
theorem ES.put{d:DS}{s:PS}(x:Option Nat)(v:DV)(h:ES d s):ES (d.put x v) (s.put x v.enc):=by
 cases x with
 |none=>exact h
 | some n=>
   simp only[DS.put,PS.put,Jy];by_cases ho:v.own=true
   . rw[Ac ho,Ac ho];exact⟨(h.sl.put n (.inr rfl)).clr _,h.bx,h.hp⟩
   . rw[Ae ho,Ae ho];exact⟨h.sl.put n (.inr rfl),h.bx,h.hp⟩
theorem RN(v:V)(h:JX v≠.any):(JX v).enc=BG v:=by
 cases v<;>first|rfl|skip
 case tup vs=>cases vs<;>rfl
theorem Fw{d:DS}{s:PS}(x:Opnd)(h:ES d s)(hk:(Bp x d).1.ok=true):(mvOut x s).1=(Bp x d).1.enc/\ES (Bp x d).2 (mvOut x s).2:=by
 cases x with
 | c v=>
   refine⟨?_,h⟩;refine(RN v λ he=>?_).symm;simp only[Bp,he,DV.ok,AL] at hk
 | t n =>
   simp only[Bp,Th,mvOut,Ge] at hk ⊢;rcases h.sl.get n with hg|hg
   . rw[hg] at hk;simp only[DV.own,AL,AQ,DV.ok] at hk
   . rw[hg,Jy,W5];by_cases ho:(Bs d.sl n).own=true
     . simp only[ho,AN] at hk ⊢;by_cases hb:(Bs d.sl n).bor (.s n)=true
       . simp only[hb,AN,DV.ok,AL] at hk
       . simp only[hb] at hk ⊢;exact⟨rfl,(h.sl.put n (.inl rfl)).clr _,h.bx,h.hp⟩
     . simp only[ho] at hk ⊢;exact⟨rfl,h⟩
theorem Zbk(v:DV)(h:v.cell=true):v.enc.cell=true:=by
 cases v<;>first|rfl|cases h|skip
 case nil q=>cases q<;>first|rfl|cases h
 case sl q r l=>cases q<;>first|rfl|cases h
theorem M7:∀ (l:List DV),DR l=true->BJ (DV.encL l)=true
 |[],_=>rfl
 | v::r,h=>by
   simp only[DR,Ah] at h
   simp only[DV.encL,BJ,Zbk v h.1,M7 r h.2,Dm]
theorem Zb5(v:DV)(h:v.cell=true):v.ok=true:=by cases v<;>first|rfl|cases h
theorem j6:∀ (l:List DV),DR l=true->DV.okL l=true
 |[],_=>rfl
 | v::r,h=>by
   simp only[DR,Ah] at h
   simp only[DV.okL,Zb5 v h.1,j6 r h.2,Dm]
theorem LL(v:DV):v.enc.cells=DV.encL v.cells:=by cases v<;>rfl
theorem RL(v:DV)(h:DR v.cells=true):v.ok=true:=by
 cases v<;>first|rfl|(simp only[DV.cells,DR,DV.cell,Mh,AL] at h)|skip
 case agg cs=>exact j6 cs h
theorem aT(v:DV)(h:v.retc=true):v.enc.retc=true:=by
 cases v<;>first|rfl|cases h|skip
 case nil q=>cases q<;>first|rfl|cases h
 case sl q r l=>cases q<;>first|rfl|cases h
theorem WI:∀ (l:List DV),JO l=true->FM (DV.encL l)=true
 |[],_=>rfl
 | v::r,h=>by
   simp only[JO,Ah] at h
   simp only[DV.encL,FM,aT v h.1,WI r h.2,Dm]
theorem jY(v:DV)(h:v.retok=true):v.enc.retok=true:=by
 cases v<;>first|rfl|cases h|skip
 case nil q=>exact aT (.nil q) h
 case sl q r l=>exact aT (.sl q r l) h
 case agg cs=>exact WI cs h
theorem kA(v:DV)(h:v.argc=true):v.enc.argc=true:=by cases v<;>first|rfl|cases h
theorem lk:∀ (l:List DV),XY l=true->JR (DV.encL l)=true
 |[],_=>rfl
 | v::r,h=>by
   simp only[XY,Ah] at h
   simp only[DV.encL,JR,kA v h.1,lk r h.2,Dm]
theorem ki(v:DV)(h:v.argok=true):v.enc.argok=true:=by
 cases v<;>first|rfl|cases h|exact kA _ h|skip
 case agg cs=>exact lk cs h
theorem Wc:∀ (l:List DV),ID l=true->JE (DV.encL l)=true
 |[],_=>rfl
 | v::r,h=>by
   simp only[ID,Ah] at h
   simp only[DV.encL,JE,ki v h.1,Wc r h.2,Dm]
theorem Opnd.dev_ev{d:DS}{s:PS}(h:ES d s)(x:Opnd):EV (x.dev d.sl) (x.pev s.sl):=by
 cases x with
 |t n=>exact h.sl.get n
 | c v=>
   by_cases hv:JX v= .any
   . exact .inl hv
   . exact .inr (RN v hv).symm
theorem EV.of{v:DV}{p:PV}(h:EV v p)(hn:v≠.any):p=v.enc:=h.resolve_left hn
theorem vN{op:BinOp}{k:IntKind}{a b:Int}{g:PX}{v:DV}(h:Xc op k a b=some (g,v))(hg:g.den):(JG op k a b).map PV.fl=some v.enc:=by
 cases op<;>simp only[Xc,dI,dB,Ak,Al,reduceCtorEq] at h<;>obtain⟨rfl,rfl⟩:=h<;>simp only[JG,nf,ny,nU,ZcU,mW,cE,oc,nB,j7,X4,n9,oA,n7,nZ,oJ,DV.enc,BX.b,Cv]
 . rw[Ae (show ¬ b=0 from hg)];rfl
 . rw[Ae (show ¬ b=0 from hg)];rfl
theorem ig{op:BinOp}{k:IntKind}{a b:Int}{g:PX}{v:DV}(h:Xl op k a b=some (g,v))(hg:g.den):(Nd op k a b).map PV.fl=some v.enc:=by
 cases op<;>simp only[Xl,Ak,Al,reduceCtorEq] at h<;>obtain⟨rfl,rfl⟩:=h<;>simp only[Nd,m9,nL,DV.enc]<;>rw[Ae (show ¬ b<0 from Int.not_lt.mpr hg)]<;>rfl
theorem WZ{k k':IntKind}(h:IntKind.same k k'=true):k=k':=by simpa [IntKind.same] using h
theorem yP{op:BinOp}{a b:DV}{p q:PV}{g:PX}{v:DV}(ha:EV a p)(hb:EV b q)(h:Qk op a b=some (g,v))(hg:g.den):Qg op p q=some v.enc:=by
 cases a<;>try (simp only[Qk,reduceCtorEq] at h)
 case int k a=>
  cases b<;>try (simp only[Qk,reduceCtorEq] at h)
  case int k' b=>
   rw[ha.of (by simp),hb.of (by simp)];simp only[DV.enc,Qg,IP];by_cases h1:op= .shl
   . subst h1;exact ig h hg
   . by_cases h2:op= .shr
     . subst h2;exact ig h hg
     . have h3:(if IntKind.same k k'=true then Xc op k a b else none)=some (g,v):=by cases op<;>first|exact h|exact absurd rfl h1|exact absurd rfl h2
       by_cases hk:IntKind.same k k'=true
       . rw[Ac hk] at h3;have:=WZ hk;subst this;have h4:=vN h3 hg
         cases op<;>simp only[AN]<;>first|exact h4|exact absurd rfl h1|exact absurd rfl h2
       . rw[Ae hk] at h3;cases h3
 case str a=>
  cases b<;>try (simp only[Qk,reduceCtorEq] at h)
  case str b=>
   rw[ha.of (by simp),hb.of (by simp)];cases op<;>simp only[Qk,dB,Ak,Al,reduceCtorEq] at h<;>obtain⟨rfl,rfl⟩:=h<;>simp only[DV.enc,Qg,IP,mY,oC,oj,BX.b,Cv];rw[Ac (show a.length+b.length<=9223372036854775807 from hg)];rfl
theorem dy(x:BX):x.not.b=!x.b:=by cases x<;>simp only[BX.not,BX.b,PR]
theorem ZdW(x y:BX):(x.eq y).b=(x.b == y.b):=by
 cases x with
 | lit a=>cases y with
   |lit b=>rfl
   |dyn b=>cases a<;>cases b<;>simp only[BX.eq,BX.b,PR]<;>rfl
 | dyn a=>cases y with
   |lit b=>cases a<;>cases b<;>simp only[BX.eq,BX.b,PR]<;>rfl
   |dyn b=>simp only[BX.eq,BX.b,nC]
theorem yF{neg:Bool}{a b:DV}{p q:PV}{g:PX}{v:DV}(ha:EV a p)(hb:EV b q)(h:Yj neg a b=some (g,v)):SY neg p q=some v.enc:=by
 cases a<;>try (simp only[Yj,reduceCtorEq] at h)
 case bool a=>
  cases b<;>try (simp only[Yj,reduceCtorEq] at h)
  case bool b=>
   rw[ha.of (by simp),hb.of (by simp)];simp only[GK,Ak,Al] at h;obtain⟨rfl,rfl⟩:=h;cases neg<;>simp only[DV.enc,SY,AN,AL,AQ,dy,ZdW]
theorem yT{neg:Bool}{a:DV}{p:PV}{g:PX}{v:DV}(ha:EV a p)(h:dY neg a=some (g,v)):S7 neg p=some v.enc:=by
 cases a<;>try (simp only[dY,reduceCtorEq] at h)
 case ifc a=>
  rw[ha.of (by simp)];simp only[dB,Ak,Al] at h;obtain⟨rfl,rfl⟩:=h;cases neg<;>simp only[DV.enc,S7,AN,AL,AQ,PR,BX.b]
theorem zI{op:UnOp}{a:DV}{p:PV}{g:PX}{v:DV}(ha:EV a p)(h:eE op a=some (g,v)):Tc op p=some v.enc:=by
 cases op<;>cases a<;>simp only[eE,GK,dI,Ak,Al,reduceCtorEq] at h<;>obtain⟨rfl,rfl⟩:=h<;>rw[ha.of (by simp)]<;>simp only[DV.enc,Tc,Mt,Cv,dy,ZcX]
theorem xy{k:IntKind}{a:DV}{p:PV}{g:PX}{v:DV}(ha:EV a p)(h:dJ k a=some (g,v)):SA k p=some v.enc:=by
 cases a<;>simp only[dJ,dI,Ak,Al,reduceCtorEq] at h;obtain⟨rfl,rfl⟩:=h;rw[ha.of (by simp)];simp only[DV.enc,SA,ZbB]
theorem w6{a:DV}{p:PV}{g:PX}{v:DV}(ha:EV a p)(h:dx a=some (g,v)):WV p=some v.enc:=by
 cases a<;>simp only[dx,GK,Ak,Al,reduceCtorEq] at h<;>obtain⟨rfl,rfl⟩:=h<;>rw[ha.of (by simp)]<;>rfl
theorem wB{off:Nat}{a:DV}{p:PV}{g:PX}{v:DV}(ha:EV a p)(h:bK off a=some (g,v)):WD off p=some v.enc:=by
 cases a<;>simp only[bK,GK,Ak,Al,reduceCtorEq] at h<;>obtain⟨rfl,rfl⟩:=h<;>rw[ha.of (by simp)]<;>rfl
theorem yq{a:DV}{p:PV}{g:PX}{v:DV}(ha:EV a p)(h:ed a=some (g,v)):SG p=some v.enc:=by
 cases a<;>simp only[ed,dI,Ak,Al,reduceCtorEq] at h<;>obtain⟨rfl,rfl⟩:=h<;>rw[ha.of (by simp)]<;>simp only[DV.enc,SG,Bc,nj,AJ]<;>rfl
theorem xz{a:DV}{p:PV}{g:PX}{v:DV}(ha:EV a p)(h:oG a=some (g,v)):dz p=some v.enc:=by cases h
theorem xl{a b:DV}{p q:PV}{g:PX}{v:DV}(ha:EV a p)(hb:EV b q)(h:nP a b=some (g,v))(hg:g.den):b6 p q=some v.enc:=by cases h
theorem Nk:∀ (r:RT) (x:r.D),(RT.enc r x).length=r.w
 |.one _,_=>rfl
 |.cons _ r,x=>by simp only[RT.enc,AH,RT.w,Nk r x.2]
theorem F2(r:RT):∀ (l:List r.D),C0 r.w (l.map (RT.enc r))=true
 |[]=>rfl
 |x::l=>by simp only[Cr,C0,Nk,beq_self_eq_true,F2 r l,Dm]
theorem wE{w:Nat}{x:Opnd}{a b:DV}{p q:PV}{g:PX}{v:DV}(ha:EV a p)(hb:EV b q)(h:R6 w x a b=some (g,v))(hg:g.den):RM w x p q=some v.enc:=by
 cases a<;>try (simp only[R6,reduceCtorEq] at h)
 case sl q' r l=>
  cases b<;>try (simp only[R6,reduceCtorEq] at h)
  case int k j=>
   rw[ha.of (by simp),hb.of (by simp)];by_cases hw:(r.w == w)=true
   . rw[Ac hw] at h
     have hw':r.w=w:=by simpa using hw
     subst hw'
     cases hq:FL x q' with
     |none=>rw[hq] at h;cases h
     | some q2=>
       rw[hq] at h;simp only[Ak,Al] at h;obtain⟨rfl,rfl⟩:=h;simp only[DV.enc,RM,Bc,ct];rw[Ac ⟨hg.1,hg.2,F2 r l⟩,hq];rfl
   . rw[Ae hw] at h;cases h
 case nil q'=>cases b<;>simp only[R6,reduceCtorEq] at h
theorem yD{a b:DV}{p q:PV}{g:PX}{v:DV}(ha:EV a p)(hb:EV b q)(h:eu a b=some (g,v)):SN p q=some v.enc:=by
 unfold eu at h;split at h
 . simp only[dI,Ak,Al] at h;obtain⟨rfl,rfl⟩:=h;rw[ha.of (by simp),hb.of (by simp)];simp only[DV.enc,SN,ZcK]
 . cases h
theorem yC{a b:DV}{p q:PV}{g:PX}{v:DV}(ha:EV a p)(hb:EV b q)(h:dZ a b=some (g,v)):SS p q=some v.enc:=by
 unfold dZ at h;split at h
 . simp only[dI,Ak,Al] at h;obtain⟨rfl,rfl⟩:=h;rw[ha.of (by simp),hb.of (by simp)];simp only[DV.enc,SS,cI]
 . cases h
theorem land_den(a b:PX):(a.land b).den↔a.den/\b.den:=by
 cases a<;>cases b<;>simp[PX.land,PX.den]
theorem il{d:Nat}{x:Option DV}{y:Option PV}{g:PX}{n:Nat}(hx:match x,y with|none,none=>True|some v,some p=>EV v p|_,_=>False)(h:Nw d x=some (g,n))(hg:g.den):Nq d y=some n:=by
 cases x with
 | none=>
   cases y with
   |none=>simp only[Nw,Ak,Al] at h;rw[<- h.2];rfl
   |some p=>cases hx
 | some v=>
   cases y with
   |none=>cases hx
   | some p=>
     cases v<;>simp only[Nw,Ak,Al,reduceCtorEq] at h;obtain⟨rfl,rfl⟩:=h;rw[EV.of hx (by simp)];simp only[DV.enc,Nq,ct];exact Ac hg
theorem wQ{lo hi:Option DV}{lo' hi':Option PV}{a:DV}{p:PV}{g:PX}{v:DV}(hl:match lo,lo' with|none,none=>True|some v,some p=>EV v p|_,_=>False)(hh:match hi,hi' with|none,none=>True|some v,some p=>EV v p|_,_=>False)(ha:EV a p)(h:mq lo hi a=some (g,v))(hg:g.den):aR lo' hi' p=some v.enc:=by cases h
theorem wW{w:Nat}{x:Opnd}{lo hi:Option DV}{lo' hi':Option PV}{a:DV}{p:PV}{g:PX}{v:DV}(hl:match lo,lo' with|none,none=>True|some v,some p=>EV v p|_,_=>False)(hh:match hi,hi' with|none,none=>True|some v,some p=>EV v p|_,_=>False)(ha:EV a p)(h:cC w x lo hi a=some (g,v))(hg:g.den):Sd w x lo' hi' p=some v.enc:=by
 cases a<;>try (simp only[cC,reduceCtorEq] at h)
 case sl q r t=>
  rw[ha.of (by simp)]
  cases h1:Nw 0 lo with
  |none=>rw[h1] at h;cases h
  | some x1 =>
    cases h2:Nw (lN t) hi with
    |none=>rw[h1,h2] at h;cases h
    | some y=>
      obtain⟨g1,a⟩:=x1;obtain⟨g2,b⟩:=y;rw[h1,h2] at h;simp only at h;by_cases hw:(r.w == w)=true
      . rw[Ac hw] at h
        have hw':r.w=w:=by simpa using hw
        subst hw'
        cases hq:oU x lo.isNone q with
        |none=>rw[hq] at h;cases h
        | some q'=>
          rw[hq] at h;simp only[Ak,Al] at h;obtain⟨rfl,rfl⟩:=h;rw[land_den,land_den] at hg;have e1:=il hl h1 hg.1.1;have e2:=il hh h2 hg.1.2;simp only[Yf] at e2
          have hz:FH x (if lo'.isNone=true then 0 else 1) q=some q':=by
           have:lo'.isNone=lo.isNone:=by cases lo<;>cases lo'<;>first|rfl|exact hl.elim
           rw[this];exact hq
          simp only[DV.enc,Sd,Bc,e1,e2,nJ,hz];rw[Ac ⟨hg.2.1,hg.2.2.1,hg.2.2.2,F2 r t⟩,Xq,List.map_drop];rfl
      . rw[Ae hw] at h;cases h
theorem ZaW(hd:Hd)(p:List Nat)(v:DV):(dG hd p v).enc=C6 hd p v.enc:=by
 cases v<;>first|rfl|skip
 case nil q=>cases q<;>rfl
 case sl q r l=>cases q<;>rfl
theorem RU(hd:Hd):∀ (n:Nat) (l:List DV),DV.encL (JL hd n l)=Hi hd n (DV.encL l)
 |_,[]=>rfl
 |n,v::r=>by simp only[JL,DV.encL,Hi,ZaW,RU hd (n+1) r]
theorem Pk{n:Option Nat}{cs:List DV}{v:DV}(h:F7 n cs=some v):D5 n (DV.encL cs)=some v.enc:=by
 cases n with
 |some n=>simp only[F7,Ak] at h;subst h;rfl
 | none=>match cs,h with
   |[x],h=>simp only[F7,Ak] at h;subst h;rfl
theorem wX{off:Nat}{n:Option Nat}{x:Opnd}{a:DV}{p:PV}{g:PX}{v:DV}(ha:EV a p)(h:de off n x a=some (g,v)):Sg off n x p=some v.enc:=by
 cases a<;>try (simp only[de,reduceCtorEq] at h)
 case agg cs=>
  rw[ha.of (by simp)]
  cases x with
  |c _=>cases h
  | t t =>
    simp only at h;by_cases hc:(Nat.ble (off+n.getD 1) cs.length&&DV.okL (Ch cs off (n.getD 1)))=true
    . rw[Ac hc] at h;rw[Ah] at hc
      cases hv:F7 n (JL (.s t) off (Ch cs off (n.getD 1))) with
      |none=>rw[hv] at h;cases h
      | some w=>
        rw[hv] at h;simp only[Cv,Ak,Al] at h;obtain⟨rfl,rfl⟩:=h;have:=Pk hv;rw[RU,Wh] at this;simp only[DV.enc,Sg,E3];rw[Ac (Dd hc.1)];exact this
    . rw[Ae hc] at h;cases h
theorem xJ{a:DV}{p:PV}{g:PX}{v:DV}(ha:EV a p)(h:od a=some (g,v)):cj p=some v.enc:=by cases h
theorem gD:∀ {a b:List DV} {t:BX},LU a b=some t->∃ x y,Ey (DV.encL a)=some x/\Ey (DV.encL b)=some y/\x.length=a.length/\y.length=b.length/\x.all V.flat=true/\y.all V.flat=true/\Et x y=some t.b
 | [],[],t,h=>by
   simp only[LU,Ak] at h;subst h;exact⟨[],[],rfl,rfl,rfl,rfl,rfl,rfl,rfl⟩
 | .int k a::x,.int k' b::y,t,h=>by
   unfold LU at h;by_cases hk:IntKind.same k k'=true
   . rw[Ac hk] at h;have:=WZ hk;subst this
     have key:∀ t',LU x y=some t'->t.b=((a == b)&&t'.b)->∃ x1 y1,Ey (DV.encL (.int k a::x))=some x1/\Ey (DV.encL (.int k b::y))=some y1/\x1.length=(DV.int k a::x).length/\y1.length=(DV.int k b::y).length/\x1.all V.flat=true/\y1.all V.flat=true/\Et x1 y1=some t.b:=by
      intro t' ht hb;obtain⟨x1,y1,h1,h2,h3,h4,h5,h6,h7⟩:=gD ht;refine⟨.int k a::x1,.int k b::y1,?_,?_,by simp[h3],by simp[h4],?_,?_,?_⟩
      . simp only[DV.encL,DV.enc,Ey,h1]
      . simp only[DV.encL,DV.enc,Ey,h2]
      . simp only[GB,V.flat,h5,Dm]
      . simp only[GB,V.flat,h6,Dm]
      . simp only[Et,PQ,AN]
        cases hab:(a == b) with
        |true=>simp only[h7,hb,hab,NB]
        |false=>simp only[hb,hab,XR]
     split at h
     . simp only[Ak] at h;subst h;exact key (.lit true) rfl (by simp only[BX.b,X4,Mh])
     . cases ht:LU x y with
       |none=>rw[ht] at h;cases h
       | some t'=>
         rw[ht] at h;simp only[Cv,Ak] at h;subst h;exact key t' ht (by simp only[BX.b,X4,di])
   . rw[Ae hk] at h;cases h
theorem yX{n:Nat}{neg:Bool}{a b:DV}{p q:PV}{g:PX}{v:DV}(ha:EV a p)(hb:EV b q)(h:Yc n neg a b=some (g,v)):SK n neg p q=some v.enc:=by
 cases a<;>try (simp only[Yc,reduceCtorEq] at h)
 case agg a=>
  cases b<;>try (simp only[Yc,reduceCtorEq] at h)
  case agg b=>
   rw[ha.of (by simp),hb.of (by simp)];by_cases hl:(a.length == n&&b.length == n)=true
   . rw[Ac hl] at h;rw[Ah,A0,A0] at hl
     cases ht:LU a b with
     |none=>rw[ht] at h;cases h
     | some t=>
       rw[ht] at h;simp only[GK,Ak,Al] at h;obtain⟨rfl,rfl⟩:=h;obtain⟨x,y,h1,h2,h3,h4,h5,h6,h7⟩:=gD ht;simp only[DV.enc,SK,h1,h2];rw[Ac ⟨h3.trans hl.1,h4.trans hl.2,h5,h6⟩,h7];cases neg<;>simp only[Cv,AN,AL,AQ,dy]
   . rw[Ae hl] at h;cases h
theorem XE{d:DS}{s:PS}(h:ES d s)(x:Option Opnd):match x.map (λ x=>x.dev d.sl),x.map (λ x=>x.pev s.sl) with|none,none=>True|some v,some p=>EV v p|_,_=>False:=by
 cases x with
 |none=>exact trivial
 |some x=>exact x.dev_ev h
theorem EM{s:PS}{o:Option PV}{v:PV}(h:o=some v):Dy s o=some (v,s):=by rw[h];rfl
theorem xW{d:DS}{s:PS}{o:AOp}{m:Bool}{g:PX}{v:DV}(hs:ES d s)(h:P8 o (λ x=>x.dev d.sl)=some (g,v))(hg:g.den):Bq m o s=some (v.enc,s):=by
 have E:=λ x=>Opnd.dev_ev hs x
 cases o<;>simp only[P8,reduceCtorEq] at h<;>simp only[Bq]
 case nilck x=>exact EM (w6 (E x) h)
 case bin op x y=>exact EM (yP (E x) (E y) h hg)
 case eqB neg x y=>exact EM (yF (E x) (E y) h)
 case eqN neg x y=>
  split at h
  . exact EM (yT (E x) h)
  . cases h
 case eqA n neg x y=>exact EM (yX (E x) (E y) h)
 case un op x=>exact EM (zI (E x) h)
 case conv k x=>exact EM (xy (E x) h)
 case bstr x=>exact EM (xJ (E x) h)
 case slice w x lo hi=>exact EM (wW (XE hs lo) (XE hs hi) (E x) h hg)
 case substr x lo hi=>exact EM (wQ (XE hs lo) (XE hs hi) (E x) h hg)
 case fieldA off a=>exact EM (wB (E a) h)
 case field off n x=>exact EM (wX (E x) h)
 case indexA w x i=>exact EM (wE (E x) (E i) h hg)
 case index x i=>exact EM (xl (E x) (E i) h hg)
 case len x=>exact EM (yq (E x) h)
 case lenT x=>exact EM (xz (E x) h)
 case minI x y=>exact EM (yD (E x) (E y) h)
 case maxI x y=>exact EM (yC (E x) (E y) h)
theorem aS:∀ (l:List DV),DV.okL l=true->EL (news (Qc l)) (Dg (DV.encL l))
 |[],_=>trivial
 | v::r,h=>by
   simp only[DV.okL,Ah] at h
   refine⟨?_,aS r h.2⟩
   simp only[Jy]
   by_cases ho:v.own=true
   . rw[Ac ho,Ac ho];exact .inl rfl
   . rw[Ae ho,Ae ho];exact .inr rfl
theorem EL.spliceE:∀ {a:List DC} {b:List PV} (n:Nat) {vs:List DV} {ps:List PV},EL a b->EL (Go.Ag.news vs) ps->EL (Jw a n vs) (AM b n ps)
 |[],[],_,[],[],_,_=>trivial
 |[],[],_,_::_,_::_,_,_=>trivial
 |_::_,_::_,0,[],[],h,_=>h
 |_::_,_::_,_+1,[],[],h,_=>h
 |_::_,_::_,0,_::_,_::_,h,hv=>⟨hv.1,EL.spliceE 0 h.2 hv.2⟩
 |_::_,_::_,n+1,_::_,_::_,h,hv=>⟨h.1,EL.spliceE n h.2 hv⟩
theorem EBx.to{a:List DC}{b:List PV}(h:EBx a b)(hn:0<a.length):EL a b:=by
 rcases h with rfl|h
 . exact absurd hn (Nat.lt_irrefl 0)
 . exact h
theorem EBx.segm{a:List DC}{b:List PV}{o n:Nat}(h:EBx a b)(hl:o+n<=a.length)(hk:DV.okL (Ch (BT a) o n)=true):o+n<=b.length/\Go.Ag.segm b o n=DV.encL (Ch (BT a) o n):=by
 rcases h with rfl|h
 . have h0:o=0/\n=0:=by simp only[AJ] at hl;omega
   rw[h0.1,h0.2];exact⟨GC _,by cases b<;>rfl⟩
 . exact⟨by rw[<- h.len];exact hl,h.segm o n hk⟩
theorem EBx.splice{a:List DC}{b:List PV}{o:Nat}{vs:List DV}{ps:List PV}(h:EBx a b)(hv:EL (news vs) ps)(hl:o+vs.length<=a.length):EBx (Jw a o vs) (AM b o ps):=by
 rcases h with rfl|h
 . have h0:vs=[]:=by
    cases vs with
    |nil=>rfl
    |cons _ _=>simp only[AH,AJ] at hl;omega
   subst h0;exact .inl rfl
 . exact .inr (h.spliceE o hv)
theorem Wq:∀ (l:List DV) (o n:Nat),o+n<=l.length->(Ch l o n).length=n
 |[],0,0,_=>rfl
 |[],0,_+1,h=>by simp only[AJ] at h;omega
 |[],_+1,_,h=>by simp only[AJ] at h;omega
 |_::_,0,0,_=>rfl
 |_::r,0,n+1,h=>by simp only[Ch,AH] at h ⊢;rw[Wq r 0 n (by omega)]
 |_::r,o+1,n,h=>by simp only[Ch,AH] at h ⊢;exact Wq r o n (by omega)
theorem aq:∀ (l:List DV),(Qc l).length=l.length
 |[]=>rfl
 |_::r=>by simp only[Qc,AH,aq r]
theorem Zx{m:Bool}{i:Nat}{n:Option Nat}{a:DV}{p:PV}{d d':DS}{s:PS}{g:PX}{v:DV}(hs:ES d s)(ha:EV a p)(h:L9 m i n a d=some (g,v,d')):∃ s',Jx m i n p s=some (v.enc,s')/\ES d' s':=by
 cases a<;>try (simp only[L9,reduceCtorEq] at h)
 case box j o=>
  rw[ha.of (by simp)];by_cases hc:(i == j&&Nat.ble (o+n.getD 1) (BO d.bx i).length&&DV.okL (Ch (BT (BO d.bx i)) o (n.getD 1)))=true
  . rw[Ac hc] at h;rw[Ah,Ah,A0] at hc;obtain⟨⟨rfl,hl⟩,hk⟩:=hc;have hl:=Dd hl;obtain⟨h1,h2⟩:=(hs.bx.get i).segm hl hk;simp only[DV.enc,Jx];rw[Ac ⟨trivial,h1⟩,h2]
    cases m with
    | true=>
      simp only[AN] at h ⊢
      cases hv:F7 n (Ch (BT (BO d.bx i)) o (n.getD 1)) with
      |none=>rw[hv] at h;cases h
      | some w=>
        rw[hv] at h;simp only[Cv,Ak,Al] at h;obtain⟨_,rfl,rfl⟩:=h;rw[Pk hv];refine⟨_,rfl,hs.sl.clr _,hs.bx.put i ((hs.bx.get i).splice (aS _ hk) ?_),hs.hp⟩;rw[aq,Wq _ _ _ (by rw[RP];exact hl)];exact hl
    | false=>
      simp only[AL,AQ] at h ⊢
      cases hv:F7 n (JL (.b i) o (Ch (BT (BO d.bx i)) o (n.getD 1))) with
      |none=>rw[hv] at h;cases h
      | some w=>
        rw[hv] at h;simp only[Cv,Ak,Al] at h;obtain⟨_,rfl,rfl⟩:=h;have:=Pk hv;rw[RU] at this;rw[this];exact⟨_,rfl,hs⟩
  . rw[Ae hc] at h;cases h
theorem mZ{q q':Ql}(h:NJ q=some q'):∀ (t:CT) (x:t.D),(CT.dv q' t x).enc=K6 q (CT.enc t x)
 |.int _,_|.bool,_|.str,_=>by cases q<;>rfl
 |.ifc,_=>by cases q<;>rfl
 |.sl r,l=>by cases q<;>simp only[NJ,Ak,reduceCtorEq] at h<;>subst h<;>rfl
 |.slf r,l=>by cases q<;>simp only[NJ,Ak,reduceCtorEq] at h<;>subst h<;>rfl
theorem nY{q q':Ql}(h:NJ q=some q'):∀ (r:RT) (x:r.D),DV.encL (r.dv q' x)=Gc q (RT.enc r x)
 |.one t,x=>by simp only[RT.dv,DV.encL,RT.enc,Gc,mZ h t x]
 |.cons t r,x=>by simp only[RT.dv,DV.encL,RT.enc,Gc,mZ h t x.1,nY h r x.2]
theorem Ni(r:RT):∀ (l:List r.D) (j:Nat),j<l.length->Cl (l.map (RT.enc r)) j=RT.enc r (l.getD j r.dflt)
 |_::_,0,_=>rfl
 |_::l,j+1,h=>Ni r l j (by simpa using h)
theorem Z8(q:Ql):∀ (l:List PV) (o n:Nat),Gc q (Go.Ag.segm l o n)=Go.Ag.segm (Gc q l) o n
 |[],0,0=>rfl
 |[],0,_+1=>rfl
 |[],_+1,_=>rfl
 |_::_,0,0=>rfl
 |c::r,0,n+1=>by simp only[Go.Ag.segm,Gc,Z8 q r 0 n]
 |_::r,o+1,n=>by simp only[Go.Ag.segm,Gc];exact Z8 q r o n
theorem yn{q q':Ql}(h:NJ q=some q'):q.isOwn=false:=by cases q<;>first|rfl|cases h
theorem ZB{m:Bool}{n:Option Nat}{a:DV}{p:PV}{d d':DS}{s:PS}{g:PX}{v:DV}(hs:ES d s)(ha:EV a p)(h:KZ m n a d=some (g,v,d'))(hg:g.den):∃ s',IE m n p s=some (v.enc,s')/\ES d' s':=by
 cases a<;>try (simp only[KZ,reduceCtorEq] at h)
 case ep q r l j o=>
  rw[ha.of (by simp)]
  cases hq:NJ q with
  |none=>rw[hq] at h;cases h
  | some q'=>
    rw[hq] at h;simp only at h;by_cases hc:Nat.ble (o+n.getD 1) r.w=true
    . rw[Ac hc] at h
      cases hv:F7 n (Ch (r.dv q' (lGet l j r.dflt)) o (n.getD 1)) with
      |none=>rw[hv] at h;cases h
      | some w=>
        rw[hv] at h;simp only[Cv,Ak,Al] at h;obtain⟨rfl,rfl,rfl⟩:=h;have hj:j<l.length:=hg;have:=Pk hv;rw[Wh,nY hq,<- Z8,cw,<- Ni r l j hj] at this;simp only[DV.enc,IE,Bc];rw[Ac ⟨hj,by rw[Ni r l j hj,Nk];exact Dd hc,yn hq⟩,this];exact⟨_,rfl,hs⟩
    . rw[Ae hc] at h;cases h
 case ptr i o=>
  rw[ha.of (by simp)];by_cases hc:(Nat.blt i d.hp.length&&Nat.ble (o+n.getD 1) (BO d.hp i).length&&DV.okL (Ch (BT (BO d.hp i)) o (n.getD 1)))=true
  . rw[Ac hc] at h;rw[Ah,Ah] at hc;obtain⟨⟨hi,hl⟩,hk⟩:=hc;have hi:=Dd hi;have hl:=Dd hl;obtain⟨h1,h2⟩:=(hs.hp.get i).segm hl hk;simp only[DV.enc,IE];rw[Ac ⟨by rw[<- hs.hp.len];exact hi,h1⟩,h2]
    cases m with
    | true=>
      simp only[AN] at h ⊢
      cases hv:F7 n (Ch (BT (BO d.hp i)) o (n.getD 1)) with
      |none=>rw[hv] at h;cases h
      | some w=>
        rw[hv] at h;simp only[Cv,Ak,Al] at h;obtain⟨_,rfl,rfl⟩:=h;rw[Pk hv];refine⟨_,rfl,hs.sl.clr _,hs.bx,hs.hp.put i ((hs.hp.get i).splice (aS _ hk) ?_)⟩;rw[aq,Wq _ _ _ (by rw[RP];exact hl)];exact hl
    | false=>
      simp only[AL,AQ] at h ⊢
      cases hv:F7 n (JL (.h i) o (Ch (BT (BO d.hp i)) o (n.getD 1))) with
      |none=>rw[hv] at h;cases h
      | some w=>
        rw[hv] at h;simp only[Cv,Ak,Al] at h;obtain⟨_,rfl,rfl⟩:=h;have:=Pk hv;rw[RU] at this;rw[this];exact⟨_,rfl,hs⟩
  . rw[Ae hc] at h;cases h
theorem EL.clrD(hd:Hd):∀ {a:List DC} {b:List PV},EL a b->EL (Dt hd a) b
 |[],[],_=>trivial
 | c::_,p::_,h=>by
   refine⟨?_,EL.clrD hd h.2⟩
   by_cases hb:c.v.bor hd=true
   . rw[Ac hb];exact .inl rfl
   . rw[Ae hb];exact h.1
theorem EL.clr2{hd:Hd}{a:List DC}{b:List PV}{x:Bool}{y:Bool}(h:EL a b)(hxy:x=false->y=false):EL (if x then Dt hd a else a) (if y then Go.Ag.clr hd b else b):=by
 cases x with
 |false=>rw[hxy rfl];exact h
 | true=>cases y with
   |false=>exact h.clrD hd
   |true=>exact h.clr hd
theorem vG{i n:Nat}{a x:Opnd}{d d':DS}{s:PS}{g:PX}{v:DV}(hs:ES d s)(h:Sa i n a x d=some (g,v,d')):∃ s',RV i n a x s=some (v.enc,s')/\ES d' s':=by
 unfold Sa at h;have ha:=a.dev_ev hs;generalize hm:Bp x d=w at h;obtain⟨w,d1⟩:=w;simp only at h;generalize a.dev d.sl=av at h ha
 cases av<;>try (simp only[reduceCtorEq] at h)
 case box j o=>
  by_cases hc:(i == j&&Nat.blt i d1.bx.length&&w.cells.length == n&&Nat.ble (o+n) (BO d1.bx i).length&&DR w.cells)=true
  . rw[Ac hc] at h;simp only[Ah,A0] at hc;obtain⟨⟨⟨⟨rfl,hi⟩,rfl⟩,hl⟩,hcl⟩:=hc;have hi:=Dd hi;have hl:=Dd hl;have hok:=RL w hcl;obtain⟨m1,m2⟩:=Fw x hs (by rw[hm];exact hok);rw[hm] at m1 m2;simp only[Ak,Al] at h;obtain⟨rfl,rfl,rfl⟩:=h;have hbx:=m2.bx.get i
    have hel:o+w.cells.length<=(Aj (mvOut x s).2.bx i).length:=by
     rcases hbx with he|he
     . rw[he] at hl;simp only[AJ] at hl;omega
     . rw[<- he.len];exact hl
    simp only[RV,ha.of (by simp:DV.box i o≠.any),DV.enc,m1,LL,E3,Jy];rw[Ac ⟨trivial,by rw[<- m2.bx.len];exact hi,trivial,hel,M7 _ hcl⟩];refine⟨_,rfl,m2.sl.clr2 λ hx=>?_,m2.bx.put i (hbx.splice (EL.news w.cells) hl),m2.hp⟩;simp only[Ca,CJ] at hx ⊢;rw[(hbx.segm hl hx.1.1).2,Pq];exact⟨hx.1.2,hx.2⟩
  . rw[Ae hc] at h;cases h
theorem RX{r' r:RT}{l:List r'.D}{m:List r.D}(h:Mn l=some m):r'=r/\l.map (RT.enc r')=m.map (RT.enc r):=by
 unfold Mn at h;split at h
 . rename_i hb;have hr:=RT.beq_eq hb;subst hr;simp only[Ak] at h;subst h;exact⟨rfl,rfl⟩
 . cases h
theorem oD:∀ {t:CT} {v:DV} {x:t.D},t.of v=some x->v.enc=CT.enc t x
 | .int k,.int k' n,x,h=>by
   have h':(if k=k' then some n else none)=some x:=h
   by_cases hk:k=k'
   . subst hk
     rw[Ac rfl] at h'
     have:n=x:=C9 h'
     rw[<- this];rfl
   . rw[Ae hk] at h';cases h'
 | .bool,.bool b,x,h=>by
   have:b.b=x:=C9 h
   rw[<- this];rfl
 | .str,.str s,x,h=>by
   have:s=x:=C9 h
   rw[<- this];rfl
 | .ifc,.ifc b,x,h=>by
   have:b=x:=C9 h
   rw[<- this];rfl
 | .sl r,.nil .own,x,h=>by
   have:([]:List r.D)=x:=C9 h
   rw[<- this];rfl
 | .sl r,.sl .own r' l,x,h=>by
   show PV.sl .own _=PV.sl .own _
   rw[(RX (r:=r) h).2]
 | .slf r,.nil .frz,x,h=>by
   have:([]:List r.D)=x:=C9 h
   rw[<- this];rfl
 | .slf r,.sl .frz r' l,x,h=>by
   show PV.sl .frz _=PV.sl .frz _
   rw[(RX (r:=r) h).2]
theorem SX:∀ {r:RT} {vs:List DV} {x:r.D},r.of vs=some x->DV.encL vs=RT.enc r x
 |.one t,[v],x,h=>by simp only[DV.encL,RT.enc,oD (t:=t) h]
 | .cons t r,v::vs,x,h=>by
   have h':(match t.of v,r.of vs with|some x,some y=>some (x,y)|_,_=>none)=some x:=h
   clear h
   cases h1:t.of v with
   |none=>rw[h1] at h';cases h'
   | some a=>
     cases h2:r.of vs with
     |none=>rw[h1,h2] at h';cases h'
     | some b=>
       rw[h1,h2] at h'
       have:(a,b)=x:=C9 h'
       rw[<- this]
       simp only[DV.encL,RT.enc,oD h1,SX h2]
theorem nH:∀ (t:CT) (x:t.D),(CT.dv .own t x).enc=CT.enc t x
 |.int _,_|.bool,_|.str,_|.ifc,_|.sl _,_|.slf _,_=>rfl
theorem dC:∀ (r:RT) (x:r.D),DV.encL (r.dv .own x)=RT.enc r x
 |.one t,x=>by simp only[RT.dv,DV.encL,RT.enc,nH t x]
 |.cons t r,x=>by simp only[RT.dv,DV.encL,RT.enc,nH t x.1,dC r x.2]
theorem bw(r:RT):∀ (l:List r.D) (j:Nat) (y:r.D),Df (l.map (RT.enc r)) j (RT.enc r y)=(l.set j y).map (RT.enc r)
 |[],_,_=>rfl
 |_::_,0,_=>rfl
 |_::l,j+1,y=>by simp only[Cr,Df,List.set_cons_succ,bw r l j y]
theorem Zam(v:DV)(p:List Nat)(h:v.fcell p≠.any):v.enc.fcell p=(v.fcell p).enc:=by
 cases v with
 | agg cs=>
   match p with
   |[]=>exact absurd rfl h
   |[c]=>exact(Px cs c).symm
   |_::_::_=>exact absurd rfl h
 | tup vs=>
   match p with
   |[]=>exact absurd rfl h
   |[_]=>exact absurd rfl h
   | [i,c]=>
     show Aa (Aa (DV.encL vs) i).cells c=(Hj (Hj vs i).cells c).enc;rw[<- Px,LL,<- Px]
   |_::_::_::_=>exact absurd rfl h
 |any=>match p with|[]=>exact absurd rfl h|[0]=>exact absurd rfl h|[_+1]=>exact absurd rfl h|0::_::_=>exact absurd rfl h|(_+1)::_::_=>exact absurd rfl h
 |undef=>match p with|[]=>exact absurd rfl h|[0]=>rfl|[_+1]=>exact absurd rfl h|0::_::_=>exact absurd rfl h|(_+1)::_::_=>exact absurd rfl h
 |bool _=>match p with|[]=>exact absurd rfl h|[0]=>rfl|[_+1]=>exact absurd rfl h|0::_::_=>exact absurd rfl h|(_+1)::_::_=>exact absurd rfl h
 |int _ _=>match p with|[]=>exact absurd rfl h|[0]=>rfl|[_+1]=>exact absurd rfl h|0::_::_=>exact absurd rfl h|(_+1)::_::_=>exact absurd rfl h
 |str _=>match p with|[]=>exact absurd rfl h|[0]=>rfl|[_+1]=>exact absurd rfl h|0::_::_=>exact absurd rfl h|(_+1)::_::_=>exact absurd rfl h
 |ifc _=>match p with|[]=>exact absurd rfl h|[0]=>rfl|[_+1]=>exact absurd rfl h|0::_::_=>exact absurd rfl h|(_+1)::_::_=>exact absurd rfl h
 |nil _=>match p with|[]=>exact absurd rfl h|[0]=>rfl|[_+1]=>exact absurd rfl h|0::_::_=>exact absurd rfl h|(_+1)::_::_=>exact absurd rfl h
 |sl _ _ _=>match p with|[]=>exact absurd rfl h|[0]=>rfl|[_+1]=>exact absurd rfl h|0::_::_=>exact absurd rfl h|(_+1)::_::_=>exact absurd rfl h
 |ep _ _ _ _ _=>match p with|[]=>exact absurd rfl h|[0]=>rfl|[_+1]=>exact absurd rfl h|0::_::_=>exact absurd rfl h|(_+1)::_::_=>exact absurd rfl h
 |box _ _=>match p with|[]=>exact absurd rfl h|[0]=>rfl|[_+1]=>exact absurd rfl h|0::_::_=>exact absurd rfl h|(_+1)::_::_=>exact absurd rfl h
 |ptr _ _=>match p with|[]=>exact absurd rfl h|[0]=>rfl|[_+1]=>exact absurd rfl h|0::_::_=>exact absurd rfl h|(_+1)::_::_=>exact absurd rfl h
theorem KK{d:DS}{s:PS}(hs:ES d s)(hd:Hd)(p:List Nat)(h:CG d hd p≠.any):Ds s hd p=(CG d hd p).enc:=by
 cases hd with
 | s t=>
   rcases hs.sl.get t with hg|hg
   . simp only[CG,hg] at h;refine absurd ?_ h
     match p with
     |[]=>rfl
     |[0]=>rfl
     |[_+1]=>rfl
     |0::_::_=>rfl
     |(_+1)::_::_=>rfl
   . simp only[CG,Ds,hg] at h ⊢;exact Zam _ p h
 | b i=>
   match p with
   |[]=>exact absurd rfl h
   |_::_::_=>exact absurd rfl h
   | [c]=>
     rcases hs.bx.get i with hb|hb
     . simp only[CG,hb,Bs] at h;exact absurd rfl h
     . exact(hb.get c).of h
 | h i=>
   match p with
   |[]=>exact absurd rfl h
   |_::_::_=>exact absurd rfl h
   | [c]=>
     rcases hs.hp.get i with hb|hb
     . simp only[CG,hb,Bs] at h;exact absurd rfl h
     . exact(hb.get c).of h
 |x i=>exact absurd rfl h
theorem ZaZ(v:DV)(p:List Nat)(w:DV):v.enc.setc p w.enc=(v.setc p w).enc:=by
 cases v with
 | agg cs=>
   match p with
   |[]=>rfl
   |[c]=>exact congrArg PV.agg (WJ cs c w).symm
   |_::_::_=>rfl
 | tup vs=>
   match p with
   |[]=>rfl
   |[0]=>rfl
   |[_+1]=>rfl
   |0::_::_=>rfl
   |(_+1)::_::_=>rfl
 |any=>match p with|[]=>rfl|[0]=>rfl|[_+1]=>rfl|0::_::_=>rfl|(_+1)::_::_=>rfl
 |undef=>match p with|[]=>rfl|[0]=>rfl|[_+1]=>rfl|0::_::_=>rfl|(_+1)::_::_=>rfl
 |bool _=>match p with|[]=>rfl|[0]=>rfl|[_+1]=>rfl|0::_::_=>rfl|(_+1)::_::_=>rfl
 |int _ _=>match p with|[]=>rfl|[0]=>rfl|[_+1]=>rfl|0::_::_=>rfl|(_+1)::_::_=>rfl
 |str _=>match p with|[]=>rfl|[0]=>rfl|[_+1]=>rfl|0::_::_=>rfl|(_+1)::_::_=>rfl
 |ifc _=>match p with|[]=>rfl|[0]=>rfl|[_+1]=>rfl|0::_::_=>rfl|(_+1)::_::_=>rfl
 |nil _=>match p with|[]=>rfl|[0]=>rfl|[_+1]=>rfl|0::_::_=>rfl|(_+1)::_::_=>rfl
 |sl _ _ _=>match p with|[]=>rfl|[0]=>rfl|[_+1]=>rfl|0::_::_=>rfl|(_+1)::_::_=>rfl
 |ep _ _ _ _ _=>match p with|[]=>rfl|[0]=>rfl|[_+1]=>rfl|0::_::_=>rfl|(_+1)::_::_=>rfl
 |box _ _=>match p with|[]=>rfl|[0]=>rfl|[_+1]=>rfl|0::_::_=>rfl|(_+1)::_::_=>rfl
 |ptr _ _=>match p with|[]=>rfl|[0]=>rfl|[_+1]=>rfl|0::_::_=>rfl|(_+1)::_::_=>rfl
theorem EBx.put{a:List DC}{b:List PV}{v:DV}{p:PV}(n:Nat)(h:EBx a b)(hv:EV v p):EBx (DX a n v) (B1 b n p):=by
 rcases h with rfl|h
 . exact .inl rfl
 . exact .inr (h.put n hv)
theorem Pd{d:DS}{s:PS}(hs:ES d s)(hd:Hd)(p:List Nat)(w:DV)(h:CG d hd p≠.any):ES (HR d w hd p) (setK s w.enc hd p):=by
 cases hd with
 | s t=>
   refine⟨(hs.sl.put t (.inr ?_)).clr _,hs.bx,hs.hp⟩;rcases hs.sl.get t with hg|hg
   . simp only[CG,hg] at h;refine absurd ?_ h
     match p with
     |[]=>rfl
     |[0]=>rfl
     |[_+1]=>rfl
     |0::_::_=>rfl
     |(_+1)::_::_=>rfl
   . rw[hg];exact ZaZ _ p w
 | b i=>
   match p with
   |[]=>exact absurd rfl h
   |_::_::_=>exact absurd rfl h
   |[c]=>exact⟨hs.sl.clr _,hs.bx.put i ((hs.bx.get i).put c (.inr rfl)),hs.hp⟩
 | h i=>
   match p with
   |[]=>exact absurd rfl h
   |_::_::_=>exact absurd rfl h
   |[c]=>exact⟨hs.sl.clr _,hs.bx,hs.hp.put i ((hs.hp.get i).put c (.inr rfl))⟩
 |x i=>exact absurd rfl h
theorem vz{n:Nat}{a x:Opnd}{d d':DS}{s:PS}{g:PX}{v:DV}(hs:ES d s)(h:R8 n a x d=some (g,v,d'))(hg:g.den):∃ s',RQ n a x s=some (v.enc,s')/\ES d' s':=by
 unfold R8 at h;generalize hm:Bp x d=w at h;obtain⟨w,d1⟩:=w;simp only at h
 have hw:DR w.cells=true->ES d1 (mvOut x s).2/\(mvOut x s).1=w.enc:=λ hcl=>by
  obtain⟨m1,m2⟩:=Fw x hs (by rw[hm];exact RL w hcl);rw[hm] at m1 m2;exact⟨m2,m1⟩
 split at h
 . rename_i i o ha;by_cases hc:(Nat.blt i d1.hp.length&&w.cells.length == n&&Nat.ble (o+n) (BO d1.hp i).length&&DR w.cells)=true
   . rw[Ac hc] at h;simp only[Ah,A0] at hc;obtain⟨⟨⟨hi,rfl⟩,hl⟩,hcl⟩:=hc;have hi:=Dd hi;have hl:=Dd hl;obtain⟨m2,m1⟩:=hw hcl;have ha':=a.dev_ev m2;rw[ha] at ha';simp only[Ak,Al] at h;obtain⟨rfl,rfl,rfl⟩:=h;have hbx:=m2.hp.get i
     have hel:o+w.cells.length<=(Aj (mvOut x s).2.hp i).length:=by
      rcases hbx with he|he
      . rw[he] at hl;simp only[AJ] at hl;omega
      . rw[<- he.len];exact hl
     simp only[RQ,ha'.of (by simp:DV.ptr i o≠.any),DV.enc,m1,LL,E3,Jy];rw[Ac ⟨by rw[<- m2.hp.len];exact hi,trivial,hel,M7 _ hcl⟩];refine⟨_,rfl,m2.sl.clr2 λ hx=>?_,m2.bx,m2.hp.put i (hbx.splice (EL.news w.cells) hl)⟩;simp only[Ca,CJ] at hx ⊢;rw[(hbx.segm hl hx.1.1).2,Pq];exact⟨hx.1.2,hx.2⟩
   . rw[Ae hc] at h;cases h
 . rename_i hd p r0 l0 j o ha
   cases hk:CG d1 hd [p]<;>rw[hk] at h<;>try (cases h;done)
   rename_i q r l
   cases q<;>try (cases h;done)
   simp only at h;by_cases hc:(w.cells.length == n&&Nat.ble (o+n) r.w&&DR w.cells)=true
   . rw[Ac hc] at h;simp only[Ah,A0] at hc;obtain⟨⟨rfl,hl⟩,hcl⟩:=hc;have hl:=Dd hl
     cases hof:r.of (LV (r.dv .own (lGet l j r.dflt)) o w.cells) with
     |none=>rw[hof] at h;cases h
     | some y=>
       rw[hof] at h;simp only[Ak,Al] at h;obtain⟨rfl,rfl,rfl⟩:=h;obtain⟨m2,m1⟩:=hw hcl;have ha':=a.dev_ev m2;rw[ha] at ha'
       have hne:CG d1 hd [p]≠.any:=by rw[hk];simp
       have hj:j<l.length:=hg;have e1:=KK m2 hd [p] hne;rw[hk] at e1;have e2:=SX hof;rw[VY,dC,cw,<- Ni r l j hj] at e2;have e3:=Pd m2 hd [p] (.sl .own r (lSet l j y)) hne;simp only[RQ,ha'.of (by simp:DV.ep (.bor hd [p] true) r0 l0 j o≠.any),DV.enc,m1,LL,E3,e1,Bc];rw[Ac ⟨hj,trivial,by rw[Ni r l j hj,Nk];exact hl,M7 _ hcl⟩,e2,bw];simp only[DV.enc,cW] at e3;exact⟨_,rfl,by rw[cW];exact e3⟩
   . rw[Ae hc] at h;cases h
 . cases h
theorem iQ{m:Bool}{n:Option Nat}{a:DV}{p:PV}{d d':DS}{s:PS}{r:Ez}{g:PX}{v:DV}(hs:ES d s)(ha:EV a p)(h:Nr m n a d=some r)(hr:r=some (g,v,d'))(hg:g.den):Mk m n p s=some (some v.enc)/\d'=d:=by cases h
theorem yK{m:Bool}{n:Option Nat}{a:DV}{p:PV}{d:DS}{s:PS}(ha:EV a p)(hne:a≠.any)(h:Nr m n a d=none):Mk m n p s=none:=rfl
theorem y4{i c:Nat}{a:DV}{p:PV}(ha:EV a p)(hx:a.nestX i c=true):p.nestX i c=true:=by
 rw[ha.of (λ e=>by rw[e] at hx;cases hx)];unfold DV.nestX at hx;split at hx
 . exact hx
 . cases hx
theorem Zar{a:DV}{p:PV}(ha:EV a p)(hne:a≠.any):p.nest=a.nest:=rfl
theorem vT{n:Nat}{hd:Hd}{p k j o:Nat}{w:DV}{pw:PV}{d d':DS}{s:PS}{g:PX}{v:DV}(hs:ES d s)(hw:EV w pw)(h:bB n hd p k j o w d=some (g,v,d'))(hg:g.den):∃ s',aP n hd p k j o pw s=some (v.enc,s')/\ES d' s':=by cases h
theorem xO{d:DS}{s:PS}(x:Opnd)(h:ES d s)(hk:(Fz x d).1.ok=true):(fzOut x s).1=(Fz x d).1.enc/\ES (Fz x d).2 (fzOut x s).2:=by
 cases x with
 | c v=>
   refine⟨?_,h⟩;refine(RN v λ he=>?_).symm;simp only[Fz,he,DV.ok,AL] at hk
 | t n =>
   simp only[Fz,Te,fzOut,Yn] at hk ⊢;rcases h.sl.get n with hg|hg
   . rw[hg] at hk;simp only[DV.own,AL,AQ,DV.ok] at hk
   . rw[hg,Jy];by_cases ho:(Bs d.sl n).own=true
     . simp only[ho,AN] at hk ⊢;by_cases hr:(Bs d.sl n).retok=true
       . rw[Ac hr,Ac (jY _ hr),<- XI];exact⟨rfl,(h.sl.put n (.inr rfl)).clr _,h.bx,h.hp⟩
       . rw[Ae hr] at hk;cases hk
     . simp only[ho] at hk ⊢;exact⟨rfl,h⟩
theorem Zbr(hd:Hd)(v:DV)(h:v≠.any):(dL hd v).enc=I8 hd v.enc:=by
 cases v<;>first|rfl|exact absurd rfl h|skip
 case nil q=>cases q<;>rfl
 case sl q r l=>cases q<;>rfl
 case agg cs=>show PV.agg _=PV.agg _;rw[RU]
 case tup vs=>
  simp only[dL,DV.enc,I8,Pq];split<;>rfl
theorem xQ{d:DS}{s:PS}(x:Opnd)(h:ES d s)(hk:(KT x d).1.ok=true):(Mm x s).1=(KT x d).1.enc/\ES (KT x d).2 (Mm x s).2:=by
 cases x with
 | c v=>
   refine⟨?_,h⟩;refine(RN v λ he=>?_).symm;simp only[KT,he,DV.ok,AL] at hk
 | t n=>
   simp only[KT] at hk
   have hn:Bs d.sl n≠.any:=by intro e;rw[e] at hk;cases hk
   simp only[KT,Mm];rw[(h.sl.get n).of hn,Zbr _ _ hn];exact⟨rfl,h⟩
theorem Jq:∀ (l:List V),Hz l=true->l.all V.flat=true/\DV.encL (Hg l)=l.map BG/\DR (Hg l)=true
 |[],_=>⟨rfl,rfl,rfl⟩
 | v::r,h=>by
   simp only[Hz,Ah] at h;obtain⟨h1,h2,h3⟩:=Jq r h.2
   have hv:(JX v).cell=true/\(JX v).enc=BG v:=by cases v<;>first|exact⟨rfl,rfl⟩|(have:=h.1;cases this)
   refine⟨by simp only[GB,h.1,h1,Dm],?_,?_⟩
   . simp only[Hg,DV.encL,Cr,h2,hv.2]
   . simp only[Hg,DR,hv.1,h3,Dm]
theorem ZG:∀ (ps:List (Nat×Nat×Opnd)) {cs cs':List DV} {d d':DS} {s:PS},ES d s->JH cs ps d=some (cs',d')->∃ s',EO (DV.encL cs) ps s=some (DV.encL cs',s')/\ES d' s'
 | [],cs,cs',d,d',s,hs,h=>by
   simp only[JH,Ak,Al] at h
   obtain⟨rfl,rfl⟩:=h
   exact⟨s,rfl,hs⟩
 | (off,size,x)::r,cs,cs',d,d',s,hs,h=>by
   unfold JH at h
   by_cases hc:((Bp x d).1.cells.length == size&&Nat.ble (off+size) cs.length&&DR (Bp x d).1.cells)=true
   . rw[Ac hc] at h
     simp only[Ah,A0] at hc
     obtain⟨⟨h1,h2⟩,h3⟩:=hc
     obtain⟨m1,m2⟩:=Fw x hs (RL _ h3)
     obtain⟨s',e1,e2⟩:=ZG r m2 h
     refine⟨s',?_,e2⟩
     unfold EO
     rw[m1,LL,E3,E3,Ac ⟨h1,Dd h2,M7 _ h3⟩,<- VY]
     exact e1
   . rw[Ae hc] at h;cases h
theorem km:∀ (n:Nat) (l:List DV),DV.encL (l.take n)=(DV.encL l).take n
 |0,_=>rfl
 |_+1,[]=>rfl
 |n+1,_::r=>by simp only[cJ,DV.encL,km n r]
theorem jG:∀ (n:Nat) (l:List DV),DV.encL (l.drop n)=(DV.encL l).drop n
 |0,_=>rfl
 |_+1,[]=>rfl
 |n+1,_::r=>by simp only[List.drop_succ_cons,DV.encL,jG n r]
theorem gR(r:RT)(w:Nat):∀ (n:Nat) (cs:List DV) (l:List r.D),PJ r w n cs=some l->EI w n (DV.encL cs)=l.map (RT.enc r)
 | 0,cs,l,h=>by
   simp only[PJ,Ak] at h;subst h;rfl
 | n + 1,cs,l,h=>by
   unfold PJ at h
   cases h1:r.of (cs.take w) with
   |none=>rw[h1] at h;cases h
   | some x=>
     cases h2:PJ r w n (cs.drop w) with
     |none=>rw[h1,h2] at h;cases h
     | some y=>
       rw[h1,h2] at h
       have:=C9 h
       subst this
       simp only[EI,Cr,<- km,<- jG,SX h1,gR r w n _ y h2]
def DSrc.es:DSrc->List (List PV)
 |.nil=>[]
 |.sl r l=>l.map (RT.enc r)
theorem SV{r:RT}{x:DSrc}{l:List r.D}(h:x.to r=some l):x.es=l.map (RT.enc r):=by
 cases x with
 |nil=>have:=C9 h;subst this;rfl
 |sl r' l'=>exact(RX h).2
theorem l9:∀ (t:CT) (x:t.D),t.flat=true->(CT.enc t x).flatc=true
 |.int _,_,_|.bool,_,_|.str,_,_|.ifc,_,_=>rfl
theorem ma:∀ (r:RT) (x:r.D),r.flat=true->HL (RT.enc r x)=true
 |.one t,x,h=>by simp only[RT.enc,HL,l9 t x h,Dm]
 | .cons t r,x,h=>by
   simp only[RT.flat,Ah] at h
   simp only[RT.enc,HL,l9 t x.1 h.1,ma r x.2 h.2,Dm]
theorem lK(r:RT)(h:r.flat=true):∀ (l:List r.D),JI (l.map (RT.enc r))=true
 |[]=>rfl
 |x::l=>by simp only[Cr,JI,ma r x h,lK r h l,Dm]
theorem ZbE{w:Nat}{x:DSrc}(h:x.w w=true):C0 w x.es=true:=by
 cases x with
 |nil=>rfl
 | sl r l=>
   have:r.w=w:=by simpa [DSrc.w] using h
   subst this;exact F2 r l
theorem mv_ok{d:DS}{x:Opnd}(v:DV)(hx:x.dev d.sl=v)(ho:v.own=true)(hb:∀ hd,v.bor hd=false)(hk:v.ok=true):(Bp x d).1=v:=by
 cases x with
 |c c=>exact hx
 | t n=>
   have hx':Bs d.sl n=v:=hx;simp only[Bp,Th,hx',ho,hb,AN,AL,AQ]
theorem ZV{w:Nat}{y:Opnd}{d d':DS}{s:PS}{new:DSrc}(hs:ES d s)(h:JW w y d=some (new,d')):∃ s',FF w y s=some (new.es,s')/\ES d' s':=by
 have hy:=y.dev_ev hs;unfold JW at h;unfold FF
 cases hv:y.dev d.sl with
 | str t=>
   rw[hv] at h hy;simp only at h;by_cases hw:(w == 1)=true
   . rw[Ac hw] at h;simp only[Ak,Al] at h;obtain⟨rfl,rfl⟩:=h;rw[hy.of (by simp)];simp only[DV.enc];rw[Ac (by simpa using hw)];refine⟨s,?_,hs⟩
     have:(DSrc.sl (.one (.int .u8)) (sRow t)).es=t.map λ b=>[PV.fl (.int .u8 b.toNat)]:=by
      unfold DSrc.es;rw[Zdd];clear hy hv
      induction t with
      |nil=>rfl
      |cons b t ih=>exact congrArg (List.cons _) ih
     rw[this]
   . rw[Ae hw] at h;cases h
 | nil q=>
   rw[hv] at h hy;have hp:=hy.of (by simp)
   cases q with
   | own=>
     simp only[Ak,Al] at h;obtain⟨rfl,rfl⟩:=h;have hk:=mv_ok (.nil .own) hv rfl (λ _=>rfl) rfl;obtain⟨m1,m2⟩:=Fw y hs (by rw[hk];rfl);rw[hp];exact⟨_,rfl,m2⟩
   | frz=>
     simp only[Ak,Al] at h;obtain⟨rfl,rfl⟩:=h;rw[hp];exact⟨s,rfl,hs⟩
   | ownw w'=>
     simp only[Ak,Al] at h;obtain⟨rfl,rfl⟩:=h;rw[hp];exact⟨s,rfl,hs⟩
   | bor a b c=>
     simp only[Ak,Al] at h;obtain⟨rfl,rfl⟩:=h;rw[hp];exact⟨s,rfl,hs⟩
   | pre a b=>
     simp only[Ak,Al] at h;obtain⟨rfl,rfl⟩:=h;rw[hp];exact⟨s,rfl,hs⟩
 | sl q r l=>
   rw[hv] at h hy;have hp:=hy.of (by simp)
   have key:(if (r.w == w&&r.flat)=true then some (DSrc.sl r l,d) else none)=some (new,d')->C0 w (l.map (RT.enc r))=true/\JI (l.map (RT.enc r))=true/\new.es=l.map (RT.enc r)/\d'=d:=λ h=>by
    by_cases hw:(r.w == w&&r.flat)=true
    . rw[Ac hw] at h;simp only[Ah,A0] at hw;simp only[Ak,Al] at h;obtain⟨rfl,rfl⟩:=h;exact⟨hw.1▸F2 r l,lK r hw.2 l,rfl,rfl⟩
    . rw[Ae hw] at h;cases h
   rw[hp]
   cases q with
   | own=>
     simp only at h;by_cases hw:(r.w == w)=true
     . rw[Ac hw] at h;simp only[Ak,Al] at h;obtain⟨rfl,rfl⟩:=h;have hk:=mv_ok (.sl .own r l) hv rfl (λ _=>rfl) rfl;obtain⟨m1,m2⟩:=Fw y hs (by rw[hk];rfl)
       have hw':r.w=w:=by simpa using hw
       simp only[DV.enc];rw[Ac (hw'▸F2 r l)];exact⟨_,rfl,m2⟩
     . rw[Ae hw] at h;cases h
   |ownw w'=>cases h
   |frz=>obtain⟨k1,k2,k3,rfl⟩:=key h;simp only[DV.enc];rw[Ac ⟨k1,k2⟩,k3];exact⟨s,rfl,hs⟩
   |bor a b c=>obtain⟨k1,k2,k3,rfl⟩:=key h;simp only[DV.enc];rw[Ac ⟨k1,k2⟩,k3];exact⟨s,rfl,hs⟩
   |pre a b=>obtain⟨k1,k2,k3,rfl⟩:=key h;simp only[DV.enc];rw[Ac ⟨k1,k2⟩,k3];exact⟨s,rfl,hs⟩
 |_=>rw[hv] at h;cases h
theorem Nn{x:DSrc}{r:RT}{l:List r.D}(h:x.to r=some l):x.es.length=l.length:=by rw[SV h,Bc]
theorem iZ{w:Nat}{x:Opnd}{new:DSrc}{d d':DS}{s:PS}{g:PX}{v:DV}(hs:ES d s)(h:Ms w x new d=some (g,v,d'))(hg:g.den):∃ s',IX w x new.es s=some (v.enc,s')/\ES d' s':=by
 have hx:=x.dev_ev hs;unfold Ms at h;by_cases h0:(Nat.blt 0 w&&new.w w)=true
 . simp only [h0,Gy,AL,AQ] at h;simp only[Ah] at h0;have hw0:0<w:=Dd h0.1;unfold IX
   cases hv:x.dev d.sl with
   | nil q =>
     rw[hv] at h hx;rw[hx.of (by simp)]
     cases q with
     | own=>
       have hk:=mv_ok (.nil .own) hv rfl (λ _=>rfl) rfl;obtain⟨m1,m2⟩:=Fw x hs (by rw[hk];rfl)
       cases new with
       | nil=>
         simp only[Ak,Al] at h;obtain⟨rfl,rfl,rfl⟩:=h;simp only[DV.enc,DSrc.es,AJ,HF,NA,Sx];rw[Ac ⟨hw0,rfl,GC _⟩];exact⟨_,rfl,m2⟩
       | sl r l=>
         simp only[Ak,Al] at h;obtain⟨rfl,rfl,rfl⟩:=h;simp only[DV.enc,DSrc.es,AJ,Cf,Bc,CW];rw[Ac ⟨hw0,rfl,hg⟩];exact⟨_,rfl,m2⟩
     | bor hd p t=>
       cases t with
       | false=>cases p with
         |nil=>cases h
         |cons c p=>cases p<;>cases h
       | true=>
         match p,h with
         | [c],h=>
           simp only at h ⊢
           cases hk:CG d hd [c]<;>rw[hk] at h<;>try (cases h;done)
           rename_i q
           cases q<;>try (cases h;done)
           have hne:CG d hd [c]≠.any:=by rw[hk];simp
           have e1:=KK hs hd [c] hne;rw[hk] at e1;have e3:=Pd hs hd [c] .undef hne
           cases new with
           | nil=>
             simp only[Ak,Al] at h;obtain⟨rfl,rfl,rfl⟩:=h;simp only[DV.enc,e1,DSrc.es,AJ,HF,NA,Sx];rw[Ac ⟨hw0,rfl,trivial,GC _⟩];exact⟨_,rfl,e3⟩
           | sl r l=>
             simp only[Ak,Al] at h;obtain⟨rfl,rfl,rfl⟩:=h;simp only[DV.enc,e1,DSrc.es,AJ,Cf,Bc,CW];rw[Ac ⟨hw0,rfl,trivial,hg⟩];exact⟨_,rfl,e3⟩
         |[],h=>cases h
         |_::_::_,h=>cases h
     |_=>cases h
   | sl q r l=>
     rw[hv] at h hx;rw[hx.of (by simp)]
     cases q with
     | own =>
       simp only at h;by_cases hw:(r.w == w)=true
       . rw[Ac hw] at h
         have hw':r.w=w:=by simpa using hw
         cases ht:new.to r with
         |none=>rw[ht] at h;cases h
         | some n=>
           rw[ht] at h;simp only[Ak,Al] at h;obtain⟨rfl,rfl,rfl⟩:=h;have hk:=mv_ok (.sl .own r l) hv rfl (λ _=>rfl) rfl;obtain⟨m1,m2⟩:=Fw x hs (by rw[hk];rfl);simp only[DV.enc,Bc,Nn ht];rw[Ac ⟨hw0,hw'▸F2 r l,hg⟩,SV ht];refine⟨_,?_,m2⟩;simp only[Nt,Gx]
       . rw[Ae hw] at h;cases h
     | bor hd p t=>
       cases t with
       | false=>cases p with
         |nil=>cases h
         |cons c p=>cases p<;>cases h
       | true=>
         match p,h with
         | [c],h=>
           simp only at h ⊢
           cases hk:CG d hd [c]<;>rw[hk] at h<;>try (cases h;done)
           rename_i q rh lh
           cases q<;>try (cases h;done)
           simp only at h;by_cases hw:(rh.w == w)=true
           . rw[Ac hw] at h
             have hw':rh.w=w:=by simpa using hw
             cases ht:new.to rh with
             |none=>rw[ht] at h;cases h
             | some n=>
               rw[ht] at h;simp only[Ak,Al] at h;obtain⟨rfl,rfl,rfl⟩:=h
               have hne:CG d hd [c]≠.any:=by rw[hk];simp
               have e1:=KK hs hd [c] hne;rw[hk] at e1;have e3:=Pd hs hd [c] .undef hne;simp only[DV.enc,e1,Bc,Nn ht];rw[Ac ⟨hw0,hw'▸F2 rh lh,hg.1,hg.2⟩,SV ht];refine⟨_,?_,e3⟩;simp only[Nt,Gx,DV.enc]
           . rw[Ae hw] at h;cases h
         |[],h=>cases h
         |_::_::_,h=>cases h
     | pre hd p=>
      match p,h with
      | [c],h=>
        simp only at h ⊢
        cases hk:CG d hd [c]<;>rw[hk] at h<;>try (cases h;done)
        rename_i q rh lh
        cases q<;>try (cases h;done)
        simp only at h;by_cases hw:(rh.w == w)=true
        . rw[Ac hw] at h
          have hw':rh.w=w:=by simpa using hw
          cases ht:new.to rh with
          |none=>rw[ht] at h;cases h
          | some n=>
            rw[ht] at h;simp only[Ak,Al] at h;obtain⟨rfl,rfl,rfl⟩:=h
            have hne:CG d hd [c]≠.any:=by rw[hk];simp
            have e1:=KK hs hd [c] hne;rw[hk] at e1;have e3:=Pd hs hd [c] .undef hne;simp only[DV.enc,e1,Bc,Nn ht];rw[Ac ⟨hw0,hw'▸F2 rh lh,hg.1,hg.2.1,hg.2.2.2⟩,SV ht,Ae (Nat.ne_of_gt hg.2.2.1)];refine⟨_,?_,e3⟩;simp only[Nt,bP,Yf,Gx,Xq,DV.enc]
        . rw[Ae hw] at h;cases h
      |[],h=>cases h
      |_::_::_,h=>cases h
     |_=>cases h
   |_=>rw[hv] at h;cases h
 . simp only[h0] at h;cases h
theorem jR{zs:List V}(h:Hz zs=true):EL (news (Hg zs)) (zs.map BG):=by rw[<- (Jq zs h).2.1];exact EL.news _
theorem EB.append{c:List DC}{p:List PV}:∀ {a:List (List DC)} {b:List (List PV)},EB a b->EBx c p->EB (a++[c]) (b++[p])
 |[],[],_,h=>⟨h,trivial⟩
 |_::_,_::_,h,h'=>⟨h.1,EB.append h.2 h'⟩
theorem wz(r:RT)(x:r.D)(n:Nat):(List.replicate n x).map (RT.enc r)=List.replicate n (RT.enc r x):=by simp
theorem VT{m:Bool}{o:AOp}{ty:Option RT}{d d':DS}{s:PS}{g:PX}{v:DV}(hs:ES d s)(h:Br m o ty d=some (g,v,d'))(hg:g.den):∃ s',Bq m o s=some (v.enc,s')/\ES d' s':=by
 have E:=λ x=>Opnd.dev_ev hs x
 have pure:(P8 o (λ x=>x.dev d.sl)).map (λ r=>(r.1,r.2,d))=some (g,v,d')->∃ s',Bq m o s=some (v.enc,s')/\ES d' s':=λ h=>by
  cases hp:P8 o (λ x=>x.dev d.sl) with
  |none=>rw[hp] at h;cases h
  | some r=>
    obtain⟨g1,v1⟩:=r;rw[hp] at h;simp only[Cv,Ak,Al] at h;obtain⟨rfl,rfl,rfl⟩:=h;exact⟨s,xW hs hp hg,hs⟩
 cases o<;>first|exact pure h|skip
 case mv x=>
  cases m with
  | false=>
    simp only[Br,AL,AQ] at h;by_cases hk:(Bp x d).1.ok=true
    . rw[Ac hk] at h;simp only[Ak,Al] at h;obtain⟨rfl,rfl,rfl⟩:=h;obtain⟨m1,m2⟩:=Fw x hs hk;exact⟨_,by simp only[Bq,AL,AQ,<- m1],m2⟩
    . rw[Ae hk] at h;cases h
  | true=>
    simp only[Br,AN] at h;by_cases hk:(KT x d).1.ok=true
    . rw[Ac hk] at h;simp only[Ak,Al] at h;obtain⟨rfl,rfl,rfl⟩:=h;obtain⟨m1,m2⟩:=xQ x hs hk;exact⟨_,by simp only[Bq,AN,<- m1],m2⟩
    . rw[Ae hk] at h;cases h
 case loadB i n a=>exact Zx hs (E a) h
 case loadH n a=>
  simp only[Br] at h
  cases hn:Nr m n (a.dev d.sl) d with
  | none=>
    rw[hn] at h;obtain⟨s',h1,h2⟩:=ZB hs (E a) h hg;refine⟨s',?_,h2⟩
    have hne:a.dev d.sl≠.any:=by
     intro e;simp only[e,KZ] at h;cases h
    simp only[Bq,yK (s:=s) (E a) hne hn];exact h1
  | some r=>
    rw[hn] at h;obtain⟨h1,rfl⟩:=iQ hs (E a) hn h hg;exact⟨s,by simp only[Bq,h1];rfl,hs⟩
 case loadX i c n a=>
  simp only[Br] at h;split at h
  . rename_i hx
    cases hn:Nr m n (a.dev d.sl) d with
    |none=>rw[hn] at h;cases h
    | some r=>
      rw[hn] at h;obtain⟨h1,rfl⟩:=iQ hs (E a) hn h hg;exact⟨s,by simp only[Bq,y4 (E a) hx,AN,h1];rfl,hs⟩
  . cases h
 case storeB i n a x=>exact vG hs h
 case storeH n a x=>
  simp only[Br] at h;split at h
  . rename_i hok;have hn:=Zar (E a) (λ e=>by rw[e] at hok;cases hok);split at h
    . rename_i hd p k j o hm;obtain⟨s',h1,h2⟩:=vT hs (E x) h hg;exact⟨s',by simp only[Bq,hn,hm];exact h1,h2⟩
    . rename_i hm;obtain⟨s',h1,h2⟩:=vz hs h hg;exact⟨s',by simp only[Bq,hn,hm];exact h1,h2⟩
  . cases h
 case appN w x y=>
  simp only[Br] at h;split at h
  . rename_i hx
    cases h1:JW w y d with
    |none=>rw[h1] at h;cases h
    | some r=>
      obtain⟨new,d1⟩:=r;rw[h1] at h;obtain⟨s1,e1,e2⟩:=ZV hs h1;obtain⟨s2,e3,e4⟩:=iZ e2 h hg;have ex:=(E x).of (by rw[hx];simp);rw[hx] at ex;exact⟨s2,by simp only[Bq,ex,DV.enc,e1];exact e3,e4⟩
  . cases h
 case app w x y=>
  simp only[Br] at h
  cases h1:JW w y d with
  |none=>rw[h1] at h;cases h
  | some r=>
    obtain⟨new,d1⟩:=r;rw[h1] at h;obtain⟨s1,e1,e2⟩:=ZV hs h1;obtain⟨s2,e3,e4⟩:=iZ e2 h hg;exact⟨s2,by simp only[Bq,e1];exact e3,e4⟩
 case allocB i zs=>
  simp only[Br] at h;by_cases hc:(Nat.blt i d.bx.length&&Hz zs)=true
  . rw[Ac hc] at h;simp only[Ah] at hc;simp only[Ak,Al] at h;obtain⟨rfl,rfl,rfl⟩:=h;simp only[Bq];rw[Ac ⟨by rw[<- hs.bx.len];exact Dd hc.1,(Jq zs hc.2).1⟩];exact⟨_,rfl,(hs.sl.clearBox i).clr _,hs.bx.put i (.inr (jR hc.2)),hs.hp⟩
  . rw[Ae hc] at h;cases h
 case boxB i n x=>
  simp only[Br] at h;by_cases hc:(Nat.blt i (Bp x d).2.bx.length&&(Bp x d).1.cells.length == n&&DR (Bp x d).1.cells)=true
  . rw[Ac hc] at h;simp only[Ah,A0] at hc;obtain⟨⟨h1,rfl⟩,h3⟩:=hc;obtain⟨m1,m2⟩:=Fw x hs (RL _ h3);simp only[Ak,Al] at h;obtain⟨rfl,rfl,rfl⟩:=h;simp only[Bq,m1,LL,E3];rw[Ac ⟨by rw[<- m2.bx.len];exact Dd h1,trivial,M7 _ h3⟩];exact⟨_,rfl,(m2.sl.clearBox i).clr _,m2.bx.put i (.inr (EL.news _)),m2.hp⟩
  . rw[Ae hc] at h;cases h
 case allocH zs=>
  simp only[Br] at h;by_cases hc:Hz zs=true
  . rw[Ac hc] at h;simp only[Ak,Al] at h;obtain⟨rfl,rfl,rfl⟩:=h;simp only[Bq];rw[Ac (Jq zs hc).1,<- hs.hp.len];exact⟨_,rfl,hs.sl.clr _,hs.bx,hs.hp.append (.inr (jR hc))⟩
  . rw[Ae hc] at h;cases h
 case boxH n x=>
  simp only[Br] at h;by_cases hc:((Bp x d).1.cells.length == n&&DR (Bp x d).1.cells)=true
  . rw[Ac hc] at h;simp only[Ah,A0] at hc;obtain⟨rfl,h3⟩:=hc;obtain⟨m1,m2⟩:=Fw x hs (RL _ h3);simp only[Ak,Al] at h;obtain⟨rfl,rfl,rfl⟩:=h;simp only[Bq,m1,LL,E3];rw[Ac ⟨trivial,M7 _ h3⟩,<- m2.hp.len];exact⟨_,rfl,m2.sl.clr _,m2.bx,m2.hp.append (.inr (EL.news _))⟩
  . rw[Ae hc] at h;cases h
 case build zs ps=>
  simp only[Br] at h;by_cases hc:Hz zs=true
  . rw[Ac hc] at h
    cases hf:JH (Hg zs) ps d with
    |none=>rw[hf] at h;cases h
    | some r=>
      obtain⟨cs,d1⟩:=r;rw[hf] at h;simp only[Ak,Al] at h;obtain⟨rfl,rfl,rfl⟩:=h;obtain⟨s',e1,e2⟩:=ZG ps hs hf;rw[(Jq zs hc).2.1] at e1;simp only[Bq];rw[Ac (Jq zs hc).1,e1];exact⟨s',rfl,e2⟩
  . rw[Ae hc] at h;cases h
 case mkSlice w z len=>
  simp only[Br] at h
  cases he:len.dev d.sl with
  | int k n=>
    rw[he] at h
    cases k<;>try (cases h)
    simp only at h;split at h
    . rename_i r hr;split at h
      . rename_i x hx;split at h
        . rename_i hc;simp only[Ah,A0] at hc;obtain⟨⟨⟨h1,h2⟩,h3⟩,h4⟩:=hc;simp only[Ak,Al] at h;obtain⟨rfl,rfl,rfl⟩:=h;have hp:=E len;rw[he] at hp;simp only[Bq,hp.of (by simp),DV.enc];rw[Ac ⟨hg.1,h1,Dd h3,(Jq z h4).1,hg.2⟩];refine⟨s,?_,hs⟩;rw[nb];rw[wz,<- SX hx,(Jq z h4).2.1]
        . cases h
      . cases h
    . cases h
  |_=>rw[he] at h;cases h
 case litSlice w n zs ps=>
  simp only[Br] at h;by_cases hn:(n == 0)=true
  . rw[Ac hn] at h;simp only[Ak,Al] at h;obtain⟨rfl,rfl,rfl⟩:=h;simp only[Bq];rw[Ac (by simpa using hn)];refine⟨s,?_,hs⟩;cases ty<;>rfl
  . rw[Ae hn] at h;split at h
    . rename_i hc;simp only[Ah,A0] at hc;obtain⟨⟨h1,h2⟩,h3⟩:=hc;split at h
      . rename_i cs d1 hf;split at h
        . rename_i r hr;split at h
          . split at h
            . rename_i l hl;simp only[Ak,Al] at h;obtain⟨rfl,rfl,rfl⟩:=h;obtain⟨s',e1,e2⟩:=ZG ps hs hf;rw[(Jq zs h1).2.1] at e1;simp only[Bq];rw[Ae (by simpa using hn),Ac ⟨(Jq zs h1).1,h2,Dd h3⟩,e1];refine⟨s',?_,e2⟩;simp only[Cv,DV.enc,gR r w n cs l hl]
            . cases h
          . cases h
        . cases h
      . cases h
    . cases h
 case extract x i=>
  simp only[Br] at h
  cases x with
  |c v=>cases h
  | t t =>
    simp only at h;have ht:EV (Bs d.sl t) (Aa s.sl t):=hs.sl.get t
    cases hv:Bs d.sl t with
    | tup vs=>
      rw[hv] at h ht;simp only at h;have hp:Aa s.sl t= .tup (DV.encL vs):=ht.of (by simp);split at h
      . rename_i hc;simp only[Ah] at hc;simp only[Bq,hp];rw[E3,Ac (show i<vs.length from Dd hc.1),<- Px,Jy,W5];split at h
        . rename_i ho;rw[Ac ho];split at h
          . cases h
          . rename_i hb;rw[Ae hb];simp only[Ak,Al] at h;obtain⟨rfl,rfl,rfl⟩:=h;refine⟨_,rfl,?_,hs.bx,hs.hp⟩;refine(EL.put t hs.sl (.inr ?_)).clr _;show PV.tup _=PV.tup _;rw[WJ];rfl
        . rename_i ho;rw[Ae ho];simp only[Ak,Al] at h;obtain⟨rfl,rfl,rfl⟩:=h;exact⟨_,rfl,hs⟩
      . cases h
    |_=>rw[hv] at h;cases h
theorem ca{w:Nat}{new:DSrc}{r:RT}{n:List r.D}(h:new.to r=some n)(l:List r.D)(hw:r.w=w):l.map (RT.enc r)++new.es=(l++n).map (RT.enc r)/\C0 w (l.map (RT.enc r)++new.es)=true:=by
 have:l.map (RT.enc r)++new.es=(l++n).map (RT.enc r):=by rw[SV h,Gx]
 exact⟨this,by rw[this];exact hw▸F2 r (l++n)⟩
theorem XN{w:Nat}{es:List (List PV)}(h:C0 w es=true):Fl [(0,w)] (.sl .own es)=some (.sl (.ownw w) es):=by
 show Gf w (.sl .own es)=_;simp only[Gf];rw[Ac h]
theorem ZbK{w:Nat}{es:List (List PV)}:Fl [(0,w)] (.sl (.ownw w) es)=some (.sl (.ownw w) es):=by
 show Gf w (.sl (.ownw w) es)=_;simp only[Gf,AN]
theorem Sz{w:Nat}{es:List (List PV)}{c:Prop} [Decidable c](h:C0 w es=true):Fl [(0,w)] (.sl (if c then .ownw w else .own) es)=some (.sl (.ownw w) es):=by
 split
 . exact ZbK
 . exact XN h
theorem xX{w:Nat}{x:Opnd}{new:DSrc}{d d':DS}{s:PS}{g:PX}{v:DV}(hs:ES d s)(h:S8 w x new d=some (g,v,d'))(hg:g.den):∃ s' v0,IX w x new.es s=some (v0,s')/\Fl [(0,w)] v0=some v.enc/\ES d' s':=by
 have hx:=x.dev_ev hs;unfold S8 at h;by_cases h0:(Nat.blt 0 w&&new.w w)=true
 . simp only [h0,Gy,AL,AQ] at h;simp only[Ah] at h0;have hw0:0<w:=Dd h0.1;have haw:=ZbE h0.2;unfold IX
   cases hv:x.dev d.sl with
   | nil q =>
     rw[hv] at h hx;rw[hx.of (by simp)]
     cases q with
     | own=>
       have hk:=mv_ok (.nil .own) hv rfl (λ _=>rfl) rfl;obtain⟨m1,m2⟩:=Fw x hs (by rw[hk];rfl);simp only[DV.enc,AJ,Cf,CW]
       cases new with
       | nil=>
         simp only[Mj,Ak,Al] at h;obtain⟨rfl,rfl,rfl⟩:=h;rw[Ac ⟨hw0,rfl,by simp[DSrc.es,Av]⟩];exact⟨_,_,rfl,XN haw,m2⟩
       | sl r l=>
         simp only[Mj,Ak,Al] at h;obtain⟨rfl,rfl,rfl⟩:=h;rw[Ac ⟨hw0,rfl,by simpa [DSrc.es,PX.den] using hg⟩];exact⟨_,_,rfl,XN haw,m2⟩
     | ownw w'=>
       simp only at h;by_cases hw':(w' == w)=true
       . rw[Ac hw'] at h
         have hw':w'=w:=by simpa using hw'
         subst hw';have hk:=mv_ok (.nil (.ownw w')) hv rfl (λ _=>rfl) rfl;obtain⟨m1,m2⟩:=Fw x hs (by rw[hk];rfl);simp only[DV.enc,AJ,Cf,CW]
         cases new with
         | nil=>
           simp only[Mj,Ak,Al] at h;obtain⟨rfl,rfl,rfl⟩:=h;rw[Ac ⟨hw0,trivial,rfl,by simp[DSrc.es,Av]⟩];exact⟨_,_,rfl,Sz haw,m2⟩
         | sl r l=>
           simp only[Mj,Ak,Al] at h;obtain⟨rfl,rfl,rfl⟩:=h;rw[Ac ⟨hw0,trivial,rfl,by simpa [DSrc.es,PX.den] using hg⟩];exact⟨_,_,rfl,Sz haw,m2⟩
       . rw[Ae hw'] at h;cases h
     |_=>cases h
   | sl q r l=>
     rw[hv] at h hx;rw[hx.of (by simp)]
     cases q with
     | own =>
       simp only at h;by_cases hw:(r.w == w)=true
       . rw[Ac hw] at h
         have hw':r.w=w:=by simpa using hw
         cases ht:new.to r with
         |none=>rw[ht] at h;cases h
         | some n=>
           rw[ht] at h;simp only[Ak,Al] at h;obtain⟨rfl,rfl,rfl⟩:=h;have hk:=mv_ok (.sl .own r l) hv rfl (λ _=>rfl) rfl;obtain⟨m1,m2⟩:=Fw x hs (by rw[hk];rfl);obtain⟨a1,a2⟩:=ca ht l hw';simp only[DV.enc,Bc,Nn ht];rw[Ac ⟨hw0,hw'▸F2 r l,hg⟩];exact⟨_,_,rfl,by rw[XN a2,a1];simp only[Nt],m2⟩
       . rw[Ae hw] at h;cases h
     | ownw w'=>
       simp only at h;by_cases hw:(w' == w&&r.w == w)=true
       . rw[Ac hw] at h;simp only[Ah,A0] at hw;obtain⟨rfl,hw'⟩:=hw
         cases ht:new.to r with
         |none=>rw[ht] at h;cases h
         | some n=>
           rw[ht] at h;simp only[Ak,Al] at h;obtain⟨rfl,rfl,rfl⟩:=h;have hk:=mv_ok (.sl (.ownw w') r l) hv rfl (λ _=>rfl) rfl;obtain⟨m1,m2⟩:=Fw x hs (by rw[hk];rfl);obtain⟨a1,a2⟩:=ca ht l hw';simp only[DV.enc,Bc,Nn ht];rw[Ac ⟨hw0,trivial,hw'▸F2 r l,hg⟩];exact⟨_,_,rfl,by rw[Sz a2,a1];simp only[Nt],m2⟩
       . rw[Ae hw] at h;cases h
     | pre hd p=>
      match p,h with
      | [c],h=>
        simp only at h ⊢
        cases hk:CG d hd [c]<;>rw[hk] at h<;>try (cases h;done)
        rename_i q rh lh
        have hne:CG d hd [c]≠.any:=by rw[hk];simp
        have e1:=KK hs hd [c] hne;rw[hk] at e1;have e3:=Pd hs hd [c] .undef hne
        have tk:∀ {n:List rh.D},new.to rh=some n->rh.w=w->(lh.map (RT.enc rh)).take l.length++new.es=(lApp (lTake lh (lN l)) n).map (RT.enc rh)/\C0 w ((lh.map (RT.enc rh)).take l.length++new.es)=true:=by
         intro n ht hw';have:=ca ht (lh.take l.length) hw';rw[Xq] at this;simp only[Nt,bP,Yf];exact this
        cases q<;>try (cases h;done)
        case own=>
         simp only at h;by_cases hw:(rh.w == w)=true
         . rw[Ac hw] at h
           have hw':rh.w=w:=by simpa using hw
           cases ht:new.to rh with
           |none=>rw[ht] at h;cases h
           | some n=>
             rw[ht] at h;simp only[Ak,Al] at h;obtain⟨rfl,rfl,rfl⟩:=h;obtain⟨a1,a2⟩:=tk ht hw';simp only[DV.enc,e1,Bc,Nn ht];rw[Ac ⟨hw0,hw'▸F2 rh lh,hg.1,hg.2.1,hg.2.2⟩];exact⟨_,_,rfl,by rw[Sz a2,a1],e3⟩
         . rw[Ae hw] at h;cases h
        case ownw w'=>
         simp only at h;by_cases hw:(w' == w&&rh.w == w)=true
         . rw[Ac hw] at h;simp only[Ah,A0] at hw;obtain⟨rfl,hw'⟩:=hw
           cases ht:new.to rh with
           |none=>rw[ht] at h;cases h
           | some n=>
             rw[ht] at h;simp only[Ak,Al] at h;obtain⟨rfl,rfl,rfl⟩:=h;obtain⟨a1,a2⟩:=tk ht hw';simp only[DV.enc,e1,Bc,Nn ht];rw[Ac ⟨hw0,trivial,hw'▸F2 rh lh,hg.1,hg.2.1,hg.2.2⟩];exact⟨_,_,rfl,by rw[Sz a2,a1],e3⟩
         . rw[Ae hw] at h;cases h
      |[],h=>cases h
      |_::_::_,h=>cases h
     |_=>cases h
   |_=>rw[hv] at h;cases h
 . simp only[h0] at h;cases h
theorem c9{w:Nat}{v v':DV}(h:Tj w v=some v'):Gf w v.enc=some v'.enc:=by
 unfold Tj at h;split at h
 . cases h;rfl
 . split at h
   . rename_i hw;have hw:=A0.mp hw;subst hw;cases h;simp only[DV.enc,Gf,AN]
   . cases h
 . rename_i r l;split at h
   . rename_i hw;have hw:=A0.mp hw;cases h;simp only[DV.enc,Gf];rw[Ac (hw▸F2 r l)]
   . cases h
 . split at h
   . rename_i hw;have hw:=A0.mp hw;subst hw;cases h;simp only[DV.enc,Gf,AN]
   . cases h
 . cases h
theorem nO:∀ (ws:List (Nat×Nat)) {l l':List DV},Ye ws l=some l'->NY ws (DV.encL l)=some (DV.encL l')
 |[],l,l',h=>by cases h;rfl
 | (c,w)::r,l,l',h=>by
   unfold Ye at h
   split at h
   . rename_i v hv
     unfold NY
     rw[<- Px,c9 hv]
     simp only
     rw[<- WJ]
     exact nO r h
   . cases h
theorem ZdS{ws:List (Nat×Nat)}{v v':DV}(h:NZ ws v=some v'):Fl ws v.enc=some v'.enc:=by
 unfold NZ at h;split at h
 . simp only[B8] at h;obtain⟨l',h1,rfl⟩:=h;show (NY ws _).map PV.agg=_;rw[nO ws h1];rfl
 . rename_i q;split at h
   . exact c9 (v:=.nil q) h
   . cases h
 . rename_i q r l;split at h
   . exact c9 (v:=.sl q r l) h
   . cases h
 . cases h
theorem xg{ws:List (Nat×Nat)}{m:Bool}{o:AOp}{ty:Option RT}{d d':DS}{s:PS}{g:PX}{v:DV}(hs:ES d s)(h:Np ws m o ty d=some (g,v,d'))(hg:g.den):∃ s' v0,Bq m o s=some (v0,s')/\Fl ws v0=some v.enc/\ES d' s':=by
 have gen:(match Br m o ty d with|some (g,v,st)=>(match NZ ws v with|some v=>some (g,v,st)|none=>none)|none=>none)=some (g,v,d')->∃ s' v0,Bq m o s=some (v0,s')/\Fl ws v0=some v.enc/\ES d' s':=by
  intro h
  cases h1:Br m o ty d with
  |none=>rw[h1] at h;cases h
  | some r=>
    obtain⟨g1,v1,d1⟩:=r;rw[h1] at h;simp only at h
    cases h2:NZ ws v1 with
    |none=>rw[h2] at h;cases h
    | some v2=>
      rw[h2] at h;simp only[Ak,Al] at h;obtain⟨rfl,rfl,rfl⟩:=h;obtain⟨s',e1,e2⟩:=VT hs h1 hg;exact⟨s',_,e1,ZdS h2,e2⟩
 cases o<;>first|exact gen h|skip
 case app w x y=>
  simp only[Np] at h;split at h
  . rename_i w';split at h
    . rename_i hw;have hw:=A0.mp hw;subst hw
      cases h1:JW w' y d with
      |none=>rw[h1] at h;cases h
      | some r=>
        obtain⟨new,d1⟩:=r;rw[h1] at h;obtain⟨s1,e1,e2⟩:=ZV hs h1;obtain⟨s2,v0,e3,e4,e5⟩:=xX e2 h hg;exact⟨s2,v0,by simp only[Bq,e1];exact e3,e4,e5⟩
    . cases h
  . cases h
def Chg:List DC->List DC->Prop
 |_,[]=>True
 |[],c::r=>c.d=true/\Chg [] r
 |b::a,c::r=>(c.d=true\/c=b)/\Chg a r
def ChgB:List (List DC)->List (List DC)->Prop
 |_,[]=>True
 |[],c::r=>Chg [] c/\ChgB [] r
 |b::a,c::r=>Chg b c/\ChgB a r
structure ChgS (x y:DS):Prop where
 sl:Chg x.sl y.sl
 bx:ChgB x.bx y.bx
 hp:ChgB x.hp y.hp
theorem Chg.refl:∀ (x:List DC),Chg x x
 |[]=>trivial
 |_::r=>⟨.inr rfl,Chg.refl r⟩
theorem Chg.trans:∀ {x y z:List DC},Chg x y->Chg y z->Chg x z
 |_,_,[],_,_=>by cases ‹List DC›<;>trivial
 |[],[],_::_,_,h=>h
 |_::a,[],c::r,_,h=>⟨.inl h.1,Chg.trans (x:=a) (y:=[]) (by cases a<;>trivial) h.2⟩
 | [],b::a,c::r,h,h'=>by
   refine⟨?_,Chg.trans h.2 h'.2⟩
   rcases h'.1 with h1|h1
   . exact h1
   . rw[h1];exact h.1
 | e::x,b::a,c::r,h,h'=>by
   refine⟨?_,Chg.trans h.2 h'.2⟩
   rcases h'.1 with h1|h1
   . exact .inl h1
   . rw[h1];exact h.1
theorem ChgB.refl:∀ (x:List (List DC)),ChgB x x
 |[]=>trivial
 |b::r=>⟨Chg.refl b,ChgB.refl r⟩
theorem ChgB.trans:∀ {x y z:List (List DC)},ChgB x y->ChgB y z->ChgB x z
 |_,_,[],_,_=>by cases ‹List (List DC)›<;>trivial
 |[],[],_::_,_,h=>h
 |b::a,[],c::r,_,h=>⟨Chg.trans (y:=[]) (by trivial) h.1,ChgB.trans (x:=a) (y:=[]) (by cases a<;>trivial) h.2⟩
 |[],b::a,c::r,h,h'=>⟨h.1.trans h'.1,ChgB.trans h.2 h'.2⟩
 |e::x,b::a,c::r,h,h'=>⟨h.1.trans h'.1,ChgB.trans h.2 h'.2⟩
theorem ChgS.refl(x:DS):ChgS x x:=⟨Chg.refl _,ChgB.refl _,ChgB.refl _⟩
theorem ChgS.trans{x y z:DS}(h:ChgS x y)(h':ChgS y z):ChgS x z:=⟨h.sl.trans h'.sl,h.bx.trans h'.bx,h.hp.trans h'.hp⟩
theorem Chg.put:∀ (x:List DC) (n:Nat) (v:DV),Chg x (DX x n v)
 |[],_,_=>trivial
 |_::r,0,_=>⟨.inl rfl,Chg.refl r⟩
 |_::r,n+1,v=>⟨.inr rfl,Chg.put r n v⟩
theorem Chg.clr(hd:Hd):∀ (x:List DC),Chg x (Dt hd x)
 |[]=>trivial
 | c::r=>by
   refine⟨?_,Chg.clr hd r⟩
   split
   . exact .inl rfl
   . exact .inr rfl
theorem Chg.clearBox(i:Nat):∀ (x:List DC),Chg x (RD i x)
 |[]=>trivial
 | c::r=>by
   refine⟨?_,Chg.clearBox i r⟩
   split
   . exact .inl rfl
   . exact .inr rfl
theorem Chg.keep(live:List Nat):∀ (n:Nat) (x:List DC),Chg x (XF live n x)
 |_,[]=>trivial
 | n,c::r=>by
   refine⟨?_,Chg.keep live (n+1) r⟩
   split
   . split
     . exact .inl rfl
     . exact .inr rfl
   . exact .inl rfl
theorem Chg.trim(live:List Nat):∀ (n:Nat) (x:List DC),Chg x (XS live n x)
 |_,[]=>trivial
 | n,c::r=>by
   refine⟨?_,Chg.trim live (n+1) r⟩
   split
   . exact .inr rfl
   . exact .inl rfl
theorem Chg.splice:∀ (x:List DC) (n:Nat) (vs:List DV),Chg x (Jw x n vs)
 |[],n,[]=>trivial
 |_::_,0,[]=>Chg.refl _
 |_::_,_+1,[]=>Chg.refl _
 |[],_,_::_=>trivial
 |_::r,0,v::vs=>⟨.inl rfl,Chg.splice r 0 vs⟩
 |_::r,n+1,v::vs=>⟨.inr rfl,Chg.splice r n (v::vs)⟩
theorem Chg.news:∀ (x:List DC) (vs:List DV),Chg x (Go.Ag.news vs)
 |x,[]=>by cases x<;>trivial
 |[],v::vs=>⟨rfl,Chg.news [] vs⟩
 |_::a,v::vs=>⟨.inl rfl,Chg.news a vs⟩
theorem ChgB.put:∀ (x:List (List DC)) (i:Nat) {v:List DC},Chg (BO x i) v->ChgB x (Fa x i v)
 |[],_,_,_=>trivial
 |_::r,0,_,h=>⟨h,ChgB.refl r⟩
 |_::r,n+1,v,h=>⟨Chg.refl _,ChgB.put r n h⟩
theorem ChgB.app:∀ (x:List (List DC)) (vs:List DV),ChgB x (x++[Go.Ag.news vs])
 |[],vs=>⟨Chg.news [] vs,trivial⟩
 |b::r,vs=>⟨Chg.refl b,ChgB.app r vs⟩
theorem Chg.rem:∀ {x y:List DC},Chg (Go.Ag.clean x) y->Chg x (Qj x y)
 |x,[],_=>by cases x<;>trivial
 |[],_::_,h=>h
 | b :: a,c::r,h=>by
   refine⟨?_,Chg.rem h.2⟩
   rcases h.1 with h1|h1
   . left;simp[h1]
   . subst h1
     cases hb:b.d with
     |true=>left;rfl
     |false=>right;obtain⟨d,v⟩:=b;simp only at hb;subst hb;rfl
theorem ChgB.rem:∀ {x y:List (List DC)},ChgB (PT x) y->ChgB x (Ti x y)
 |x,[],_=>by cases x<;>trivial
 |[],_::_,h=>h
 |b::a,c::r,h=>⟨h.1.rem,ChgB.rem h.2⟩
theorem ChgS.rem{x y:DS}(h:ChgS x.clean y):ChgS x (Mu x y):=⟨h.sl.rem,h.bx.rem,h.hp.rem⟩
theorem ChgS.put(d:DS)(n:Option Nat)(v:DV):ChgS d (d.put n v):=by
 cases n with
 |none=>exact ChgS.refl d
 | some n=>
   simp only[DS.put];split
   . exact⟨(Chg.put _ _ _).trans (Chg.clr _ _),ChgB.refl _,ChgB.refl _⟩
   . exact⟨Chg.put _ _ _,ChgB.refl _,ChgB.refl _⟩
theorem ChgS.mvOut(x:Opnd)(d:DS):ChgS d (Bp x d).2:=by
 cases x with
 |c v=>exact ChgS.refl d
 | t n=>
   simp only[Bp,Th];split
   . split
     . exact ChgS.refl d
     . exact⟨(Chg.put _ _ _).trans (Chg.clr _ _),ChgB.refl _,ChgB.refl _⟩
   . exact ChgS.refl d
theorem ChgS.fzOut(x:Opnd)(d:DS):ChgS d (Fz x d).2:=by
 cases x with
 |c v=>exact ChgS.refl d
 | t n=>
   simp only[Fz,Te];split
   . split
     . exact⟨(Chg.put _ _ _).trans (Chg.clr _ _),ChgB.refl _,ChgB.refl _⟩
     . exact ChgS.refl d
   . exact ChgS.refl d
theorem ChgS.setK(d:DS)(v:DV):∀ (hd:Hd) (p:List Nat),ChgS d (HR d v hd p)
 |.s t,p=>⟨(Chg.put _ _ _).trans (Chg.clr _ _),ChgB.refl _,ChgB.refl _⟩
 |.b i,[c]=>⟨Chg.clr _ _,ChgB.put _ _ (Chg.put _ _ _),ChgB.refl _⟩
 |.h i,[c]=>⟨Chg.clr _ _,ChgB.refl _,ChgB.put _ _ (Chg.put _ _ _)⟩
 |.b i,[]=>ChgS.refl d
 |.b i,_::_::_=>ChgS.refl d
 |.h i,[]=>ChgS.refl d
 |.h i,_::_::_=>ChgS.refl d
 |.x i,_=>ChgS.refl d
theorem al:∀ (ps:List (Nat×Nat×Opnd)) {cs cs':List DV} {d d':DS},JH cs ps d=some (cs',d')->ChgS d d'
 | [],cs,cs',d,d',h=>by
   simp only[JH,Ak,Al] at h
   obtain⟨_,rfl⟩:=h
   exact ChgS.refl d
 | (off,size,x)::r,cs,cs',d,d',h=>by
   unfold JH at h
   split at h
   . exact(ChgS.mvOut x d).trans (al r h)
   . cases h
theorem bg{w:Nat}{y:Opnd}{d d':DS}{new:DSrc}(h:JW w y d=some (new,d')):ChgS d d':=by
 unfold JW at h
 split at h<;>(try split at h)<;>first|(cases h;done)|(simp only[Ak,Al] at h;obtain⟨_,rfl⟩:=h;first|exact ChgS.refl _|exact ChgS.mvOut y d)
theorem lH{w:Nat}{x:Opnd}{new:DSrc}{d d':DS}{g:PX}{v:DV}(h:Ms w x new d=some (g,v,d')):ChgS d d':=by
 unfold Ms at h;split at h
 . cases h
 . repeat' split at h
   all_goals first|(cases h;done)|(simp only[Ak,Al] at h;obtain⟨_,_,rfl⟩:=h;first|exact ChgS.mvOut x d|exact ChgS.setK _ _ _ _)
theorem ZR{m:Bool}{i:Nat}{n:Option Nat}{a:DV}{d d':DS}{g:PX}{v:DV}(h:L9 m i n a d=some (g,v,d')):ChgS d d':=by
 unfold L9 at h;split at h
 . cases m with
   | true=>
     simp only[AN] at h;split at h
     . simp only[B8,Al] at h;obtain⟨_,_,_,_,rfl⟩:=h;exact⟨Chg.clr _ _,ChgB.put _ _ (Chg.splice _ _ _),ChgB.refl _⟩
     . cases h
   | false=>
     simp only[AL,AQ] at h;split at h
     . simp only[B8,Al] at h;obtain⟨_,_,_,_,rfl⟩:=h;exact ChgS.refl _
     . cases h
 . cases h
theorem ZY{m:Bool}{n:Option Nat}{a:DV}{d d':DS}{g:PX}{v:DV}(h:KZ m n a d=some (g,v,d')):ChgS d d':=by
 unfold KZ at h;split at h
 . cases m with
   | true=>
     simp only[AN] at h;split at h
     . simp only[B8,Al] at h;obtain⟨_,_,_,_,rfl⟩:=h;exact⟨Chg.clr _ _,ChgB.refl _,ChgB.put _ _ (Chg.splice _ _ _)⟩
     . cases h
   | false=>
     simp only[AL,AQ] at h;split at h
     . simp only[B8,Al] at h;obtain⟨_,_,_,_,rfl⟩:=h;exact ChgS.refl _
     . cases h
 . split at h
   . split at h
     . simp only[B8,Al] at h;obtain⟨_,_,_,_,rfl⟩:=h;exact ChgS.refl _
     . cases h
   . cases h
 . cases h
theorem yd{i n:Nat}{a x:Opnd}{d d':DS}{g:PX}{v:DV}(h:Sa i n a x d=some (g,v,d')):ChgS d d':=by
 unfold Sa at h;simp only at h;split at h
 . split at h
   . simp only[Ak,Al] at h;obtain⟨_,_,rfl⟩:=h;refine(ChgS.mvOut x d).trans ⟨?_,ChgB.put _ _ (Chg.splice _ _ _),ChgB.refl _⟩;split
     . exact Chg.clr _ _
     . exact Chg.refl _
   . cases h
 . cases h
theorem xu{n:Nat}{a x:Opnd}{d d':DS}{g:PX}{v:DV}(h:R8 n a x d=some (g,v,d')):ChgS d d':=by
 unfold R8 at h;simp only at h;split at h
 . split at h
   . simp only[Ak,Al] at h;obtain⟨_,_,rfl⟩:=h;refine(ChgS.mvOut x d).trans ⟨?_,ChgB.refl _,ChgB.put _ _ (Chg.splice _ _ _)⟩;dsimp only;split
     . exact Chg.clr _ _
     . exact Chg.refl _
   . cases h
 . split at h
   . split at h
     . split at h
       . simp only[Ak,Al] at h;obtain⟨_,_,rfl⟩:=h;exact(ChgS.mvOut x d).trans (ChgS.setK _ _ _ _)
       . cases h
     . cases h
   . cases h
 . cases h
theorem jF{m:Bool}{n:Option Nat}{a:DV}{d d':DS}{r:Ez}{g:PX}{v:DV}(h:Nr m n a d=some r)(hr:r=some (g,v,d')):ChgS d d':=by cases h
theorem xp{n:Nat}{hd:Hd}{p k j o:Nat}{w:DV}{d d':DS}{g:PX}{v:DV}(h:bB n hd p k j o w d=some (g,v,d')):ChgS d d':=by cases h
theorem Zdc(x:Opnd)(d:DS):(KT x d).2=d:=by cases x<;>rfl
theorem Zad{w:Nat}{new:DSrc}{d d':DS}{g:PX}{v:DV}(h:Mj w new d=some (g,v,d')):d'=d:=by
 unfold Mj at h;split at h<;>(simp only[Ak,Al] at h;exact h.2.2.symm)
theorem zw{w:Nat}{x:Opnd}{new:DSrc}{d d':DS}{g:PX}{v:DV}(h:S8 w x new d=some (g,v,d')):ChgS d d':=by
 unfold S8 at h;split at h
 . cases h
 . repeat' split at h
   all_goals first|(cases h;done)|(have:=Zad h;subst this;exact ChgS.mvOut x d)|(simp only[Ak,Al] at h;obtain⟨_,_,rfl⟩:=h;first|exact ChgS.mvOut x d|exact ChgS.setK _ _ _ _)
theorem Wl{m:Bool}{o:AOp}{ty:Option RT}{d d':DS}{g:PX}{v:DV}(h:Br m o ty d=some (g,v,d')):ChgS d d':=by
 have pure:(P8 o (λ x=>x.dev d.sl)).map (λ r=>(r.1,r.2,d))=some (g,v,d')->ChgS d d':=λ h=>by
  simp only[B8,Al] at h;obtain⟨_,_,_,_,rfl⟩:=h;exact ChgS.refl _
 cases o<;>first|exact pure h|skip
 case mv x=>
  cases m with
  | true=>
    simp only[Br,AN] at h;split at h
    . simp only[Ak,Al] at h;obtain⟨_,_,rfl⟩:=h;rw[Zdc];exact ChgS.refl d
    . cases h
  | false=>
    simp only[Br,AL,AQ] at h;split at h
    . simp only[Ak,Al] at h;obtain⟨_,_,rfl⟩:=h;exact ChgS.mvOut x d
    . cases h
 case loadB i n a=>exact ZR h
 case loadH n a=>
  simp only[Br] at h;split at h
  . rename_i h1;exact jF h1 h
  . exact ZY h
 case loadX i c n a=>
  simp only[Br] at h;split at h
  . split at h
    . rename_i h1;exact jF h1 h
    . cases h
  . cases h
 case storeB i n a x=>exact yd h
 case storeH n a x=>
  simp only[Br] at h;split at h
  . split at h
    . exact xp h
    . exact xu h
  . cases h
 case app w x y=>
  simp only[Br] at h;split at h
  . rename_i h1;exact(bg h1).trans (lH h)
  . cases h
 case appN w x y=>
  simp only[Br] at h;split at h
  . split at h
    . rename_i h1;exact(bg h1).trans (lH h)
    . cases h
  . cases h
 case allocB i zs=>
  simp only[Br] at h;split at h
  . simp only[Ak,Al] at h;obtain⟨_,_,rfl⟩:=h;exact⟨(Chg.clearBox _ _).trans (Chg.clr _ _),ChgB.put _ _ (Chg.news _ _),ChgB.refl _⟩
  . cases h
 case boxB i n x=>
  simp only[Br] at h;split at h
  . simp only[Ak,Al] at h;obtain⟨_,_,rfl⟩:=h;exact(ChgS.mvOut x d).trans ⟨(Chg.clearBox _ _).trans (Chg.clr _ _),ChgB.put _ _ (Chg.news _ _),ChgB.refl _⟩
  . cases h
 case allocH zs=>
  simp only[Br] at h;split at h
  . simp only[Ak,Al] at h;obtain⟨_,_,rfl⟩:=h;exact⟨Chg.clr _ _,ChgB.refl _,ChgB.app _ _⟩
  . cases h
 case boxH n x=>
  simp only[Br] at h;split at h
  . simp only[Ak,Al] at h;obtain⟨_,_,rfl⟩:=h;exact(ChgS.mvOut x d).trans ⟨Chg.clr _ _,ChgB.refl _,ChgB.app _ _⟩
  . cases h
 case build zs ps=>
  simp only[Br] at h;split at h
  . split at h
    . rename_i hf;simp only[Ak,Al] at h;obtain⟨_,_,rfl⟩:=h;exact al ps hf
    . cases h
  . cases h
 case mkSlice w z len=>
  simp only[Br] at h
  repeat' split at h
  all_goals first|(cases h;done)|(simp only[Ak,Al] at h;obtain⟨_,_,rfl⟩:=h;exact ChgS.refl _)
 case litSlice w n zs ps=>
  simp only[Br] at h;split at h
  . simp only[Ak,Al] at h;obtain⟨_,_,rfl⟩:=h;exact ChgS.refl _
  . split at h
    . split at h
      . rename_i hf;have:=al ps hf
        repeat' split at h
        all_goals first|(cases h;done)|(simp only[Ak,Al] at h;obtain⟨_,_,rfl⟩:=h;exact this)
      . cases h
    . cases h
 case extract x i=>
  simp only[Br] at h
  repeat' split at h
  all_goals first|(cases h;done)|(simp only[Ak,Al] at h;obtain⟨_,_,rfl⟩:=h;first|exact ChgS.refl _|exact⟨(Chg.put _ _ _).trans (Chg.clr _ _),ChgB.refl _,ChgB.refl _⟩)
theorem yk{ws:List (Nat×Nat)}{m:Bool}{o:AOp}{ty:Option RT}{d d':DS}{g:PX}{v:DV}(h:Np ws m o ty d=some (g,v,d')):ChgS d d':=by
 have gen:(match Br m o ty d with|some (g,v,st)=>(match NZ ws v with|some v=>some (g,v,st)|none=>none)|none=>none)=some (g,v,d')->ChgS d d':=by
  intro h
  cases h1:Br m o ty d with
  |none=>rw[h1] at h;cases h
  | some r=>
    obtain⟨g1,v1,d1⟩:=r;rw[h1] at h;simp only at h
    cases h2:NZ ws v1 with
    |none=>rw[h2] at h;cases h
    | some v2=>
      rw[h2] at h;simp only[Ak,Al] at h;obtain⟨_,_,rfl⟩:=h;exact Wl h1
 cases o<;>first|exact gen h|skip
 case app w x y=>
  simp only[Np] at h;split at h
  . split at h
    . split at h
      . rename_i h1;exact(bg h1).trans (zw h)
      . cases h
    . cases h
  . cases h
theorem Dc{α:Type}(x y:α):bSel true x y=x:=by simp only[dr,Hx,Ht]
theorem CP{α:Type}(x y:α):bSel false x y=y:=by simp only[dr,Hx,Ht]
theorem nt(c:Bool)(x y:BX):(Ya c x y).b=bif c then x.b else y.b:=by
 cases x<;>cases y<;>rename_i x y<;>cases c<;>cases x<;>cases y<;>simp[Ya,BX.b,PR,n8,di,dr]
theorem Nx{q q':Ql}(h:Fk q q'=true):q=q':=of_decide_eq_true h
mutual
theorem Xv(c:Bool):∀ (x y:DV),DD c x y= .any\/(DD c x y).enc=(bif c then x.enc else y.enc)
 | .undef,y=>by
   cases y<;>first|exact .inl rfl|skip
   case undef=>cases c<;>exact .inr rfl
 | .bool a,y=>by
   cases y<;>first|exact .inl rfl|skip
   case bool b=>right;simp only[DD,DV.enc,nt];cases c<;>rfl
 | .int k a,y=>by
   cases y<;>first|exact .inl rfl|skip
   case int k' b=>
    simp only[DD]
    split
    . rename_i hk;have:=WZ hk;subst this
      right;cases c<;>simp only[DV.enc,Dc,CP,Hx,Ht]
    . exact .inl rfl
 | .str a,y=>by
   cases y<;>first|exact .inl rfl|skip
   case str b=>right;cases c<;>simp only[DD,DV.enc,Dc,CP,Hx,Ht]
 | .ifc a,y=>by
   cases y<;>first|exact .inl rfl|skip
   case ifc b=>right;cases c<;>simp only[DD,DV.enc,Dc,CP,Hx,Ht]
 | .nil q,y=>by
   cases y<;>first|exact .inl rfl|skip
   case nil q'=>
    simp only[DD]
    split
    . rename_i hq;have:=Nx hq;subst this;right;cases c<;>rfl
    . exact .inl rfl
   case sl q' r l=>
    simp only[DD]
    split
    . rename_i hq;have:=Nx hq;subst this;right
      cases c<;>simp only[DV.enc,Dc,CP,Hx,Ht,P4]
    . exact .inl rfl
 | .sl q r l,y=>by
   cases y<;>first|exact .inl rfl|skip
   case nil q'=>
    simp only[DD]
    split
    . rename_i hq;have:=Nx hq;subst this;right
      cases c<;>simp only[DV.enc,Dc,CP,Hx,Ht,P4]
    . exact .inl rfl
   case sl q' r' l'=>
    simp only[DD]
    split
    . rename_i hq;have:=Nx hq;subst this
      split
      . rename_i l2 hl
        right
        cases c<;>simp only[DV.enc,Dc,CP,Hx,Ht,(RX hl).2]
      . exact .inl rfl
    . exact .inl rfl
 | .box i o,y=>by
   cases y<;>first|exact .inl rfl|skip
   case box i' o'=>
    simp only[DD]
    split
    . rename_i h;simp only[Ah,A0] at h;obtain⟨rfl,rfl⟩:=h;right;cases c<;>rfl
    . exact .inl rfl
 | .ptr i o,y=>by
   cases y<;>first|exact .inl rfl|skip
   case ptr i' o'=>
    simp only[DD]
    split
    . rename_i h;simp only[Ah,A0] at h;obtain⟨rfl,rfl⟩:=h;right;cases c<;>rfl
    . exact .inl rfl
 | .agg a,y=>by
   cases y<;>first|exact .inl rfl|skip
   case agg b=>
    simp only[DD]
    split
    . rename_i h;simp only[Ah,A0] at h
      right
      have:=bR c a b h.1 h.2
      cases c<;>simp only[DV.enc,this,Hx,Ht]
    . exact .inl rfl
 | .tup a,y=>by
   cases y<;>first|exact .inl rfl|skip
   case tup b=>
    simp only[DD]
    split
    . rename_i h;simp only[Ah,A0] at h
      right
      have:=bR c a b h.1 h.2
      cases c<;>simp only[DV.enc,this,Hx,Ht]
    . exact .inl rfl
 |.any,y=>by cases y<;>exact .inl rfl
 |.ep _ _ _ _ _,y=>by cases y<;>exact .inl rfl
theorem bR(c:Bool):∀ (x y:List DV),x.length=y.length->DV.okL (K4 c x y)=true->DV.encL (K4 c x y)=(bif c then DV.encL x else DV.encL y)
 |[],[],_,_=>by cases c<;>rfl
 |[],_::_,h,_=>by cases h
 |_::_,[],h,_=>by cases h
 | x :: a,y::b,h,hk=>by
   simp only[K4,DV.okL,Ah] at hk
   have h1:=bR c a b (by simpa using h) hk.2
   rcases Xv c x y with h2|h2
   . rw[h2] at hk;cases hk.1
   . simp only[K4,DV.encL,h1,h2]
     cases c<;>rfl
end
theorem Zcd{c:Bool}{x y:DV}{p:PV}(h:EV (bif c then x else y) p):EV (DD c x y) p:=by
 rcases Xv c x y with h1|h1
 . exact .inl h1
 . cases c with
   | true=>
     rcases h with h|h
     . simp only[Hx] at h;subst h;exact .inl (by cases y<;>rfl)
     . exact .inr (by rw[h1];exact h)
   | false=>
     rcases h with h|h
     . simp only[Ht] at h;subst h;exact .inl (by cases x<;>rfl)
     . exact .inr (by rw[h1];exact h)
theorem bV{c:Bool}:∀ {b x y:List DC} {p:List PV},Chg b x->Chg b y->x.length=y.length->EL (bif c then x else y) p->EL (SL c x y) p
 |_,[],[],p,_,_,_,h=>by cases c<;>exact h
 |_,[],_::_,_,_,_,h,_=>by cases h
 |_,_::_,[],_,_,_,h,_=>by cases h
 |b,x::a,y::e,[],_,_,_,h=>by cases c<;>exact h.elim
 | b,x::a,y::e,q::p,h1,h2,hl,h=>by
   have hr:∃ b',Chg b' a/\Chg b' e/\((x.d=true\/y.d=true)\/x=y):=by
    cases b with
    |nil=>exact⟨[],h1.2,h2.2,.inl (.inl h1.1)⟩
    | cons b0 b=>
      refine⟨b,h1.2,h2.2,?_⟩;rcases h1.1 with e1|e1
      . exact .inl (.inl e1)
      . rcases h2.1 with e2|e2
        . exact .inl (.inr e2)
        . exact .inr (e1.trans e2.symm)
   obtain⟨b',h3,h4,h5⟩:=hr;have ih:=bV (c:=c) (p:=p) h3 h4 (by simpa using hl) (by cases c<;>exact h.2);refine⟨?_,ih⟩
   have hv:EV (bif c then x.v else y.v) q:=by cases c<;>exact h.1
   unfold Yi;split
   . exact Zcd hv
   . rename_i hd;rcases h5 with h5|h5
     . exfalso;apply hd;rcases h5 with h5|h5<;>simp[h5]
     . subst h5;cases c<;>exact hv
theorem bQ{c:Bool}:∀ {b x y:List (List DC)} {p:List (List PV)},ChgB b x->ChgB b y->x.length=y.length->EB (bif c then x else y) p->EB (S6 c x y) p
 |_,[],[],p,_,_,_,h=>by cases c<;>exact h
 |_,[],_::_,_,_,_,h,_=>by cases h
 |_,_::_,[],_,_,_,h,_=>by cases h
 |b,x::a,y::e,[],_,_,_,h=>by cases c<;>exact h.elim
 | b,x::a,y::e,q::p,h1,h2,hl,h=>by
   have hr:∃ b0 b',Chg b0 x/\Chg b0 y/\ChgB b' a/\ChgB b' e:=by
    cases b with
    |nil=>exact⟨[],[],h1.1,h2.1,h1.2,h2.2⟩
    |cons b0 b=>exact⟨b0,b,h1.1,h2.1,h1.2,h2.2⟩
   obtain⟨b0,b',h3,h4,h5,h6⟩:=hr;have ih:=bQ (c:=c) (p:=p) h5 h6 (by simpa using hl) (by cases c<;>exact h.2);refine⟨?_,ih⟩
   have hv:EBx (bif c then x else y) q:=by cases c<;>exact h.1
   split
   . rename_i hxy
     have hxy:x.length=y.length:=by simpa using hxy
     rcases hv with hv|hv
     . cases c
       . simp only[Ht] at hv;subst hv;have:x=[]:=FA hxy;subst this;exact .inl rfl
       . simp only[Hx] at hv;subst hv;have:y=[]:=FA hxy.symm;subst this;exact .inl rfl
     . exact .inr (bV h3 h4 hxy hv)
   . exact .inl rfl
theorem ZcV{c:Bool}{b x y z:DS}{s:PS}(hx:ChgS b x)(hy:ChgS b y)(h:NQ c x y=some z)(hs:ES (bif c then x else y) s):ES z s:=by
 unfold NQ at h;split at h
 . rename_i hl;simp only[Ah,A0] at hl;simp only[Ak] at h;subst h;exact⟨bV hx.sl hy.sl hl.1.1 (by cases c<;>exact hs.sl),bQ hx.bx hy.bx hl.1.2 (by cases c<;>exact hs.bx),bQ hx.hp hy.hp hl.2 (by cases c<;>exact hs.hp)⟩
 . cases h
theorem RE{c:Bool}:∀ {b x y:List DC},Chg b x->Chg b y->Chg b (SL c x y)
 |b,[],_,_,_=>by cases b<;>trivial
 |b,_::_,[],_,_=>by cases b<;>trivial
 |[],x::a,y::e,h,h'=>⟨by simp[Yi,h.1],RE h.2 h'.2⟩
 | b::_,x::a,y::e,h,h'=>by
   refine⟨?_,RE h.2 h'.2⟩
   unfold Yi
   split
   . exact .inl rfl
   . exact h.1
theorem Wj{c:Bool}:∀ {b x y:List (List DC)},ChgB b x->ChgB b y->ChgB b (S6 c x y)
 |b,[],_,_,_=>by cases b<;>trivial
 |b,_::_,[],_,_=>by cases b<;>trivial
 | [],x::a,y::e,h,h'=>by
   refine⟨?_,Wj h.2 h'.2⟩
   split
   . exact RE h.1 h'.1
   . trivial
 | b::_,x::a,y::e,h,h'=>by
   refine⟨?_,Wj h.2 h'.2⟩
   split
   . exact RE h.1 h'.1
   . cases b<;>trivial
theorem Za6{c:Bool}{b x y z:DS}(hx:ChgS b x)(hy:ChgS b y)(h:NQ c x y=some z):ChgS b z:=by
 unfold NQ at h;split at h
 . simp only[Ak] at h;subst h;exact⟨RE hx.sl hy.sl,Wj hx.bx hy.bx,Wj hx.hp hy.hp⟩
 . cases h
theorem PX.land_den:∀ (a b:PX),(a.land b).den↔a.den/\b.den
 |.tt,b=>by simp[PX.land,PX.den]
 |.ff,b=>by simp[PX.land,PX.den]
 |.p h,b=>by cases b<;>simp[PX.land,PX.den]
 |.and x y,b=>by cases b<;>simp[PX.land,PX.den]
 |.ite c x y,b=>by cases b<;>simp[PX.land,PX.den]
theorem PX.if_den(c:Bool)(a b:PX):(PX.if' c a b).den↔(c=true->a.den)/\(c=false->b.den):=by
 cases a<;>cases b<;>simp[PX.if',PX.den]
def AExit.isN:AExit->Bool
 |.normal=>true
 |_=>false
def DT.lf:DT->Option (AExit×DS)
 |.leaf e st=>some (e,st)
 |.node c a b=>(match c with|true=>a.lf|false=>b.lf)
 |.chk _ t=>t.lf
 |.bad=>none
def DT.All(P:DS->Prop):DT->Prop
 |.leaf _ st=>P st
 |.node _ a b=>a.All P/\b.All P
 |.chk _ t=>t.All P
 |.bad=>True
theorem DT.All.imp{P Q:DS->Prop}(h:∀ st,P st->Q st):∀ {t:DT},t.All P->t.All Q
 |.leaf _ _,a=>h _ a
 |.node _ _ _,a=>⟨DT.All.imp h a.1,DT.All.imp h a.2⟩
 |.chk _ t,a=>DT.All.imp h (t:=t) a
 |.bad,_=>trivial
theorem DT.ok_lf:∀ {t:DT},t.ok.den->∃ e st,t.lf=some (e,st)
 |.leaf e st,_=>⟨e,st,rfl⟩
 | .node c a b,h=>by
   have h:=(PX.if_den c a.ok b.ok).mp h
   cases c
   . exact DT.ok_lf (t:=b) (h.2 rfl)
   . exact DT.ok_lf (t:=a) (h.1 rfl)
 |.chk g t,h=>DT.ok_lf (t:=t) ((PX.land_den g t.ok).mp h).2
 |.bad,h=>h.elim
theorem DT.All.lf{P:DS->Prop}:∀ {t:DT} {e:AExit} {st:DS},t.All P->t.lf=some (e,st)->P st
 |.leaf e st,_,_,h,hl=>by simp only[DT.lf,Ak,Al] at hl;obtain⟨_,rfl⟩:=hl;exact h
 | .node c a b,_,_,h,hl=>by
   cases c
   . exact DT.All.lf (t:=b) h.2 hl
   . exact DT.All.lf (t:=a) h.1 hl
 |.chk g t,_,_,h,hl=>DT.All.lf (t:=t) h hl
 |.bad,_,_,_,hl=>by cases hl
theorem DT.norm_chg{b:DS}:∀ {t:DT} {m:DS},t.All (ChgS b)->t.norm= .some m->ChgS b m
 | .leaf e st,m,h,hn=>by
   cases e<;>simp only[DT.norm,reduceCtorEq,NS.some.injEq] at hn
   subst hn;exact h
 | .node c x y,m,h,hn=>by
   simp only[DT.norm] at hn
   cases h1:x.norm with
   |none=>rw[h1] at hn;exact DT.norm_chg h.2 hn
   | fail=>
     rw[h1] at hn
     cases h2:y.norm<;>rw[h2] at hn<;>cases hn
   | some a=>
     rw[h1] at hn
     cases h2:y.norm with
     |none=>rw[h2] at hn;exact DT.norm_chg h.1 (h1.trans hn)
     |fail=>rw[h2] at hn;cases hn
     | some e=>
       rw[h2] at hn
       simp only at hn
       cases h3:NQ c a e with
       |none=>rw[h3] at hn;cases hn
       | some z=>
         rw[h3] at hn
         simp only[NS.some.injEq] at hn
         subst hn
         exact Za6 (DT.norm_chg h.1 h1) (DT.norm_chg h.2 h2) h3
 |.chk g t,m,h,hn=>DT.norm_chg (t:=t) h hn
 |.bad,m,h,hn=>by cases hn
theorem DT.norm_none:∀ {t:DT} {e:AExit} {st:DS},t.norm= .none->t.lf=some (e,st)->e.isN=false
 | .leaf e st,_,_,hn,hl=>by
   simp only[DT.lf,Ak,Al] at hl;obtain⟨rfl,_⟩:=hl
   cases e<;>first|rfl|cases hn
 | .node c x y,e,st,hn,hl=>by
   simp only[DT.norm] at hn
   have hxy:x.norm= .none/\y.norm= .none:=by
    cases h1:x.norm<;>rw[h1] at hn<;>cases h2:y.norm<;>rw[h2] at hn<;>first|exact⟨rfl,rfl⟩|(cases hn;done)|(simp only at hn;split at hn<;>cases hn)
   cases c
   . exact DT.norm_none hxy.2 hl
   . exact DT.norm_none hxy.1 hl
 |.chk g t,_,_,hn,hl=>DT.norm_none (t:=t) hn hl
 |.bad,_,_,_,hl=>by cases hl
theorem DT.norm_s{b:DS}:∀ {t:DT} {m st:DS} {s:PS},t.All (ChgS b)->t.norm= .some m->t.lf=some (.normal,st)->ES st s->ES m s
 | .leaf e st0,m,st,s,h,hn,hl,hs=>by
   simp only[DT.lf,Ak,Al] at hl
   obtain⟨rfl,rfl⟩:=hl
   simp only[DT.norm,NS.some.injEq] at hn
   subst hn;exact hs
 | .node c x y,m,st,s,h,hn,hl,hs=>by
   simp only[DT.norm] at hn
   cases h1:x.norm with
   | none=>
     rw[h1] at hn
     cases c with
     |true=>have:=DT.norm_none h1 hl;cases this
     |false=>exact DT.norm_s h.2 hn hl hs
   | fail=>
     rw[h1] at hn
     cases h2:y.norm<;>rw[h2] at hn<;>cases hn
   | some a=>
     rw[h1] at hn
     cases h2:y.norm with
     | none=>
       rw[h2] at hn
       cases c with
       |true=>exact DT.norm_s h.1 (h1.trans hn) hl hs
       |false=>have:=DT.norm_none h2 hl;cases this
     |fail=>rw[h2] at hn;cases hn
     | some e=>
       rw[h2] at hn
       simp only at hn
       cases h3:NQ c a e with
       |none=>rw[h3] at hn;cases hn
       | some z=>
         rw[h3] at hn
         simp only[NS.some.injEq] at hn
         subst hn
         refine ZcV (DT.norm_chg h.1 h1) (DT.norm_chg h.2 h2) h3 ?_
         cases c with
         |true=>exact DT.norm_s h.1 h1 hl hs
         |false=>exact DT.norm_s h.2 h2 hl hs
 |.chk g t,m,st,s,h,hn,hl,hs=>DT.norm_s (t:=t) h hn hl hs
 |.bad,m,st,s,h,hn,hl,hs=>by cases hl
theorem DT.cont_s:∀ {t:DT} {b:BX} {e:AExit} {st:DS},t.cont=some b->t.lf=some (e,st)->b.b=e.isN
 | .leaf e st0,b,e',st,hc,hl=>by
   simp only[DT.lf,Ak,Al] at hl;obtain⟨rfl,_⟩:=hl;cases e<;>simp only[DT.cont,Ak] at hc<;>subst hc<;>rfl
 | .node c x y,b,e,st,hc,hl=>by
   have hno:∀ {t:DT},t.cont=none->t.lf=none:=by
    intro t
    induction t with
    |leaf e st=>intro h;cases e<;>cases h
    | node c x y ih1 ih2=>
      intro h;simp only[DT.cont] at h
      cases h1:x.cont<;>rw[h1] at h<;>cases h2:y.cont<;>rw[h2] at h<;>first|(cases h;done)|skip
      cases c
      . exact ih2 h2
      . exact ih1 h1
    |chk g t ih=>intro h;exact ih h
    |bad=>intro _;rfl
   simp only[DT.cont] at hc
   cases h1:x.cont with
   | none=>
     rw[h1] at hc
     cases c with
     |true=>simp only[DT.lf,hno h1] at hl;cases hl
     |false=>exact DT.cont_s hc hl
   | some p=>
     rw[h1] at hc
     cases h2:y.cont with
     | none=>
       rw[h2] at hc
       cases c with
       |true=>exact DT.cont_s (h1.trans hc) hl
       |false=>simp only[DT.lf,hno h2] at hl;cases hl
     | some q=>
       rw[h2] at hc;simp only[Ak] at hc;subst hc;rw[nt]
       cases c with
       |true=>exact DT.cont_s h1 hl
       |false=>exact DT.cont_s h2 hl
 |.chk g t,b,e,st,hc,hl=>DT.cont_s (t:=t) hc hl
 |.bad,b,e,st,hc,hl=>by cases hl
theorem DT.cont_none:∀ {t:DT},t.cont=none->t.lf=none
 |.leaf e st,h=>by cases e<;>cases h
 | .node c x y,h=>by
   simp only[DT.cont] at h
   cases h1:x.cont<;>rw[h1] at h<;>cases h2:y.cont<;>rw[h2] at h<;>first|(cases h;done)|skip
   cases c
   . exact DT.cont_none (t:=y) h2
   . exact DT.cont_none (t:=x) h1
 |.chk g t,h=>DT.cont_none (t:=t) h
 |.bad,_=>rfl
theorem DT.drop_lf:∀ {t:DT} {e:AExit} {st:DS},t.lf=some (e,st)->e.isN=false->t.drop.lf=some (e,st)
 | .leaf e st0,e',st,hl,he=>by
   simp only[DT.lf,Ak,Al] at hl;obtain⟨rfl,rfl⟩:=hl
   cases e<;>first|rfl|cases he
 | .node c x y,e,st,hl,he=>by
   have hnb:∀ a b:DT,(DT.nodeB c a b).lf=some (e,st)\/(match c with|true=>a.lf|false=>b.lf)≠some (e,st):=by
    intro a b
    cases c with
    | true=>
      cases ha:a with
      |bad=>right;simp[DT.lf]
      | _=>
        rw[<- ha];by_cases h:a.lf=some (e,st)
        . left;cases hb:b<;>rw[ha] at h ⊢<;>exact h
        . right;exact h
    | false=>
      cases hb:b with
      |bad=>right;simp[DT.lf]
      | _=>
        rw[<- hb];by_cases h:b.lf=some (e,st)
        . left;cases ha:a<;>rw[hb] at h ⊢<;>exact h
        . right;exact h
   simp only[DT.drop];rcases hnb x.drop y.drop with h|h
   . exact h
   . exfalso;apply h
     cases c with
     |true=>exact DT.drop_lf (t:=x) hl he
     |false=>exact DT.drop_lf (t:=y) hl he
 |.chk g t,e,st,hl,he=>DT.drop_lf (t:=t) hl he
 |.bad,e,st,hl,he=>by cases hl
theorem DT.drop_all{P:DS->Prop}:∀ {t:DT},t.All P->t.drop.All P
 |.leaf e st,h=>by cases e<;>first|trivial|exact h
 | .node c x y,h=>by
   have h1:=DT.drop_all h.1
   have h2:=DT.drop_all h.2
   simp only[DT.drop]
   cases hx:x.drop<;>cases hy:y.drop<;>rw[hx] at h1<;>rw[hy] at h2<;>first|trivial|exact h1|exact h2|exact⟨h1,h2⟩
 |.chk g t,h=>DT.drop_all (t:=t) h
 |.bad,_=>trivial
theorem DT.map_lf(f:DS->DS):∀ (t:DT),(t.map f).lf=t.lf.map λ x=>(x.1,f x.2)
 |.leaf _ _=>rfl
 | .node c a b=>by
   cases c
   . exact DT.map_lf f b
   . exact DT.map_lf f a
 |.chk _ t=>DT.map_lf f t
 |.bad=>rfl
theorem DT.map_ok(f:DS->DS):∀ (t:DT),(t.map f).ok=t.ok
 |.leaf _ _=>rfl
 |.node c a b=>by simp only[DT.map,DT.ok,DT.map_ok f a,DT.map_ok f b]
 |.chk _ t=>by simp only[DT.map,DT.ok,DT.map_ok f t]
 |.bad=>rfl
theorem DT.map_all{P Q:DS->Prop}{f:DS->DS}(h:∀ st,P st->Q (f st)):∀ {t:DT},t.All P->(t.map f).All Q
 |.leaf _ _,a=>h _ a
 |.node _ _ _,a=>⟨DT.map_all h a.1,DT.map_all h a.2⟩
 |.chk _ t,a=>DT.map_all h (t:=t) a
 |.bad,_=>trivial
theorem DT.unexit_ok(i:Nat):∀ (t:DT),(t.unexit i).ok=t.ok
 | .leaf e st=>by
   cases e<;>first|rfl|skip
   simp only[DT.unexit];split<;>rfl
 |.node c a b=>by simp only[DT.unexit,DT.ok,DT.unexit_ok i a,DT.unexit_ok i b]
 |.chk _ t=>by simp only[DT.unexit,DT.ok,DT.unexit_ok i t]
 |.bad=>rfl
def AExit.un(i:Nat):AExit->AExit
 |.exit j=>if j=i then .normal else .exit j
 |e=>e
theorem DT.unexit_lf(i:Nat):∀ (t:DT),(t.unexit i).lf=t.lf.map λ x=>(x.1.un i,x.2)
 | .leaf e st=>by
   cases e<;>first|rfl|skip
   rename_i j
   simp only[DT.unexit,DT.lf,Cv,AExit.un]
   by_cases h:j=i
   . rw[Ac (by simpa using h),Ac h];rfl
   . rw[Ae (by simpa using h),Ae h];rfl
 | .node c a b=>by
   cases c
   . exact DT.unexit_lf i b
   . exact DT.unexit_lf i a
 |.chk _ t=>DT.unexit_lf i t
 |.bad=>rfl
theorem DT.unexit_all{P:DS->Prop}(i:Nat):∀ {t:DT},t.All P->(t.unexit i).All P
 | .leaf e st,a=>by
   cases e<;>first|exact a|skip
   simp only[DT.unexit];split<;>exact a
 |.node _ _ _,a=>⟨DT.unexit_all i a.1,DT.unexit_all i a.2⟩
 |.chk _ t,a=>DT.unexit_all i (t:=t) a
 |.bad,_=>trivial
theorem DT.chk_ok(g:PX)(t:DT):(DT.chk' g t).ok.den↔g.den/\t.ok.den:=by
 cases g<;>simp only[DT.chk',DT.ok,PX.land_den,PX.den,HA]
theorem DT.chk_lf(g:PX)(t:DT):(DT.chk' g t).lf=t.lf:=by cases g<;>rfl
theorem DT.chk_all{P:DS->Prop}(g:PX){t:DT}(h:t.All P):(DT.chk' g t).All P:=by cases g<;>exact h
theorem DT.bind_s{f:DS->DT}{h:DS->DS}:∀ {t:DT} {e:AExit} {st:DS},(t.bind f h).ok.den->(t.bind f h).lf=some (e,st) ->
 t.ok.den/\((∃ st0,t.lf=some (.normal,st0)/\(f st0).ok.den/\(f st0).lf=some (e,st))\/(e.isN=false/\∃ st0,t.lf=some (e,st0)/\st=h st0))
 | .leaf e0 st0,e,st,ho,hl=>by
   cases e0 with
   |normal=>exact⟨trivial,.inl ⟨st0,rfl,ho,hl⟩⟩
   | ret=>
     simp only[DT.bind,DT.lf,Ak,Al] at hl
     obtain⟨rfl,rfl⟩:=hl
     exact⟨trivial,.inr ⟨rfl,st0,rfl,rfl⟩⟩
   | exit i=>
     simp only[DT.bind,DT.lf,Ak,Al] at hl
     obtain⟨rfl,rfl⟩:=hl
     exact⟨trivial,.inr ⟨rfl,st0,rfl,rfl⟩⟩
 | .node c a b,e,st,ho,hl=>by
   have ho:=(PX.if_den c _ _).mp ho
   cases c with
   | true=>
     obtain⟨h1,h2⟩:=DT.bind_s (t:=a) (ho.1 rfl) hl
     exact⟨(PX.if_den _ _ _).mpr ⟨λ _=>h1,λ h=>by cases h⟩,h2⟩
   | false=>
     obtain⟨h1,h2⟩:=DT.bind_s (t:=b) (ho.2 rfl) hl
     exact⟨(PX.if_den _ _ _).mpr ⟨λ h=>(by cases h),λ _=>h1⟩,h2⟩
 | .chk g t,e,st,ho,hl=>by
   have ho:=(PX.land_den g _).mp ho
   obtain⟨h1,h2⟩:=DT.bind_s (t:=t) ho.2 hl
   exact⟨(PX.land_den _ _).mpr ⟨ho.1,h1⟩,h2⟩
 |.bad,e,st,ho,hl=>ho.elim
theorem DT.bind_all{P Q:DS->Prop}{f:DS->DT}{h:DS->DS}(hf:∀ st,P st->(f st).All Q)(hh:∀ st,P st->Q (h st)):∀ {t:DT},t.All P->(t.bind f h).All Q
 |.leaf e st,a=>by cases e<;>first|exact hf _ a|exact hh _ a
 |.node _ _ _,a=>⟨DT.bind_all hf hh a.1,DT.bind_all hf hh a.2⟩
 |.chk _ t,a=>DT.bind_all hf hh (t:=t) a
 |.bad,_=>trivial
theorem DT.then_s{b:DS}{f:DS->DT}{h:DS->DS}{t:DT}{e:AExit}{st:DS}(hb:t.All (ChgS b))(ho:(t.then f h).ok.den)(hl:(t.then f h).lf=some (e,st)) :
 t.ok.den/\((∃ st0 m,t.lf=some (.normal,st0)/\(∀ s,ES st0 s->ES m s)/\ChgS b m/\(f m).ok.den/\(f m).lf=some (e,st))\/(e.isN=false/\∃ st0,t.lf=some (e,st0)/\st=h st0)):=by
 have viaBind:(t.bind f h).ok.den->(t.bind f h).lf=some (e,st)->t.ok.den/\((∃ st0 m,t.lf=some (.normal,st0)/\(∀ s,ES st0 s->ES m s)/\ChgS b m/\(f m).ok.den/\(f m).lf=some (e,st))\/(e.isN=false/\∃ st0,t.lf=some (e,st0)/\st=h st0)):=λ ho hl=>by
  obtain⟨h1,h2⟩:=DT.bind_s ho hl;refine⟨h1,h2.imp ?_ id⟩;rintro⟨st0,h3,h4,h5⟩;exact⟨st0,st0,h3,λ _ h=>h,hb.lf h3,h4,h5⟩
 unfold DT.then at ho hl
 split at ho
 . rename_i hn
   rw[Ac hn] at hl;exact viaBind ho hl
 . rename_i hn
   rw[Ae hn] at hl
   cases hm:t.norm with
   |none=>rw[hm] at ho hl;exact viaBind ho hl
   |fail=>rw[hm] at ho hl;exact viaBind ho hl
   | some m=>
     rw[hm] at ho hl;simp only[DT.chk_ok,DT.chk_lf] at ho hl;obtain⟨ho1,ho2⟩:=ho;refine⟨ho1,?_⟩;obtain⟨e0,st0,h0⟩:=DT.ok_lf ho1
     have nrm:e0.isN=true->(f m).ok.den->(f m).lf=some (e,st)->((∃ st0 m,t.lf=some (.normal,st0)/\(∀ s,ES st0 s->ES m s)/\ChgS b m/\(f m).ok.den/\(f m).lf=some (e,st))\/(e.isN=false/\∃ st0,t.lf=some (e,st0)/\st=h st0)):=λ he h1 h2=>by
      have he:e0= .normal:=by cases e0<;>first|rfl|cases he
      subst he;exact .inl ⟨st0,m,h0,λ s hs=>DT.norm_s hb hm h0 hs,DT.norm_chg hb hm,h1,h2⟩
     cases hc:t.cont with
     |none=>rw[hc] at ho2;exact ho2.elim
     | some c=>
       have hcs:=DT.cont_s hc h0
       cases c with
       | lit c=>
         cases c with
         |false=>rw[hc] at ho2;exact ho2.elim
         | true=>
           rw[hc] at ho2 hl;exact nrm hcs.symm ho2 hl
       | dyn c=>
         rw[hc] at ho2 hl;simp only[BX.b] at hcs;subst hcs;have ho2:=(PX.if_den _ _ _).mp ho2
         cases he:e0.isN with
         | true=>
           rw[he] at hl;exact nrm he (ho2.1 he) hl
         | false=>
           rw[he] at hl;simp only[DT.lf,DT.map_lf,DT.drop_lf h0 he,Cv,Ak,Al] at hl;obtain⟨rfl,rfl⟩:=hl;exact .inr ⟨he,st0,h0,rfl⟩
theorem DT.then_all{b:DS}{Q:DS->Prop}{f:DS->DT}{h:DS->DS}{t:DT}(hb:t.All (ChgS b))(hf:∀ st,ChgS b st->(f st).All Q)(hh:∀ st,ChgS b st->Q (h st)):(t.then f h).All Q:=by
 unfold DT.then;split
 . exact DT.bind_all hf hh hb
 . cases hm:t.norm with
   |none=>exact DT.bind_all hf hh hb
   |fail=>exact DT.bind_all hf hh hb
   | some m=>
     have h1:=hf m (DT.norm_chg hb hm);refine DT.chk_all _ ?_
     cases hc:t.cont with
     |none=>trivial
     | some c=>
       cases c with
       |lit c=>cases c<;>first|trivial|exact h1
       |dyn c=>exact⟨h1,DT.map_all hh (DT.drop_all hb)⟩
theorem zV(v:DV):v.enc.isAgg=v.isAgg:=by cases v<;>rfl
theorem Zal{v:DV}(h:v.flatc=true):v.enc.flatc=true/\∀ q es,v.enc≠.sl q es:=by cases v<;>first|(cases h;done)|exact⟨rfl,λ _ _ h=>(by cases h)⟩
theorem zU{s:PS}{hd:Hd}{c:Nat}{v:PV}{os as:List PV}(h:v.flatc=true)(hr:IY s hd (c+1) os as):IY s hd c (v::os) (v::as):=by
 cases v<;>first|exact⟨rfl,h,hr⟩|(cases h;done)
theorem Ny{d:DS}{s:PS}(hs:ES d s){hd:Hd}:∀ (vs:List DV) (c:Nat) {g:PX} {os:List DV},FN d hd c vs=some (g,os)->g.den->IY s hd c (DV.encL os) (DV.encL vs)
 | [],c,g,os,h,_=>by
   simp only[FN,Ak,Al] at h;rw[<- h.2];trivial
 | v :: vs,c,g,os,h,hg=>by
   have flat:v.flatc=true->(match FN d hd (c+1) vs with|some (g,os)=>some (g,v::os)|none=>none)=some (g,os)->IY s hd c (DV.encL os) (DV.encL (v::vs)):=by
    intro hf h
    cases h1:FN d hd (c+1) vs with
    |none=>rw[h1] at h;cases h
    | some r=>
      obtain⟨g1,os1⟩:=r;rw[h1] at h;simp only[Ak,Al] at h;obtain⟨rfl,rfl⟩:=h;exact zU (Zal hf).1 (Ny hs vs (c+1) h1 hg)
   have flat':(if v.flatc=true then (match FN d hd (c+1) vs with|some (g,os)=>some (g,v::os)|none=>none) else none)=some (g,os)->IY s hd c (DV.encL os) (DV.encL (v::vs)):=by
    intro h;split at h
    . exact flat (by assumption) h
    . cases h
   cases v with
   | sl q r l=>
     simp only[FN] at h;split at h
     . rename_i hq
       have hq:q= .bor hd [c] true:=by simpa [Fk] using hq
       subst hq
       cases h1:FN d hd (c+1) vs with
       |none=>rw[h1] at h;split at h<;>simp_all
       | some r=>
         obtain⟨g1,os1⟩:=r;rw[h1] at h
         have hk:CG d hd [c]≠.any:=by intro e;rw[e] at h;cases h
         have ek:=KK hs hd [c] hk;split at h
         . rename_i r' l' g2 os2 e1 e2;simp only[Ak,Al] at h e2;obtain⟨rfl,rfl⟩:=h;obtain⟨rfl,rfl⟩:=e2;have hg:=(PX.land_den _ _).mp hg;have hl:l.length=l'.length:=hg.1;refine⟨rfl,by rw[ek,e1];rfl,⟨_,rfl,?_⟩,Ny hs vs (c+1) h1 hg.2⟩;rw[Bc,Bc];exact hl
         . rename_i g2 os2 e1 e2;simp only[Ak,Al] at h e2;obtain⟨rfl,rfl⟩:=h;obtain⟨rfl,rfl⟩:=e2;have hg:=(PX.land_den _ _).mp hg;have hl:l.length=0:=hg.1;refine⟨rfl,by rw[ek,e1];rfl,⟨_,rfl,?_⟩,Ny hs vs (c+1) h1 hg.2⟩;rw[Bc];exact hl
         . cases h
     . cases h
   | nil q=>
     simp only[FN] at h;split at h
     . rename_i hq
       have hq:q= .bor hd [c] true:=by simpa [Fk] using hq
       subst hq
       cases h1:FN d hd (c+1) vs with
       |none=>rw[h1] at h;split at h<;>simp_all
       | some r=>
         obtain⟨g1,os1⟩:=r;rw[h1] at h
         have hk:CG d hd [c]≠.any:=by intro e;rw[e] at h;cases h
         have ek:=KK hs hd [c] hk;split at h
         . rename_i r' l' g2 os2 e1 e2;simp only[Ak,Al] at h e2;obtain⟨rfl,rfl⟩:=h;obtain⟨rfl,rfl⟩:=e2;have hg:=(PX.land_den _ _).mp hg;have hl:l'.length=0:=hg.1;refine⟨rfl,by rw[ek,e1];rfl,⟨_,rfl,?_⟩,Ny hs vs (c+1) h1 hg.2⟩;rw[Bc];exact hl.symm
         . rename_i g2 os2 e1 e2;simp only[Ak,Al] at h e2;obtain⟨rfl,rfl⟩:=h;obtain⟨rfl,rfl⟩:=e2;exact⟨rfl,by rw[ek,e1];rfl,⟨_,rfl,rfl⟩,Ny hs vs (c+1) h1 hg⟩
         . cases h
     . cases h
   |_=>exact flat' h
def DV.flag:List DV->Prop
 |[]=>True
 |.sl q _ _::r=>q= .own/\DV.flag r
 |_::r=>DV.flag r
theorem cf:∀ (r:RT) (x:r.D),r.pl=true->DV.flag (r.dv .own x)
 |.one t,x,h=>by cases t<;>first|trivial|(cases h;done)|exact⟨rfl,trivial⟩
 | .cons t r,x,h=>by
   rw[RT.pl,Ah] at h
   obtain⟨h,h2⟩:=h
   cases t<;>first|(cases h;done)|exact⟨rfl,cf r x.2 h2⟩|exact cf r x.2 h2
theorem cv{hd:Hd}{D':DS}{K:PS->Prop}(hK:∀ s',ES D' s'->K s'):∀ (vs:List DV) (c:Nat) {d:DS} {s:PS},ES d s->I0 hd c vs d=some D'->DV.flag vs->NP hd c (DV.encL vs) K s
 | [],c,d,s,hs,h,_=>by
   simp only[I0,Ak] at h;subst h;exact hK _ hs
 | v :: vs,c,d,s,hs,h,hf=>by
   cases v with
   | sl q r l=>
     simp only[I0] at h
     have hk:CG d hd [c]≠.any:=by intro e;rw[e] at h;cases h
     have ek:=KK hs hd [c] hk
     have hn:I0 hd (c+1) vs (HR d (.sl q r l) hd [c])=some D'/\∃ es0,Ds s hd [c]= .sl .own es0:=by
      split at h
      . rename_i e1;exact⟨h,_,by rw[ek,e1];rfl⟩
      . rename_i e1;exact⟨h,_,by rw[ek,e1];rfl⟩
      . cases h
     obtain⟨rfl,hf⟩:=hf;exact⟨hn.2,cv hK vs (c+1) (Pd hs hd [c] (.sl .own r l) hk) hn.1 hf⟩
   |nil q=>cases h
   |_=>exact cv hK vs (c+1) hs h hf
theorem bL:∀ (r:RT) (x y:r.D),r.pl=true->Mo (RT.enc r x) (RT.enc r y)
 |.one t,x,y,h=>by cases t<;>first|(cases h;done)|exact⟨⟨_,rfl⟩,trivial⟩|exact⟨λ _ _ h=>(by cases h),trivial⟩
 | .cons t r,x,y,h=>by
   rw[RT.pl,Ah] at h
   obtain⟨h,h2⟩:=h
   cases t<;>first|(cases h;done)|exact⟨⟨_,rfl⟩,bL r x.2 y.2 h2⟩|exact⟨λ _ _ h=>(by cases h),bL r x.2 y.2 h2⟩
theorem kJ:∀ {vs:List DV} {c:Nat} {hd:Hd} {b:Nat},X7 c vs=some (hd,b)->hd.sb=true
 |[],_,_,_,h=>by cases h
 | v :: vs,c,hd,b,h=>by
   unfold X7 at h
   split at h
   . cases h
   . split at h
     . rename_i hc
       simp only[Ah] at hc
       simp only[Ak,Al] at h
       rw[<- h.1];exact hc.2
     . cases h
   . split at h
     . rename_i hc
       simp only[Ah] at hc
       simp only[Ak,Al] at h
       rw[<- h.1];exact hc.2
     . cases h
   . rename_i h1;cases h1;exact kJ h
theorem Zb2 {d d1:DS}{s:PS}(hs:ES d s){M:DMk}{x y:Opnd}{g:PX}{v:DV}(h:NC M x y d=some (g,v,d1))(hg:g.den){dst:Option Nat}{k:PS->Prop}(hk:∀ s',ES d1 s'->k (s'.put dst v.enc)):dM M.P x y dst k s:=by
 unfold NC at h;split at h
 . rename_i m hm;split at h
   . rename_i hc;simp only[Ah] at hc;obtain⟨hc,hpl⟩:=hc;split at h
     . rename_i hd b hh;split at h
       . rename_i g1 os ho;split at h
         . rename_i z hz;split at h
           . rename_i st' hS;simp only[Ak,Al] at h;obtain⟨rfl,rfl,rfl⟩:=h;have hg:=(PX.land_den _ _).mp hg
             have hy:y.pev s.sl= .fl (.int .i64 m):=by
              have:=y.dev_ev hs;rw[hm] at this;exact this.of (by simp)
             have hx:x.pev s.sl=(x.dev d.sl).enc:=(x.dev_ev hs).of (by intro e;rw[e] at hc;cases hc.2);refine⟨m,hd,b,M.r.enc z,hy,?_,kJ hh,?_,?_,⟨z,rfl,hg.2,bL _ _ _ hpl,?_⟩⟩
             . rw[hx,zV];exact eq_of_beq hc.1
             . rw[hx];exact ki _ hc.2
             . rw[hx,LL,<- SX hz];exact Ny hs _ b ho hg.1
             . rw[<- dC];have hP:M.P.vd=M.vd:=rfl;refine cv (λ s' hs'=>?_) _ b hs hS (cf _ _ hpl);have h:=hk s' hs';rw[hP]
               cases hvd:M.vd with
               |true=>rw[hvd] at h;exact h
               |false=>rw[hvd] at h;exact h
           . cases h
         . cases h
       . cases h
     . cases h
   . cases h
 . cases h
theorem WH{hd:Hd}{D':DS}:∀ (vs:List DV) (c:Nat) {d:DS},I0 hd c vs d=some D'->ChgS d D'
 | [],c,d,h=>by
   simp only[I0,Ak] at h
   subst h;exact ChgS.refl _
 | v :: vs,c,d,h=>by
   cases v with
   | sl q r l=>
     simp only[I0] at h
     split at h
     . exact(ChgS.setK _ _ _ _).trans (WH vs _ h)
     . exact(ChgS.setK _ _ _ _).trans (WH vs _ h)
     . cases h
   |nil q=>cases h
   |_=>exact WH vs _ h
theorem zN{d d1:DS}{M:DMk}{x y:Opnd}{g:PX}{v:DV}(h:NC M x y d=some (g,v,d1)):ChgS d d1:=by
 unfold NC at h
 repeat' split at h
 all_goals first|(cases h;done)|skip
 all_goals
  simp only[Ak,Al] at h
  obtain⟨_,_,rfl⟩:=h
  exact WH _ _ (by assumption)
theorem ZbF{v:DV}{r:Hd×Nat}(h:v.hld=some r):v≠.any/\v.enc.hld=some r:=by
 cases v<;>first|(cases h;done)|exact⟨by simp,h⟩
theorem Za8{a:DV}{n:Nat}{d d1:DS}{s:PS}{g:PX}{v:DV}(hs:ES d s)(h:Ns a n d=some (g,v,d1))(hg:g.den):∃ s1,Xy a.enc n s=some s1/\ES d1 s1:=by
 unfold Ns at h;split at h
 . rename_i i o;obtain⟨s1,e1,e2⟩:=Zx (p:=.box i o) hs (.inr rfl) h;refine⟨s1,?_,e2⟩;show (Jx true i (some n) (.box i o) s).map (·.2)=some s1;rw[e1];rfl
 . rename_i i o;obtain⟨s1,e1,e2⟩:=ZB (p:=.ptr i o) hs (.inr rfl) h hg;refine⟨s1,?_,e2⟩;show (IE true (some n) (.ptr i o) s).map (·.2)=some s1;rw[e1];rfl
 . cases h
theorem yO{a:DV}{n:Nat}{d d1:DS}{g:PX}{v:DV}(h:Ns a n d=some (g,v,d1)):ChgS d d1:=by
 unfold Ns at h;split at h
 . exact ZR h
 . exact ZY h
 . cases h
theorem Zc0{a:Opnd}{t:Nat}{d d1:DS}{s:PS}{g:PX}(hs:ES d s)(h:NR a t d=some (g,d1))(hg:g.den){K:PS->Prop}(hk:∀ s',ES d1 s'->K s'):ez a t K s:=by
 unfold NR at h;split at h
 . rename_i hd b cs e1 e2;have ht:=hs.sl.get t;rw[e2] at ht;have ht:=ht.of (by simp);have ha:=a.dev_ev hs;obtain⟨hk1,hk2⟩:=ZbF e1;have ha:=ha.of hk1
   cases e3:FN d hd b cs with
   |none=>rw[e3] at h;cases h
   | some r=>
     obtain⟨g1,os⟩:=r;rw[e3] at h;simp only at h
     cases e4:Ns (a.dev d.sl) os.length d with
     |none=>rw[e4] at h;cases h
     | some r=>
       obtain⟨g2,w,d2⟩:=r;rw[e4] at h;simp only[Ak,Al] at h;obtain⟨rfl,rfl⟩:=h;have hg:=(PX.land_den _ _).mp hg;obtain⟨s1,k1,k2⟩:=Za8 hs e4 hg.2;refine⟨hd,b,DV.encL os,s1,by rw[ha];exact hk2,by rw[ht];rfl,?_,?_,hk _ (k2.put (some t) (.agg os))⟩
       . rw[ht];exact Ny hs cs b e3 hg.1
       . rw[ha,E3];exact k1
 . cases h
theorem Zbd{a:Opnd}{t:Nat}{d d1:DS}{g:PX}(h:NR a t d=some (g,d1)):ChgS d d1:=by
 unfold NR at h;split at h
 . rename_i hd b cs e1 e2
   cases e3:FN d hd b cs with
   |none=>rw[e3] at h;cases h
   | some r=>
     obtain⟨g1,os⟩:=r;rw[e3] at h;simp only at h
     cases e4:Ns (a.dev d.sl) os.length d with
     |none=>rw[e4] at h;cases h
     | some r=>
       obtain⟨g2,w,d2⟩:=r;rw[e4] at h;simp only[Ak,Al] at h;obtain⟨_,rfl⟩:=h;exact(yO e4).trans (ChgS.put _ _ _)
 . cases h
theorem ZcP{c:DC}{p:PV}(h:EV c.v p):EV (oN c).v p.fz:=by
 obtain⟨d,v⟩:=c;rcases h with h|h
 . simp only at h;subst h;exact .inl rfl
 . simp only at h;subst h;have gen:(⟨true,v.fz⟩:DC).v.enc=v.enc.fz:=XI v;right
   cases v with
   |sl q r l=>cases q<;>rfl
   |nil q=>cases q<;>rfl
   |any=>rfl
   |undef=>rfl
   |int _ _=>rfl
   |bool _=>rfl
   |str _=>rfl
   |ifc _=>rfl
   |_=>exact gen.symm
theorem nW:∀ {a:List DC} {b:List PV},EL a b->EL (Qm a) (PV.fzL b)
 |[],[],_=>trivial
 |_::_,_::_,h=>⟨ZcP h.1,nW h.2⟩
 |[],_::_,h=>h.elim
 |_::_,[],h=>h.elim
theorem nr{a:List DC}{b:List PV}(h:EBx a b):EBx (Qm a) (PV.fzL b):=by
 rcases h with h|h
 . left;rw[h];rfl
 . exact .inr (nW h)
theorem bz:∀ (x:List DC),Chg x (Qm x)
 |[]=>trivial
 | c::r=>by
   refine⟨?_,bz r⟩
   obtain⟨d,v⟩:=c
   cases v with
   |sl q r l=>cases q<;>first|exact .inr rfl|exact .inl rfl
   |nil q=>cases q<;>first|exact .inr rfl|exact .inl rfl
   |_=>first|exact .inr rfl|exact .inl rfl
theorem ZcT{a:DV}{p:PV}{d d1:DS}{s:PS}(hs:ES d s)(ha:EV a p)(h:NT a d=some d1):∃ s1,Tn p s=some s1/\ES d1 s1:=by
 unfold NT at h;split at h
 . rename_i i o;rw[ha.of (by simp)];simp only[Ak] at h;subst h;exact⟨_,rfl,hs.sl.clr _,hs.bx.put i (nr (hs.bx.get i)),hs.hp⟩
 . rename_i i o;rw[ha.of (by simp)];simp only[Ak] at h;subst h;exact⟨_,rfl,hs.sl.clr _,hs.bx,hs.hp.put i (nr (hs.hp.get i))⟩
 . cases h
theorem Zbx{a:DV}{d d1:DS}(h:NT a d=some d1):ChgS d d1:=by
 unfold NT at h;split at h
 . simp only[Ak] at h;subst h;exact⟨Chg.clr _ _,ChgB.put _ _ (bz _),ChgB.refl _⟩
 . simp only[Ak] at h;subst h;exact⟨Chg.clr _ _,ChgB.refl _,ChgB.put _ _ (bz _)⟩
 . cases h
end
end Go.Ag
