/- Part 4 of what FnExactRelease needs. No conditions. -/
import Derived.Test.YtbkpfpcnjpggaaaGreatLibC
namespace Go.Ag
set_option linter.unusedSimpArgs false
set_option linter.unusedVariables false
noncomputable section
theorem ND{v:PV}(h:v.retc=true):v.argc=true:=by
 cases v with
 |sl q es=>rfl
 |ep=>cases h
 |fl x=>exact h
 |ptr=>rfl
 |_=>cases h
theorem xd{cs:List PV}(h:EK cs=true):Is cs=true:=by
 induction cs with
 |nil=>rfl
 |cons x r ih=>simp only[EK,Is,Ai] at h ⊢;exact⟨ND h.1,ih h.2⟩
theorem uu{v:PV}(h:v.retok=true):v.argok=true:=by
 cases v with
 |agg cs=>exact xd (cs:=cs) h
 |tup vs=>cases h
 |fl x=>exact ND (v:=.fl x) h
 |sl q es=>exact ND (v:=.sl q es) h
 |ep q es j o=>exact ND (v:=.ep q es j o) h
 |box i o=>exact ND (v:=.box i o) h
 |ptr i o=>exact ND (v:=.ptr i o) h
theorem NN{v:PV}(h:v.retc=true)(hd:Hd):v.bor hd=false:=by
 cases v with
 |sl q es=>cases q<;>first|rfl|(simp[PV.retc,PV.cell] at h)
 |fl=>rfl
 |ptr=>rfl
 |ep=>cases h
 |box=>cases h
 |agg=>cases h
 |tup=>cases h
theorem zr{cs:List PV}(h:EK cs=true)(hd:Hd):PV.borL hd cs=false:=by
 induction cs with
 |nil=>rfl
 |cons x r ih=>simp only[EK,PV.borL,Ai,Cy] at h ⊢;exact⟨NN h.1 hd,ih h.2⟩
theorem cI{v:PV}(h:v.retok=true)(hd:Hd):v.bor hd=false:=by
 cases v with
 |agg cs=>exact zr (cs:=cs) h hd
 |tup vs=>cases h
 |fl x=>exact NN (v:=.fl x) h hd
 |sl q es=>exact NN (v:=.sl q es) h hd
 |ep q es j o=>exact NN (v:=.ep q es j o) h hd
 |box i o=>exact NN (v:=.box i o) h hd
 |ptr i o=>exact NN (v:=.ptr i o) h hd
theorem bI{n:Option Nat}{cs:List PV}{v:PV}(e:Ds n cs=some v)(h:EK cs=true):v.retok=true:=by
 cases n with
 |some n=>simp[Ds] at e;subst e;exact h
 | none=>
   match cs with
   | [x]=>
     simp[Ds] at e;subst e;simp only[EK,MD] at h
     cases x with
     |agg=>cases h
     |tup=>cases h
     |_=>exact h
   |[]=>simp[Ds] at e
   |_::_::_=>simp[Ds] at e
section
variable {h0:Ab} {ω0 ω:Nat->W} {ρ ρ':Nat->Nat} {st st' st1:PS} {us us':St} {X X':Cb}
theorem eH (R : RS h0 ω0 ω ρ st us X) (hX0:∀ p,(X 0).1.fcell p= .fl .undef) (hXb:∀ j hd,(X j).1.bor hd=false) {r:ARes} {v:PV} (e:H8 st r=some (v,st1)) :
 ∃ u ω',F4 us r=some u/\RS h0 ω0 ω' ρ st1 us (Xs X 0 v u)/\v.retok=true:=by
 cases r with
 | tmp t=>
   simp only[H8] at e;split at e
   . rename_i hr;simp only[Am] at e;obtain⟨ω',R1⟩:=R.take t 0 hX0 (λ j=>hXb j _)
     have hv:(Gd (Aa st.sl t) t st).1=Aa st.sl t:=by
      simp only[Gd];split
      . rw[Af (by rw[cI hr];simp)]
      . rfl
     rw[hv,e] at R1
     have h1:Aa st.sl t=v:=by rw[<- hv,e]
     rw[h1] at R1 hr;refine⟨get us.sl t,ω',?_,R1,hr⟩;have:=iT (uu hr) (by rw[<- h1];exact R.sh t) (hd:=.s t) (λ p=>by rw[<- h1];exact R.core.rc (.s t) p);simp only[F4,this,A9]
   . cases e
 | cell t n=>
   simp only[H8] at e;split at e
   . rename_i i o hx;have hev:get us.sl t= .box i o:=R.ev_box (x:=.t t) hx;split at e
     . rename_i hc;obtain⟨hle,hret⟩:=hc;simp only[Hi,Gp,Ac hle,A9,B4] at e;obtain⟨v',e,he⟩:=e;cases he
       have hB:∀ k,Ak (BR st.bx i (AS (Ak st.bx i) o (CK (segm (Ak st.bx i) o (n.getD 1))))) k=if k=i then AS (Ak st.bx i) o (CK (segm (Ak st.bx i) o (n.getD 1))) else Ak st.bx k:=by
        intro k;rw[JE];by_cases hk:k=i
        . subst hk;rcases Br k st.bx.length with h|h
          . simp[h]
          . rw[Af (by omega),Ac rfl]
            have:Ak st.bx k=[]:=by rw[CU,Bz h];rfl
            rw[this];generalize CK (segm [] o (n.getD 1))=q;cases q<;>rfl
        . simp[hk]
       obtain⟨u,ω',h1,h2,_⟩:=R.loadmv hX0 hXb (st':={ st with sl:=clr (.b i) st.sl,bx:=BR st.bx i (AS (Ak st.bx i) o (CK (segm (Ak st.bx i) o (n.getD 1)))) }) (hd:=.b i) (cs:=Ak st.bx i) (ws:=AR us.bx i) (by simp) (by simp)
        (λ p => rfl) (λ p=>by simp only[Ah,hB,Ac]) (λ hd' p h h'=>by
         cases hd' with
         |b k=>simp only[Ah,hB];rw[Af (λ h2=>h (by rw[h2]))]
         |s t=>exact absurd rfl (h' t)
         | _ => rfl) rfl (R.lb i).symm hle (R.cb i) (by rw[HQ];exact R.lbx) (λ k=>by
           simp only[hB];split
           . rename_i hk;rw[hk,Gk];exact R.lb i
           . exact R.lb k) (λ k c=>by
           simp only[hB];split
           . rw[G8 _ _ _ _ (by rw[KB,EW hle];exact hle)];split
             . rw[NT];split
               . rfl
               . rw[C9];split
                 . exact R.cb i _
                 . rfl
             . exact R.cb i c
           . exact R.cb k c) R.ch rfl (λ _=>rfl) e
       exact⟨u,ω',by simp only[F4,hev];rw[Ac (by rw[<- R.lb i];exact hle)];exact h1,h2,bI e hret⟩
     . cases e
   . rename_i i o hx;obtain⟨hev,_⟩:=R.ev_ptr (x:=.t t) hx;simp only[Opnd.ev] at hev;split at e
     . rename_i hc;obtain⟨hi,hle,hret⟩:=hc;have hc':i<st.hp.length/\o+n.getD 1<=(Ak st.hp i).length:=⟨hi,hle⟩;simp only[Hn,Ac hc',A9,B4] at e;obtain⟨v',e,he⟩:=e;cases he;obtain⟨b,hb1,hb2,hb3⟩:=R.blk hi;have hlen:(AV us.hp (ρ i)).length=(Ak st.hp i).length:=(R.hp i hi).2
       have hrd:rd us.hp (ρ i) o (n.getD 1)=some (((AV us.hp (ρ i)).drop o).take (n.getD 1)):=by
        simp[rd,hb1,hb2,hb3];rw[<- hb3,hlen];exact hle
       have hB:∀ k,Ak (BR st.hp i (AS (Ak st.hp i) o (CK (segm (Ak st.hp i) o (n.getD 1))))) k=if k=i then AS (Ak st.hp i) o (CK (segm (Ak st.hp i) o (n.getD 1))) else Ak st.hp k:=by
        intro k;rw[JE];simp[hi]
       obtain⟨u,ω',h1,h2,_⟩:=R.loadmv hX0 hXb (st':={ st with sl:=clr (.h i) st.sl,hp:=BR st.hp i (AS (Ak st.hp i) o (CK (segm (Ak st.hp i) o (n.getD 1)))) }) (hd:=.h i) (cs:=Ak st.hp i) (ws:=AV us.hp (ρ i)) (by simp) (by simp)
        (λ p => rfl) (λ p=>by simp only[Ah,hB,Ac]) (λ hd' p h h'=>by
         cases hd' with
         |h k=>simp only[Ah,hB];rw[Af (λ h2=>h (by rw[h2]))]
         |s t=>exact absurd rfl (h' t)
         | _ => rfl) rfl hlen hle (R.ch i) R.lbx R.lb R.cb (λ k c=>by
           simp only[hB];split
           . rw[G8 _ _ _ _ (by rw[KB,EW hle];exact hle)];split
             . rw[NT];split
               . rfl
               . rw[C9];split
                 . exact R.ch i _
                 . rfl
             . exact R.ch i c
           . exact R.ch k c) (by simp[HQ]) (λ k=>by
           simp only[hB];split
           . rename_i hk;rw[hk,Gk]
           . rfl) e
       exact⟨u,ω',by simp only[F4,hev,hrd,Hf,h1],h2,bI e hret⟩
     . cases e
   . cases e
def HX(l:List (PV×V)):Cb:=λ i=>match i with
 |0=>(.fl .undef,.undef)
 |i+1=>l[i]?.getD (.fl .undef,.undef)
theorem gZ(l:List (PV×V))(x:PV×V)(i:Nat):HX (l++[x]) i=if i=l.length+1 then x else HX l i:=by
 cases i with
 |zero=>rfl
 | succ i=>
   simp only[HX,Nat.add_right_cancel_iff];by_cases h:i=l.length
   . subst h;simp
   . rw[Af h];rcases Br i l.length with h1|h1
     . rw[Bc h1]
     . rw[Bz (by simp;omega),Bz h1]
theorem gp{l:List (PV×V)}(h:∀ x∈l,x.1.retok=true)(j:Nat)(hd:Hd):(HX l j).1.bor hd=false:=by
 cases j with
 |zero=>rfl
 | succ i=>
   simp only[HX]
   cases e:l[i]? with
   |none=>rfl
   |some x=>exact cI (h x (GB e)) hd
theorem RS.stash{l:List (PV×V)}{v:PV}{u:V}(hl:∀ x∈l,x.1.retok=true)(R:RS h0 ω0 ω ρ st us (Xs (HX l) 0 v u))(hv:v.retok=true):∃ ω',RS h0 ω0 ω' ρ st us (HX (l++[(v,u)])):=by
 refine⟨_,RS.ren (st':=st) (us':=us) (X':=HX (l++[(v,u)])) R (Ren.mv_ok (.x 0) (.x (l.length+1))) (UT (by simp)) (λ hd' p=>?_) rfl R.sh (λ i=>?_) R.lsl R.lbx R.lb R.cb R.ch rfl (λ _=>rfl)⟩
 . cases hd' with
   | x i =>
     simp only[Ah,gZ];by_cases hi:i=l.length+1
     . subst hi;simp only[Ac];exact .inl ⟨.x 0,p,rfl,λ _ r=>by simp[Ren.mv],λ hb pb tp e=>absurd e ((Pw hv p).1 hb pb tp)⟩
     . simp only[Af hi]
       cases i with
       |zero=>exact .inr (CM (A0 p))
       | succ i=>
         refine .inl ⟨.x (i+1),p,rfl,λ _ r=>Ren.mv_still (by simp) (by simpa using hi) _,λ hb pb tp e=>?_⟩;exfalso;have:=Dz (gp hl (i+1) hb) e;exact this rfl
   |s t=>exact .inl (Bg rfl (λ _=>Ren.mv_still (by simp) (by simp)) λ hb pb tp _ h=>Ren.mv_still (h 0) (h _))
   |b t=>exact .inl (Bg rfl (λ _=>Ren.mv_still (by simp) (by simp)) λ hb pb tp _ h=>Ren.mv_still (h 0) (h _))
   |h t=>exact .inl (Bg rfl (λ _=>Ren.mv_still (by simp) (by simp)) λ hb pb tp _ h=>Ren.mv_still (h 0) (h _))
 . rw[gZ];split
   . exact R.shx 0
   . cases i with
     |zero=>exact A5 _
     |succ i=>exact R.shx (i+1)
theorem aJ:∀ (rs:List ARes) {ω:Nat->W} {st st1:PS} {l:List (PV×V)} {vs:List PV},(∀ x∈l,x.1.retok=true)->RS h0 ω0 ω ρ st us (HX l)->HW st rs=some (vs,st1) ->
 ∃ ws ω',Ek us rs=some ws/\ws.length=vs.length/\RS h0 ω0 ω' ρ st1 us (HX (l++vs.zip ws))/\∀ v∈vs,v.retok=true
 | [],ω,st,st1,l,vs,hl,R,e=>by
   simp only[HW,Am,Ao] at e
   obtain⟨rfl,rfl⟩:=e
   exact⟨[],ω,rfl,rfl,by simpa using R,by simp⟩
 | r :: rs,ω,st,st1,l,vs,hl,R,e=>by
   simp only[HW] at e
   cases e1:H8 st r with
   |none=>rw[e1] at e;cases e
   | some x=>
     obtain⟨v,s1⟩:=x
     rw[e1] at e
     simp only at e
     cases e2:HW s1 rs with
     |none=>rw[e2] at e;cases e
     | some y=>
       obtain⟨vs',s2⟩:=y
       rw[e2] at e
       cases e
       obtain⟨u,ω1,h1,R1,hv⟩:=eH R (λ p=>A0 p) (gp hl) e1
       obtain⟨ω2,R2⟩:=RS.stash hl R1 hv
       obtain⟨ws,ω3,h2,h3,R3,h4⟩:=aJ rs (l:=l++[(v,u)]) (λ x hx=>by
        rcases D5.1 hx with hx|hx
        . exact hl x hx
        . simp at hx;rw[hx];exact hv) R2 e2
       refine⟨u::ws,ω3,by simp only[Ek,h1,h2],by simp[h3],by simpa using R3,?_⟩
       simp only[Ck]
       rintro x (rfl|hx)
       . exact hv
       . exact h4 x hx
def Ren.tupl:Ren:=λ hd p=>match hd with
 |.x 0=>.frz
 |.x (j+1)=>.own (.x 0) (j::p)
 |hd=>.own hd p
theorem Ren.tupl_ok:Ren.tupl.Ok:=by
 refine⟨λ hd p hd' p' x c e e'=>?_,λ hd p=>?_⟩
 . cases hd with
   | x j => cases j with
     |zero=>cases e
     | succ j=>
       cases e
       cases hd' with
       | x k=>cases k with
         |zero=>cases e'
         |succ k=>simp[Ren.tupl] at e';exact⟨by rw[e'.1],e'.2.symm⟩
       |_=>simp[Ren.tupl] at e'
   | _=>
     cases e
     cases hd' with
     |x k=>cases k<;>simp[Ren.tupl] at e'
     |_=>simp[Ren.tupl] at e';first|exact⟨by rw[e'.1],e'.2.symm⟩|skip
 . cases hd with
   | x j=>cases j with
     |zero=>exact .inl rfl
     |succ j=>exact .inr ⟨_,_,rfl⟩
   |_=>exact .inr ⟨_,_,rfl⟩
theorem Ren.tupl_still{hd:Hd}(h:∀ i,hd≠.x i):Ren.tupl.still hd:=λ p=>by
 cases hd with
 |x i=>exact absurd rfl (h i)
 |_=>rfl
theorem z7(hd:Hd)(p:List Nat)(i:Nat)(q:List Nat)(e:Ren.tupl hd p= .own (.h i) q):hd= .h i:=by
 cases hd with
 |x j=>cases j<;>cases e
 |_=>first|(cases e;done)|(cases e;rfl)
theorem fM{vs:List PV}{ws:List V}(hl:ws.length=vs.length)(i:Nat):HX (vs.zip ws) (i+1)=(Aa vs i,get ws i):=by
 simp only[HX,Dy,Co];rcases Br i vs.length with h|h
 . have h2:i<ws.length:=by omega
   rw[A3 (by simp;omega),A3 h,A3 h2];simp
 . rw[Bz (by simp;omega),Bz h,Bz (by omega)];rfl
theorem V3{v:PV}(h:v.retok=true\/v= .fl .undef):∀ vs,v≠.tup vs:=by
 rintro vs rfl;rcases h with h|h<;>cases h
theorem WM{vs:List PV}(h:∀ v∈vs,v.retok=true)(i:Nat):(Aa vs i).retok=true\/Aa vs i= .fl .undef:=by
 rw[Dy]
 cases e:vs[i]? with
 |none=>exact .inr rfl
 |some v=>exact .inl (h v (GB e))
theorem RS.tupl{vs:List PV}{ws:List V}(R:RS h0 ω0 ω ρ st us (HX (vs.zip ws)))(hl:ws.length=vs.length)(hv:∀ v∈vs,v.retok=true):∃ ω',RS h0 ω0 ω' ρ st us (X1 (.tup vs) (.tup ws)):=by
 have hshx:∀ i,AX (Aa vs i) (get ws i):=λ i=>by have:=R.shx (i+1);rw[fM hl] at this;exact this
 refine⟨_,RS.ren (st':=st) (us':=us) (X':=X1 (.tup vs) (.tup ws)) R Ren.tupl_ok z7 (λ hd' p=>?_) rfl R.sh (λ i=>?_) R.lsl R.lbx R.lb R.cb R.ch rfl (λ _=>rfl)⟩
 . cases hd' with
   | x i =>
     by_cases hi:i=0
     . subst hi
       match p with
       |[]=>exact .inr (AW rfl)
       |[_]=>exact .inr (AW rfl)
       |_::_::_::_=>exact .inr (AW rfl)
       | [k, c]=>
         have hfx:Ah ρ st us (X1 (.tup vs) (.tup ws)) (.x 0) [k,c]=(Aa (Aa vs k).cells c,get (get ws k).cells c):=rfl;rw[hfx];rcases WM hv k with hr|hr
         . have hnt:=V3 (.inl hr)
           have hs:Shp1 (Aa vs k) (get ws k):=by
            have:=hshx k;generalize Aa vs k=w at this hnt
            cases w with
            |tup vs=>exact absurd rfl (hnt _)
            |_=>exact this
           have hne:Aa vs k≠.fl .undef:=by intro h;rw[h] at hr;cases hr
           have e1:=LF hnt c;have e2:=Pt (hs.notup hne) c;refine .inl ⟨.x (k+1),[c],?_,λ _ r=>rfl,λ hb pb tp e=>?_⟩
           . simp only[Ah,fM hl];rw[e1,e2]
           . rw[<- e1] at e;exact absurd e ((Pw hr [c]).1 hb pb tp)
         . refine .inr (CM ?_);rw[hr];cases c<;>rfl
     . exact .inr (AW (E1 i hi p))
   |s t=>exact .inl (Bg rfl (λ _=>Ren.tupl_still (by simp)) λ hb pb tp _ h=>Ren.tupl_still h)
   |b t=>exact .inl (Bg rfl (λ _=>Ren.tupl_still (by simp)) λ hb pb tp _ h=>Ren.tupl_still h)
   |h t=>exact .inl (Bg rfl (λ _=>Ren.tupl_still (by simp)) λ hb pb tp _ h=>Ren.tupl_still h)
 . by_cases hi:i=0
   . subst hi;refine⟨ws,rfl,hl,λ i=>?_⟩;have hnt:=V3 (WM hv i);have:=hshx i;generalize Aa vs i=w at this hnt
     cases w with
     |tup vs=>exact absurd rfl (hnt _)
     |_=>exact this
   . rw[Dl _ _ i hi];exact A5 _
theorem uM(R:RS h0 ω0 ω ρ st us X0){rs:List ARes}{v:PV}(e:Mw st rs=some (v,st1)):∃ u ω',Ep us rs=some u/\RS h0 ω0 ω' ρ st1 us (X1 v u)/\v.nob:=by
 have many:(HW st rs).map (fun(vs,st)=>(PV.tup vs,st))=some (v,st1)->(∀ r,rs≠[r])->∃ u ω',Ep us rs=some u/\RS h0 ω0 ω' ρ st1 us (X1 v u)/\v.nob:=by
  intro e hr;simp only[B4] at e;obtain⟨⟨vs,s⟩,e1,e2⟩:=e;cases e2
  have hX:(HX []:Cb)=X0:=by funext i;cases i<;>rfl
  obtain⟨ws,ω1,h1,h2,R1,h3⟩:=aJ rs (l:=[]) (by simp) (by rw[hX];exact R) e1;rw[CA] at R1;obtain⟨ω2,R2⟩:=R1.tupl h2 h3;refine⟨.tup ws,ω2,?_,R2,λ p hb pb tp e=>?_⟩
  . match rs,hr with
    |[],_=>simp only[Ep,h1];rfl
    |[r],hr=>exact absurd rfl (hr r)
    |_::_::_,_=>simp only[Ep,h1];rfl
  . match p with
    |[]=>cases e
    |[_]=>cases e
    |_::_::_::_=>cases e
    | [k,c]=>
      have e':(Aa (Aa vs k).cells c).q=some (.bor hb pb tp):=e;rcases WM h3 k with hr|hr
      . rw[<- LF (V3 (.inl hr)) c] at e';exact(Pw hr [c]).1 hb pb tp e'
      . rw[hr] at e';cases c<;>cases e'
 match rs,e,many with
 | [r],e,_=>
   obtain⟨u,ω',h1,h2,h3⟩:=eH R (λ p=>A0 p) (λ _ _=>rfl) e;exact⟨u,ω',h1,h2,λ p=>(Pw h3 p).1⟩
 |[],e,many=>exact many e (by simp)
 |_::_::_,e,many=>exact many e (by simp)
theorem RS.forget(R:RS h0 ω0 ω ρ st us X):RS h0 ω0 ω ρ ⟨[],[],st.hp⟩ ⟨[],[],us.hp⟩ X:=by
 have:=RS.ren (st':=⟨[],[],st.hp⟩) (us':=⟨[],[],us.hp⟩) (X':=X) R Ren.id_ok (λ hd p i q e=>by simp[Ren.id] at e;exact e.1) (λ hd' p=>?_) rfl (λ t=>A5 _) R.shx rfl rfl (λ _=>rfl) (λ _ _=>rfl) R.ch rfl (λ _=>rfl)
 . rwa [CX] at this
 . cases hd' with
   |x i=>exact .inl (Bh rfl)
   |h i=>exact .inl (Bh rfl)
   |s t=>exact .inr (AW (A0 p))
   |b t=>refine .inr (AW ?_);simp only[Ah,Ak];unfold A8;split<;>rfl
theorem xN(n i:Nat):Aa (H9 n) i= .fl .undef:=by
 induction n generalizing i with
 |zero=>rfl
 | succ n ih=>cases i with
   |zero=>rfl
   |succ i=>exact ih i
theorem xw(n:Nat):(H9 n).length=n:=by
 induction n with
 |zero=>rfl
 |succ n ih=>simp[H9,ih]
theorem WC(n i:Nat):Ak (K8 n) i=[]:=by
 induction n generalizing i with
 |zero=>rfl
 | succ n ih=>cases i with
   |zero=>rfl
   |succ i=>exact ih i
theorem xX(n i:Nat):AR (F8 n) i=[]:=by
 induction n generalizing i with
 |zero=>rfl
 | succ n ih=>cases i with
   |zero=>rfl
   |succ i=>exact ih i
theorem x8(n:Nat):(K8 n).length=n:=by
 induction n with
 |zero=>rfl
 |succ n ih=>simp[K8,ih]
theorem zk(n:Nat):(F8 n).length=n:=by
 induction n with
 |zero=>rfl
 |succ n ih=>simp[F8,ih]
theorem RS.start{args:List PV}{ws:List V}{H:List (List PV)}{h:Ab}(R:RS h0 ω0 ω ρ ⟨args,[],H⟩ ⟨ws,[],h⟩ X0)(n m:Nat):RS h0 ω0 ω ρ ⟨args++H9 n,K8 m,H⟩ ⟨ws++DY n,F8 m,h⟩ X0:=by
 have hl:args.length=ws.length:=R.lsl
 have sl:∀ t,(t<args.length/\Aa (args++H9 n) t=Aa args t/\get (ws++DY n) t=get ws t)\/Aa (args++H9 n) t= .fl .undef:=by
  intro t;rcases Br t args.length with h|h
  . exact .inl ⟨h,Vx _ _ _ h,ak _ _ _ (by omega)⟩
  . exact .inr (by rw[Vn _ _ _ h,xN])
 have:=RS.ren (st':=⟨args++H9 n,K8 m,H⟩) (us':=⟨ws++DY n,F8 m,h⟩) (X':=X0) R Ren.id_ok (λ hd p i q e=>by simp[Ren.id] at e;exact e.1) (λ hd' p=>?_) rfl (λ t=>?_) R.shx (by simp[xw,dA,hl]) (by simp[x8,zk]) (λ i=>by simp[WC,xX]) (λ i c=>by simp[WC,Aa,PV.lay]) R.ch rfl (λ _=>rfl)
 . rwa [CX] at this
 . cases hd' with
   |x i=>exact .inl (Bh rfl)
   |h i=>exact .inl (Bh rfl)
   | s t=>
     simp only[Ah];rcases sl t with⟨_,h1,h2⟩|h1
     . rw[h1,h2];exact .inl (Bh (hd:=.s t) rfl)
     . rw[h1];exact .inr (CM (A0 p))
   |b t=>refine .inr (AW ?_);simp only[Ah,WC];unfold A8;split<;>rfl
 . simp only;rcases sl t with⟨_,h1,h2⟩|h1
   . rw[h1,h2];exact R.sh t
   . rw[h1];exact A5 _
theorem W6{cs:List PV}(h:PV.fltL cs=true)(c:Nat)(hc:c<cs.length):(Aa cs c).flt=true:=by
 induction cs generalizing c with
 |nil=>simp at hc
 | cons x r ih=>
   simp only[PV.fltL,Ai] at h
   cases c with
   |zero=>exact h.1
   |succ c=>exact ih h.2 c (by simpa using hc)
theorem W8{H:Ab}{m:Md}{v:PV}{u:V}(r:RC H ω m v u)(h:v.flt=true):u.flat=true/\v= .fl u:=by
 cases r with
 |undef=>cases h
 |v _ _ hx=>exact⟨hx,rfl⟩
 |nil=>cases h
 |sl=>cases h
 |ep=>cases h
 |box=>cases h
 |ptr=>cases h
theorem cr{H:Ab}{hd:Hd}{p:List Nat}{v:PV}{u:V}(h:v.flt=true)(hs:Shp1 v u)(hr:∀ c,RC H ω (.at hd (p++[c])) (Aa v.cells c) (get u.cells c)):u.flat1=true:=by
 cases v with
 | agg cs=>
   obtain⟨ws,rfl,hl⟩:=hs;simp only[V.flat1,CV];intro w hw;obtain⟨c,hc,rfl⟩:=H5 hw;have r:RC H ω (.at hd (p++[c])) (Aa cs c) (get ws c):=hr c;rw[Co,A3 hc] at r;exact(W8 r (W6 h c (by omega))).1
 |tup vs=>exact hs.elim
 | fl x=>
   have hx:x≠.undef:=by rintro rfl;cases h
   have hu:(∀ us,u≠.agg us)/\∀ us,u≠.tup us:=by cases x<;>first|exact hs|exact absurd rfl hx
   have r:RC H ω (.at hd (p++[0])) (.fl x) (get u.cells 0):=hr 0
   have e:get u.cells 0=u:=by cases u<;>first|rfl|exact absurd rfl (hu.1 _)
   rw[e] at r;have:=(W8 r h).1
   cases u<;>first|exact this|exact absurd rfl (hu.1 _)
 |_=>cases h
theorem yb{v:PV}{u:V}(R:RS h0 ω0 ω ρ st us (X1 v u))(h:v.flt=true):u.flat2=true:=by
 have hs:AX v u:=R.shx 0
 have hr:∀ p,RC us.hp ω (.at (.x 0) p) (v.fcell p) (u.fcell p):=λ p=>R.core.rc (.x 0) p
 have one:(∀ vs,v≠.tup vs)->u.flat2=true:=by
  intro hnt
  have hs1:Shp1 v u:=by cases v<;>first|exact hs|exact absurd rfl (hnt _)
  have hne:v≠.fl .undef:=by rintro rfl;cases h
  have:=cr (p:=[]) h hs1 (λ c=>by have:=hr [c];rw[LF hnt,Pt (hs1.notup hne)] at this;exact this);have hut:=hs1.notup hne
  cases u<;>first|exact this|exact absurd rfl (hut _)
 cases v with
 | tup vs=>
   obtain⟨ws,rfl,hl,h3⟩:=hs;simp only[V.flat2,CV];intro w hw;obtain⟨i,hi,rfl⟩:=H5 hw;have hh:=W6 (cs:=vs) h i (by omega);have:=cr (hd:=.x 0) (p:=[i]) hh (h3 i) (λ c=>hr [i,c]);rw[Co,A3 hi] at this;exact this
 |_=>exact one (by simp)
theorem vR{f:PFun}(ho:AllP f.body.obs):Mp (E3 f.er) (N8 f):=by
 intro h ω0 ρ args ws H Q K R hloc ⟨hlen,hpu,hb⟩ hK;refine⟨by rw[<- R.lsl];exact hlen,?_⟩;have R1:=R.start (f.nslots-f.nparams) f.nbox;have hlen0:h.length<=h.length:=Bt _;refine Ky f.body ho (k:=jh f.pure f.res Q) (K:=UX f.er h K) (λ e st us ω ρ2 R2 hk=>?_) R1 hb
 have fin:(match Mw st f.res with|some (v,st)=>if f.pure then v.flt=true/\Q v [] else Q v st.hp|none=>False)->(match Ep us f.res with|some v=>if f.pure then v.flat2=true/\us.hp.take h.length=h/\K v h else K v us.hp|none=>False):=by
  intro hk
  cases hp:Mw st f.res with
  |none=>rw[hp] at hk;exact hk.elim
  | some x=>
    obtain⟨v,s1⟩:=x;rw[hp] at hk;simp only at hk;obtain⟨u,ω',h1,R3,hnob⟩:=uM R2 hp;rw[h1];simp only
    cases hpure:f.pure with
    | false=>
      rw[hpure] at hk;simp only[Bd,Bs] at hk ⊢;exact hK _ _ _ _ _ _ hk R3.forget hnob
    | true=>
      rw[hpure] at hk;simp only[A9] at hk ⊢;have hH:=hpu hpure;subst hH
      have hold:∀ l,l<h.length->us.hp[l]?=h[l]?:=by
       intro l hl;refine(R3.fr.old l hl ?_).1
       cases e:ω0 l with
       |frz=>exact .inl rfl
       |none=>exact .inr rfl
       | own hd p=>
         obtain⟨i,rfl⟩:=hloc l hd p e;have:=R.bdh l i p e;simp at this
       |ptr i=>have:=R.bdp l i e;simp at this
      have hf2:=yb R3 hk.1;refine⟨hf2,?_,?_⟩
      . refine Hu λ l=>?_
        by_cases hl:l<h.length
        . rw[Mt hl,hold l hl]
        . rw[Bz (by simp;omega),Bz (by omega)]
      ·
       have hs:AX v u:=R3.shx 0
       have hcell:∀ p,RC h ω0 (.at (.x 0) p) (v.fcell p) (u.fcell p):=by
        intro p;have r:RC us.hp ω' (.at (.x 0) p) (v.fcell p) (u.fcell p):=R3.core.rc (.x 0) p
        have hfc:(v.fcell p).flt=true\/v.fcell p= .fl .undef:=by
         have hL:∀ (cs:List PV) c,PV.fltL cs=true->(Aa cs c).flt=true\/Aa cs c= .fl .undef:=by
          intro cs c h;rcases Br c cs.length with hc|hc
          . exact .inl (W6 h c hc)
          . exact .inr (Fl _ _ hc)
         have hkf:=hk.1;unfold PV.fcell;split
         . exact hL _ _ hkf
         . exact .inr rfl
         . rename_i vs i c;rcases hL vs i hkf with h|h
           . generalize Aa vs i=w at h
             cases w with
             |agg cs=>exact hL cs c h
             |_=>cases c<;>first|exact .inl h|exact .inr rfl
           . rw[h];cases c<;>exact .inr rfl
         . exact .inr rfl
         . exact .inl hkf
         . exact .inr rfl
        rcases hfc with h|h
        . obtain⟨a,b⟩:=W8 r h;rw[b];exact .v _ _ a
        . rw[h];exact .undef _ _
       have R0:RS h ω0 ω0 ρ ⟨[],[],[]⟩ ⟨[],[],h⟩ X0:=R.forget
       exact hK u h v [] ω0 ρ hk.2 (R0.handx hs hcell (λ p=>by
        intro i pb tp e;exact hnob p _ _ _ e)) hnob
 cases e with
 |normal=>exact fin hk
 |ret=>exact fin hk
 |exit i=>exact hk.elim
end
noncomputable section
def shut.{u}{α:Sort u}(a:α):{x:α // x=a}:=Classical.choice ⟨⟨a,rfl⟩⟩
section
variable {α:Type}
def Zcr(k:IntKind)(a b:Int):Int:=k.wrap (a+b)
def Zcv(k:IntKind)(a b:Int):Int:=k.wrap (a-b)
def ZcS(k:IntKind)(a b:Int):Int:=k.wrap (a*b)
def ZcH(k:IntKind)(a b:Int):Int:=k.wrap (a.tdiv b)
def Zcl(a b:Int):Int:=a.tmod b
def Zco(k:IntKind)(a b:Int):Int:=k.wrap (BitVec.ofInt k.bits a &&& BitVec.ofInt k.bits b).toNat
def ZcW(k:IntKind)(a b:Int):Int:=k.wrap (BitVec.ofInt k.bits a ||| BitVec.ofInt k.bits b).toNat
def ZcP(k:IntKind)(a b:Int):Int:=k.wrap (BitVec.ofInt k.bits a ^^^ BitVec.ofInt k.bits b).toNat
def yz(k:IntKind)(a b:Int):Int:=k.wrap (BitVec.ofInt k.bits a &&& ~~~BitVec.ofInt k.bits b).toNat
def Zcy(k:IntKind)(a b:Int):Int:=k.wrap (a*2^min b.toNat k.bits)
def ZcN(k:IntKind)(a b:Int):Int:=a.fdiv (2^min b.toNat k.bits)
def ZcI(k:IntKind)(a:Int):Int:=k.wrap (0-a)
def Zb4(k:IntKind)(a:Int):Int:=k.wrap a
def Zct(a b:Int):Int:=if b<a then b else a
def Zcd(a b:Int):Int:=if b > a then b else a
def ZcQ(a:Int):Nat:=a.toNat
def ZcX(a b:Int):Bool:=a == b
def Zc6(a b:Int):Bool:=a != b
def ZcV(a b:Int):Bool:=decide (a<b)
def ZcU(a b:Int):Bool:=decide (a<=b)
def Zc5(a b:Int):Bool:=decide (a > b)
def Zc0(a b:Int):Bool:=decide (a>=b)
def ZcO(a b:List UInt8):List UInt8:=a++b
def Zc4(a b:List UInt8):Bool:=a == b
def ZcZ(a b:List UInt8):Bool:=!(a == b)
def ZcK(s:List UInt8)(j:Int):Int:=(s.getD j.toNat 0).toNat
def ZcF(s:List UInt8):List Int:=s.map λ b=>((b.toNat:Nat):Int)
def Zcw(l:List Int):List UInt8:=l.map λ n=>UInt8.ofNat n.toNat
def Zcp(l:List α):Int:=l.length
def Zc9(l:List α):Nat:=l.length
def Zcz(l:List α)(j:Nat)(d:α):α:=l.getD j d
def Zcs(l:List α)(j:Nat)(x:α):List α:=l.set j x
def ZcT(l:List α)(a b:Nat):List α:=(l.drop a).take (b-a)
def Zb1(l:List α)(n:Nat):List α:=l.take n
def Zch(l m:List α):List α:=l++m
def ZcD(n:Int)(x:α):List α:=List.replicate n.toNat x
def ZcL(a:Bool):Bool:=!a
def ZcG(a b:Bool):Bool:=a&&b
def Zc1(a b:Bool):Bool:=a||b
def ZcJ(a b:Bool):Bool:=a == b
def ZcC(c:Bool)(x y:α):α:=bif c then x else y
end
structure Leaf where
 iAdd:∀ (k:IntKind) (a b:Int),Int
 iSub:∀ (k:IntKind) (a b:Int),Int
 iMul:∀ (k:IntKind) (a b:Int),Int
 iQuo:∀ (k:IntKind) (a b:Int),Int
 iRem:∀ (a b:Int),Int
 iAnd:∀ (k:IntKind) (a b:Int),Int
 iOr:∀ (k:IntKind) (a b:Int),Int
 iXor:∀ (k:IntKind) (a b:Int),Int
 iAndNot:∀ (k:IntKind) (a b:Int),Int
 iShl:∀ (k:IntKind) (a b:Int),Int
 iShr:∀ (k:IntKind) (a b:Int),Int
 iNeg:∀ (k:IntKind) (a:Int),Int
 iConv:∀ (k:IntKind) (a:Int),Int
 iMin:∀ (a b:Int),Int
 iMax:∀ (a b:Int),Int
 iNat:∀ (a:Int),Nat
 iEq:∀ (a b:Int),Bool
 iNe:∀ (a b:Int),Bool
 iLt:∀ (a b:Int),Bool
 iLe:∀ (a b:Int),Bool
 iGt:∀ (a b:Int),Bool
 iGe:∀ (a b:Int),Bool
 sAdd:∀ (a b:List UInt8),List UInt8
 sEq:∀ (a b:List UInt8),Bool
 sNe:∀ (a b:List UInt8),Bool
 sGet:∀ (s:List UInt8) (j:Int),Int
 sRow:∀ (s:List UInt8),List Int
 rowS:∀ (l:List Int),List UInt8
 lLen:∀ {α:Type} (l:List α),Int
 lN:∀ {α:Type} (l:List α),Nat
 lGet:∀ {α:Type} (l:List α) (j:Nat) (d:α),α
 lSet:∀ {α:Type} (l:List α) (j:Nat) (x:α),List α
 lSub:∀ {α:Type} (l:List α) (a b:Nat),List α
 lTake:∀ {α:Type} (l:List α) (n:Nat),List α
 lApp:∀ {α:Type} (l m:List α),List α
 lRep:∀ {α:Type} (n:Int) (x:α),List α
 bNot:∀ (a:Bool),Bool
 bAnd:∀ (a b:Bool),Bool
 bOr:∀ (a b:Bool),Bool
 bIff:∀ (a b:Bool),Bool
 bSel:∀ {α:Type} (c:Bool) (x y:α),α
def iK:Leaf:=⟨@Zcr,@Zcv,@ZcS,@ZcH,@Zcl,@Zco,@ZcW,@ZcP,@yz,@Zcy,@ZcN,@ZcI,@Zb4,@Zct,@Zcd,@ZcQ,@ZcX,@Zc6,@ZcV,@ZcU,@Zc5,@Zc0,@ZcO,@Zc4,@ZcZ,@ZcK,@ZcF,@Zcw,@Zcp,@Zc9,@Zcz,@Zcs,@ZcT,@Zb1,@Zch,@ZcD,@ZcL,@ZcG,@Zc1,@ZcJ,@ZcC⟩
def AM:{l:Leaf // l=iK}:=Classical.choice ⟨⟨iK,rfl⟩⟩
section
variable {α:Type}
@[irreducible] def iAdd(k:IntKind)(a b:Int):Int:=AM.1.iAdd k a b
theorem Yj(k:IntKind)(a b:Int):iAdd k a b=(k.wrap (a+b)):=by unfold iAdd;rw[AM.2];rfl
@[irreducible] def iSub(k:IntKind)(a b:Int):Int:=AM.1.iSub k a b
theorem gx(k:IntKind)(a b:Int):iSub k a b=(k.wrap (a-b)):=by unfold iSub;rw[AM.2];rfl
@[irreducible] def iMul(k:IntKind)(a b:Int):Int:=AM.1.iMul k a b
theorem ZbX(k:IntKind)(a b:Int):iMul k a b=(k.wrap (a*b)):=by unfold iMul;rw[AM.2];rfl
@[irreducible] def iQuo(k:IntKind)(a b:Int):Int:=AM.1.iQuo k a b
theorem ZbS(k:IntKind)(a b:Int):iQuo k a b=(k.wrap (a.tdiv b)):=by unfold iQuo;rw[AM.2];rfl
@[irreducible] def iRem(a b:Int):Int:=AM.1.iRem a b
theorem gH(a b:Int):iRem a b=(a.tmod b):=by unfold iRem;rw[AM.2];rfl
@[irreducible] def iAnd(k:IntKind)(a b:Int):Int:=AM.1.iAnd k a b
theorem ZbC(k:IntKind)(a b:Int):iAnd k a b=(k.wrap (BitVec.ofInt k.bits a &&& BitVec.ofInt k.bits b).toNat):=by unfold iAnd;rw[AM.2];rfl
@[irreducible] def iOr(k:IntKind)(a b:Int):Int:=AM.1.iOr k a b
theorem Zci(k:IntKind)(a b:Int):iOr k a b=(k.wrap (BitVec.ofInt k.bits a ||| BitVec.ofInt k.bits b).toNat):=by unfold iOr;rw[AM.2];rfl
@[irreducible] def iXor(k:IntKind)(a b:Int):Int:=AM.1.iXor k a b
theorem ZbV(k:IntKind)(a b:Int):iXor k a b=(k.wrap (BitVec.ofInt k.bits a ^^^ BitVec.ofInt k.bits b).toNat):=by unfold iXor;rw[AM.2];rfl
@[irreducible] def iAndNot(k:IntKind)(a b:Int):Int:=AM.1.iAndNot k a b
theorem wy(k:IntKind)(a b:Int):iAndNot k a b=(k.wrap (BitVec.ofInt k.bits a &&& ~~~BitVec.ofInt k.bits b).toNat):=by unfold iAndNot;rw[AM.2];rfl
@[irreducible] def iShl(k:IntKind)(a b:Int):Int:=AM.1.iShl k a b
theorem gv(k:IntKind)(a b:Int):iShl k a b=(k.wrap (a*2^min b.toNat k.bits)):=by unfold iShl;rw[AM.2];rfl
@[irreducible] def iShr(k:IntKind)(a b:Int):Int:=AM.1.iShr k a b
theorem Zbv(k:IntKind)(a b:Int):iShr k a b=(a.fdiv (2^min b.toNat k.bits)):=by unfold iShr;rw[AM.2];rfl
@[irreducible] def iNeg(k:IntKind)(a:Int):Int:=AM.1.iNeg k a
theorem ZbT(k:IntKind)(a:Int):iNeg k a=(k.wrap (0-a)):=by unfold iNeg;rw[AM.2];rfl
@[irreducible] def iConv(k:IntKind)(a:Int):Int:=AM.1.iConv k a
theorem fR(k:IntKind)(a:Int):iConv k a=(k.wrap a):=by unfold iConv;rw[AM.2];rfl
@[irreducible] def iMin(a b:Int):Int:=AM.1.iMin a b
theorem ZbL(a b:Int):iMin a b=(if b<a then b else a):=by unfold iMin;rw[AM.2];rfl
@[irreducible] def iMax(a b:Int):Int:=AM.1.iMax a b
theorem ZbU(a b:Int):iMax a b=(if b > a then b else a):=by unfold iMax;rw[AM.2];rfl
@[irreducible] def iNat(a:Int):Nat:=AM.1.iNat a
theorem X7(a:Int):iNat a=(a.toNat):=by unfold iNat;rw[AM.2];rfl
@[irreducible] def iEq(a b:Int):Bool:=AM.1.iEq a b
theorem UR(a b:Int):iEq a b=(a == b):=by unfold iEq;rw[AM.2];rfl
@[irreducible] def iNe(a b:Int):Bool:=AM.1.iNe a b
theorem iJ(a b:Int):iNe a b=(a != b):=by unfold iNe;rw[AM.2];rfl
@[irreducible] def iLt(a b:Int):Bool:=AM.1.iLt a b
theorem im(a b:Int):iLt a b=(decide (a<b)):=by unfold iLt;rw[AM.2];rfl
@[irreducible] def iLe(a b:Int):Bool:=AM.1.iLe a b
theorem iw(a b:Int):iLe a b=(decide (a<=b)):=by unfold iLe;rw[AM.2];rfl
@[irreducible] def iGt(a b:Int):Bool:=AM.1.iGt a b
theorem iR(a b:Int):iGt a b=(decide (a > b)):=by unfold iGt;rw[AM.2];rfl
@[irreducible] def iGe(a b:Int):Bool:=AM.1.iGe a b
theorem iU(a b:Int):iGe a b=(decide (a>=b)):=by unfold iGe;rw[AM.2];rfl
@[irreducible] def sAdd(a b:List UInt8):List UInt8:=AM.1.sAdd a b
theorem gY(a b:List UInt8):sAdd a b=(a++b):=by unfold sAdd;rw[AM.2];rfl
@[irreducible] def sEq(a b:List UInt8):Bool:=AM.1.sEq a b
theorem ie(a b:List UInt8):sEq a b=(a == b):=by unfold sEq;rw[AM.2];rfl
@[irreducible] def sNe(a b:List UInt8):Bool:=AM.1.sNe a b
theorem hZ(a b:List UInt8):sNe a b=(!(a == b)):=by unfold sNe;rw[AM.2];rfl
@[irreducible] def sGet(s:List UInt8)(j:Int):Int:=AM.1.sGet s j
@[irreducible] def sRow(s:List UInt8):List Int:=AM.1.sRow s
theorem Zb3(s:List UInt8):sRow s=(s.map λ b=>((b.toNat:Nat):Int)):=by unfold sRow;rw[AM.2];rfl
@[irreducible] def rowS(l:List Int):List UInt8:=AM.1.rowS l
@[irreducible] def lLen(l:List α):Int:=AM.1.lLen l
theorem gh(l:List α):lLen l=(l.length):=by unfold lLen;rw[AM.2];rfl
@[irreducible] def lN(l:List α):Nat:=AM.1.lN l
theorem UZ(l:List α):lN l=(l.length):=by unfold lN;rw[AM.2];rfl
@[irreducible] def lGet(l:List α)(j:Nat)(d:α):α:=AM.1.lGet l j d
theorem YA(l:List α)(j:Nat)(d:α):lGet l j d=(l.getD j d):=by unfold lGet;rw[AM.2];rfl
@[irreducible] def lSet(l:List α)(j:Nat)(x:α):List α:=AM.1.lSet l j x
theorem Yl(l:List α)(j:Nat)(x:α):lSet l j x=(l.set j x):=by unfold lSet;rw[AM.2];rfl
@[irreducible] def lSub(l:List α)(a b:Nat):List α:=AM.1.lSub l a b
theorem gr(l:List α)(a b:Nat):lSub l a b=((l.drop a).take (b-a)):=by unfold lSub;rw[AM.2];rfl
@[irreducible] def lTake(l:List α)(n:Nat):List α:=AM.1.lTake l n
theorem Xx(l:List α)(n:Nat):lTake l n=(l.take n):=by unfold lTake;rw[AM.2];rfl
@[irreducible] def lApp(l m:List α):List α:=AM.1.lApp l m
theorem Ml(l m:List α):lApp l m=(l++m):=by unfold lApp;rw[AM.2];rfl
@[irreducible] def lRep(n:Int)(x:α):List α:=AM.1.lRep n x
theorem gU(n:Int)(x:α):lRep n x=(List.replicate n.toNat x):=by unfold lRep;rw[AM.2];rfl
@[irreducible] def bNot(a:Bool):Bool:=AM.1.bNot a
theorem Og(a:Bool):bNot a=(!a):=by unfold bNot;rw[AM.2];rfl
@[irreducible] def bAnd(a b:Bool):Bool:=AM.1.bAnd a b
theorem Yq(a b:Bool):bAnd a b=(a&&b):=by unfold bAnd;rw[AM.2];rfl
@[irreducible] def bOr(a b:Bool):Bool:=AM.1.bOr a b
theorem ib(a b:Bool):bOr a b=(a||b):=by unfold bOr;rw[AM.2];rfl
@[irreducible] def bIff(a b:Bool):Bool:=AM.1.bIff a b
theorem gi(a b:Bool):bIff a b=(a == b):=by unfold bIff;rw[AM.2];rfl
@[irreducible] def bSel(c:Bool)(x y:α):α:=AM.1.bSel c x y
theorem Yd(c:Bool)(x y:α):bSel c x y=(bif c then x else y):=by unfold bSel;rw[AM.2];rfl
end
mutual
inductive CT where
 |int (k:IntKind)|bool|str|ifc|sl (r:RT)|slf (r:RT)
inductive RT where
 |one (t:CT)|cons (t:CT) (r:RT)
end
abbrev AJ:RT:=.cons (.int .i64) (.cons (.int .i64) (.one (.int .i64)))
abbrev Au:RT:=.cons (.int .i64) (.cons (.int .i64) (.cons (.int .i64) (.one (.int .i64))))
abbrev AY:RT:=.cons (.int .i64) (.cons (.int .i64) (.cons (.int .i64) (.cons (.int .i64) (.one (.int .i64)))))
mutual
def CT.D:CT->Type
 |.int _=>Int
 |.bool=>Bool
 |.str=>List UInt8
 |.ifc=>Bool
 |.sl r=>List r.D
 |.slf r=>List r.D
def RT.D:RT->Type
 |.one t=>t.D
 |.cons t r=>t.D×r.D
end
def RT.w:RT->Nat
 |.one _=>1
 |.cons _ r=>r.w+1
def CT.dflt:(t:CT)->t.D
 |.int _=>(0:Int)
 |.bool=>false
 |.str=>([]:List UInt8)
 |.ifc=>true
 |.sl r=>([]:List r.D)
 |.slf r=>([]:List r.D)
def RT.dflt:(r:RT)->r.D
 |.one t=>t.dflt
 |.cons t r=>(t.dflt,r.dflt)
mutual
def CT.beq:CT->CT->Bool
 |.int k,.int k'=>decide (k=k')
 |.bool,.bool=>true
 |.str,.str=>true
 |.ifc,.ifc=>true
 |.sl r,.sl r'=>RT.beq r r'
 |.slf r,.slf r'=>RT.beq r r'
 |_,_=>false
def RT.beq:RT->RT->Bool
 |.one t,.one t'=>CT.beq t t'
 |.cons t r,.cons t' r'=>CT.beq t t'&&RT.beq r r'
 |_,_=>false
end
mutual
theorem CT.beq_eq:∀ {a b:CT},CT.beq a b=true->a=b
 |.int k,.int k',h=>by simp only[CT.beq,AB] at h;rw[h]
 |.bool,.bool,_=>rfl
 |.str,.str,_=>rfl
 |.ifc,.ifc,_=>rfl
 |.sl r,.sl r',h=>by rw[RT.beq_eq (a:=r) (b:=r') h]
 |.slf r,.slf r',h=>by rw[RT.beq_eq (a:=r) (b:=r') h]
 |.int _,.bool,h|.int _,.str,h|.int _,.ifc,h|.int _,.sl _,h|.int _,.slf _,h=>by cases h
 |.bool,.int _,h|.bool,.str,h|.bool,.ifc,h|.bool,.sl _,h|.bool,.slf _,h=>by cases h
 |.str,.int _,h|.str,.bool,h|.str,.ifc,h|.str,.sl _,h|.str,.slf _,h=>by cases h
 |.ifc,.int _,h|.ifc,.bool,h|.ifc,.str,h|.ifc,.sl _,h|.ifc,.slf _,h=>by cases h
 |.sl _,.int _,h|.sl _,.bool,h|.sl _,.str,h|.sl _,.ifc,h|.sl _,.slf _,h=>by cases h
 |.slf _,.int _,h|.slf _,.bool,h|.slf _,.str,h|.slf _,.ifc,h|.slf _,.sl _,h=>by cases h
theorem RT.beq_eq:∀ {a b:RT},RT.beq a b=true->a=b
 |.one t,.one t',h=>by rw[CT.beq_eq (a:=t) (b:=t') h]
 | .cons t r,.cons t' r',h=>by
   simp only[RT.beq,Ai] at h
   rw[CT.beq_eq h.1,RT.beq_eq h.2]
 |.one _,.cons _ _,h=>by cases h
 |.cons _ _,.one _,h=>by cases h
end
def GH{r' r:RT}(l:List r'.D):Option (List r.D):=if h:RT.beq r' r=true then some ((congrArg (λ x:RT=>List x.D) (RT.beq_eq h)).mp l) else none
inductive BX where
 |lit (b:Bool)|dyn (b:Bool)
def BX.b:BX->Bool
 |.lit b=>b
 |.dyn b=>b
inductive DV where
 |any
 |undef
 |bool (b:BX)
 |int (k:IntKind) (n:Int)
 |str (s:List UInt8)
 |ifc (b:Bool)
 |nil (q:Ql)
 |sl (q:Ql) (r:RT) (l:List r.D)
 |ep (q:Ql) (r:RT) (l:List r.D) (j o:Nat)
 |box (i o:Nat)
 |ptr (i o:Nat)
 |agg (cs:List DV)
 |tup (vs:List DV)
 deriving Inhabited
mutual
def CT.enc:(t:CT)->t.D->PV
 |.int k,n=>.fl (.int k n)
 |.bool,b=>.fl (.bool b)
 |.str,s=>.fl (.str s)
 |.ifc,b=>.fl (.ifc b)
 |.sl r,l=>.sl .own (l.map (RT.enc r))
 |.slf r,l=>.sl .frz (l.map (RT.enc r))
def RT.enc:(r:RT)->r.D->List PV
 |.one t,x=>[CT.enc t x]
 |.cons t r,x=>CT.enc t x.1::RT.enc r x.2
end
mutual
def DV.enc:DV->PV
 |.any=>.fl .undef
 |.undef=>.fl .undef
 |.bool b=>.fl (.bool b.b)
 |.int k n=>.fl (.int k n)
 |.str s=>.fl (.str s)
 |.ifc b=>.fl (.ifc b)
 |.nil q=>.sl q []
 |.sl q r l=>.sl q (l.map r.enc)
 |.ep q r l j o=>.ep q (l.map r.enc) j o
 |.box i o=>.box i o
 |.ptr i o=>.ptr i o
 |.agg cs=>.agg (DV.encL cs)
 |.tup vs=>.tup (DV.encL vs)
def DV.encL:List DV->List PV
 |[]=>[]
 |v::r=>v.enc::DV.encL r
end
def CT.dv(q:Ql):(t:CT)->t.D->DV
 |.int k,n=>.int k n
 |.bool,b=>.bool (.dyn b)
 |.str,s=>.str s
 |.ifc,b=>.ifc b
 |.sl r,l=>.sl q r l
 |.slf r,l=>.sl .frz r l
def RT.dv(q:Ql):(r:RT)->r.D->List DV
 |.one t,x=>[CT.dv q t x]
 |.cons t r,x=>CT.dv q t x.1::RT.dv q r x.2
def CT.of:(t:CT)->DV->Option t.D
 |.int k,.int k' n=>if k=k' then some n else none
 |.bool,.bool b=>some b.b
 |.str,.str s=>some s
 |.ifc,.ifc b=>some b
 |.sl r,.nil .own=>some ([]:List r.D)
 |.sl r,.sl .own r' l=>GH (r':=r') (r:=r) l
 |.slf r,.nil .frz=>some ([]:List r.D)
 |.slf r,.sl .frz r' l=>GH (r':=r') (r:=r) l
 |_,_=>none
def RT.of:(r:RT)->List DV->Option r.D
 |.one t,[v]=>t.of v
 | .cons t r,v::vs=>(match t.of v,r.of vs with
   |some x,some y=>some (x,y)
   |_,_=>none)
 |_,_=>none
def CT.ofA:(t:CT)->DV->Option t.D
 |.int k,.int k' n=>if k=k' then some n else none
 |.bool,.bool b=>some b.b
 |.str,.str s=>some s
 |.ifc,.ifc b=>some b
 |.sl r,.nil _=>some ([]:List r.D)
 |.sl r,.sl _ r' l=>GH (r':=r') (r:=r) l
 |.slf r,.nil _=>some ([]:List r.D)
 |.slf r,.sl _ r' l=>GH (r':=r') (r:=r) l
 |_,_=>none
def RT.ofA:(r:RT)->List DV->Option r.D
 |.one t,[v]=>t.ofA v
 | .cons t r,v::vs=>(match t.ofA v,r.ofA vs with
   |some x,some y=>some (x,y)
   |_,_=>none)
 |_,_=>none
def DV.ty:DV->Option CT
 |.int k _=>some (.int k)
 |.bool _=>some .bool
 |.str _=>some .str
 |.ifc _=>some .ifc
 |.sl _ r _=>some (.sl r)
 |_=>none
def Za:List DV->Option RT
 |[]=>none
 |[v]=>v.ty.map .one
 | v::r=>(match v.ty,Za r with
   |some t,some r=>some (.cons t r)
   |_,_=>none)
mutual
def CT.pl:CT->Bool
 |.sl r=>r.pl
 |.slf _=>false
 |_=>true
def RT.pl:RT->Bool
 |.one t=>t.pl
 |.cons t r=>t.pl&&r.pl
end
mutual
def CT.nrm:CT->CT
 |.sl r=>.sl r.nrm
 |.slf r=>.sl r.nrm
 |t=>t
def RT.nrm:RT->RT
 |.one t=>.one t.nrm
 |.cons t r=>.cons t.nrm r.nrm
end
mutual
theorem CT.D_nrm:∀ t:CT,t.nrm.D=t.D
 |.int _|.bool|.str|.ifc=>rfl
 |.sl r=>congrArg List (RT.D_nrm r)
 |.slf r=>congrArg List (RT.D_nrm r)
theorem RT.D_nrm:∀ r:RT,r.nrm.D=r.D
 |.one t=>CT.D_nrm t
 | .cons t r=>by
   show (t.nrm.D×r.nrm.D)=(t.D×r.D)
   rw[CT.D_nrm t,RT.D_nrm r]
end
def UY(r:RT)(l:List r.D):List r.nrm.D:=(congrArg List (RT.D_nrm r).symm).mp l
def DV.nrm1:DV->DV
 |.sl .frz r l=>if r.pl then .sl .frz r l else .sl .frz r.nrm (UY r l)
 |v=>v
def DV.nrmA:List DV->List DV
 |[]=>[]
 |v::r=>v.nrm1::DV.nrmA r
def DV.nrm:DV->DV
 |.agg cs=>.agg (DV.nrmA cs)
 |v=>v.nrm1
def DV.nrmV:List DV->List DV
 |[]=>[]
 |v::r=>v.nrm::DV.nrmV r
def DV.cells:DV->List DV
 |.agg cs=>cs
 |v=>[v]
def Ql.own':Ql->Bool
 |.own|.ownw _=>true
 |_=>false
def Ql.bor' (hd:Hd):Ql->Bool
 |.bor h _ _=>h == hd
 |.pre h _=>h == hd
 |_=>false
mutual
def DV.own:DV->Bool
 |.nil q=>q.own'
 |.sl q _ _=>q.own'
 |.agg cs=>DV.ownL cs
 |.tup vs=>DV.ownL vs
 |_=>false
def DV.ownL:List DV->Bool
 |[]=>false
 |v::r=>v.own||DV.ownL r
end
mutual
def DV.bor(hd:Hd):DV->Bool
 |.nil q=>q.bor' hd
 |.sl q _ _=>q.bor' hd
 |.ep q _ _ _ _=>q.bor' hd
 |.agg cs=>DV.borL hd cs
 |.tup vs=>DV.borL hd vs
 |_=>false
def DV.borL(hd:Hd):List DV->Bool
 |[]=>false
 |v::r=>v.bor hd||DV.borL hd r
end
mutual
def DV.hold:DV->Bool
 |.nil q=>(match q with|.frz=>false|_=>true)
 |.sl q _ _=>(match q with|.frz=>false|_=>true)
 |.ep q _ _ _ _=>(match q with|.frz=>false|_=>true)
 |.agg cs=>DV.holdL cs
 |.tup vs=>DV.holdL vs
 |_=>false
def DV.holdL:List DV->Bool
 |[]=>false
 |v::r=>v.hold||DV.holdL r
end
mutual
def DV.fz:DV->DV
 |.nil _=>.nil .frz
 |.sl _ r l=>.sl .frz r l
 |.ep _ r l j o=>.ep .frz r l j o
 |.agg cs=>.agg (DV.fzL cs)
 |.tup vs=>.tup (DV.fzL vs)
 |v=>v
def DV.fzL:List DV->List DV
 |[]=>[]
 |v::r=>v.fz::DV.fzL r
end
def Ql.detop:Ql->Ql
 |.bor h p _=>.bor h p false
 |.pre h p=>.bor h p false
 |q=>q
mutual
def DV.detop:DV->DV
 |.nil q=>.nil q.detop
 |.sl q r l=>.sl q.detop r l
 |.ep q r l j o=>.ep q.detop r l j o
 |.agg cs=>.agg (DV.detopL cs)
 |.tup vs=>.tup (DV.detopL vs)
 |v=>v
def DV.detopL:List DV->List DV
 |[]=>[]
 |v::r=>v.detop::DV.detopL r
end
mutual
def DV.hasPtr:DV->Bool
 |.ptr _ _=>true
 |.agg cs=>DV.hasPtrL cs
 |.tup vs=>DV.hasPtrL vs
 |_=>false
def DV.hasPtrL:List DV->Bool
 |[]=>false
 |v::r=>v.hasPtr||DV.hasPtrL r
end
mutual
def DV.deep:DV->Bool
 |.undef|.bool _|.int _ _|.str _|.ifc _=>true
 |.nil q=>q.own'
 |.sl q r _=>q.own'&&r.pl
 |.agg cs=>DV.deepL cs
 |.tup vs=>DV.deepL vs
 |.ptr _ _=>true
 |_=>false
def DV.deepL:List DV->Bool
 |[]=>true
 |v::r=>v.deep&&DV.deepL r
end
def DV.cell:DV->Bool
 |.bool _|.int _ _|.str _|.ifc _=>true
 |.nil q=>(match q with|.own|.frz|.ownw _=>true|_=>false)
 |.sl q _ _=>(match q with|.own|.frz|.ownw _=>true|_=>false)
 |_=>false
def Dg:List DV->Bool
 |[]=>true
 |v::r=>v.cell&&Dg r
def DV.argc:DV->Bool
 |.bool _|.int _ _|.str _|.ifc _|.nil _|.sl _ _ _|.ptr _ _=>true
 |_=>false
def UU:List DV->Bool
 |[]=>true
 |v::r=>v.argc&&UU r
def DV.argok:DV->Bool
 |.agg cs=>UU cs
 |v=>v.argc
def Hm:List DV->Bool
 |[]=>true
 |v::r=>v.argok&&Hm r
def DV.retc:DV->Bool
 |.ptr _ _=>true
 |v=>v.cell
def Ib:List DV->Bool
 |[]=>true
 |v::r=>v.retc&&Ib r
def DV.retok:DV->Bool
 |.agg cs=>Ib cs
 |v=>v.retc
def CT.flat:CT->Bool
 |.sl _=>false
 |.slf _=>false
 |_=>true
def RT.flat:RT->Bool
 |.one t=>t.flat
 |.cons t r=>t.flat&&r.flat
structure DC where
 d:Bool
 v:DV
structure DS where
 sl:List DC
 bx:List (List DC)
 hp:List (List DC)
def Bf:List DC->Nat->DV
 |[],_=>.any
 |x::_,0=>x.v
 |_::r,n+1=>Bf r n
def C6:List DC->Nat->DV->List DC
 |[],_,_=>[]
 |_::r,0,v=>⟨true,v⟩::r
 |x::r,n+1,v=>x::C6 r n v
def BG:List (List DC)->Nat->List DC
 |[],_=>[]
 |x::_,0=>x
 |_::r,n+1=>BG r n
def E5:List (List DC)->Nat->List DC->List (List DC)
 |[],_,_=>[]
 |_::r,0,v=>v::r
 |x::r,n+1,v=>x::E5 r n v
def HY:List DC->Nat->List DV->List DC
 |cs,_,[]=>cs
 |[],_,_::_=>[]
 |_::r,0,v::vs=>⟨true,v⟩::HY r 0 vs
 |c::r,n+1,v::vs=>c::HY r n (v::vs)
def KO:List DV->Nat->List DV->List DV
 |cs,_,[]=>cs
 |[],_,_::_=>[]
 |_::r,0,v::vs=>v::KO r 0 vs
 |c::r,n+1,v::vs=>c::KO r n (v::vs)
def Gb:List DV->Nat->DV
 |[],_=>.any
 |x::_,0=>x
 |_::r,n+1=>Gb r n
def OE:List DV->Nat->DV->List DV
 |[],_,_=>[]
 |_::r,0,v=>v::r
 |x::r,n+1,v=>x::OE r n v
def BQ:List DV->Nat->Nat->List DV
 |_,0,0=>[]
 |[],_,_=>[]
 |c::r,0,n+1=>c::BQ r 0 n
 |_::r,o+1,n=>BQ r o n
def BV:List DC->List DV
 |[]=>[]
 |c::r=>c.v::BV r
def news:List DV->List DC
 |[]=>[]
 |v::r=>⟨true,v⟩::news r
def C7(hd:Hd):List DC->List DC
 |[]=>[]
 |c::r=>(if c.v.bor hd then ⟨true,.any⟩ else c)::C7 hd r
def DV.isBox(i:Nat):DV->Bool
 |.box j _=>i == j
 |_=>false
def PI(i:Nat):List DC->List DC
 |[]=>[]
 |c::r=>(if c.v.isBox i then ⟨true,.any⟩ else c)::PI i r
def UJ(live:List Nat):Nat->List DC->List DC
 |_,[]=>[]
 |n,c::r=>(if live.contains n then c else ⟨true,.any⟩)::UJ live (n+1) r
def clean:List DC->List DC
 |[]=>[]
 |c::r=>⟨false,c.v⟩::clean r
def Ol:List (List DC)->List (List DC)
 |[]=>[]
 |b::r=>clean b::Ol r
def DS.clean(st:DS):DS:=⟨Go.Ag.clean st.sl,Ol st.bx,Ol st.hp⟩
def Y0:List DC->List PV
 |[]=>[]
 |c::r=>c.v.enc::Y0 r
def Y7:List (List DC)->List (List PV)
 |[]=>[]
 |b::r=>Y0 b::Y7 r
def DS.enc(st:DS):PS:=⟨Y0 st.sl,Y7 st.bx,Y7 st.hp⟩
inductive PX where
 |tt|ff|p (h:Prop)|and (a b:PX)|ite (c:Bool) (a b:PX)
def PX.den:PX->Prop
 |.tt=>True
 |.ff=>False
 |.p h=>h
 |.and a b=>a.den/\b.den
 |.ite c a b=>(c=true->a.den)/\(c=false->b.den)
def PX.land:PX->PX->PX
 |.tt,b=>b
 |.ff,_=>.ff
 |a,.tt=>a
 |a,b=>.and a b
def PX.if' (c:Bool):PX->PX->PX
 |.tt,.tt=>.tt
 |a,b=>.ite c a b
def Ir:V->DV
 |.nils=>.nil .own
 |.tup []=>.tup []
 |.bool b=>.bool (.lit b)
 |.int k n=>.int k n
 |.str s=>.str s
 |.ifc b=>.ifc b
 |_=>.undef
def F6:List V->List DV
 |[]=>[]
 |v::r=>Ir v::F6 r
def Opnd.dev(s:List DC):Opnd->DV
 |.t n=>Bf s n
 |.c v=>Ir v
end
abbrev Ij:=List UInt8
abbrev BF:=List Int
abbrev Aq:=Int×Int
abbrev DX:=Int×Aq
abbrev Ii:=BF×Int
abbrev BE:=Int×BF
abbrev U6:=List Aq
abbrev Dv:=Int×DX
abbrev U4:=BF×BF
abbrev Cp:=List DX
abbrev US:=Int×BE
abbrev Cl:=List BE
abbrev C0:=Int×Dv
abbrev Dh:=List Dv
abbrev Ch:=List Cp
abbrev MF:=U6×Int
abbrev Be:=List C0
abbrev Ct:=List Dh
abbrev J3:=Cp×Int
abbrev ia:=U6×Aq
abbrev iM:=Cl×Int
abbrev J8:=Dh×Int
abbrev F3:=Ch×Int
abbrev iS:=DX×DX
abbrev MC:=BE×BE
abbrev D8:=Be×Int
abbrev J4:=Ct×Int
abbrev BH:=Int×Ct
abbrev ir:=Dv×Dv
abbrev Mv:=BE×Cl
abbrev UL:=BH×Int
abbrev iL:=Cp×Cp
abbrev iP:=Be×DX
abbrev il:=Cl×Cl
abbrev iq:=C0×C0
abbrev iI:=Dh×Dh
abbrev iC:=Ch×Ch
abbrev iz:=Be×Be
abbrev iD:=Ct×Ct
abbrev ik:=BH×BH
abbrev BM:=Int×Ct×Ch×Int×Be×Int×Bool
abbrev Em:=BM×Int
abbrev iu:=BM×BM
abbrev An:V:=.int .i64 0
abbrev Zdc:V:=.int .i64 1
abbrev Ea:V:=.bool false
abbrev Zdb:V:=.bool true
abbrev AL:Opnd:=.c An
abbrev AF:Opnd:=.c Zdc
abbrev Ar:Opnd:=.c Ea
abbrev AZ:Opnd:=.c Zdb
abbrev BI:Ql×CT:=(.own,.int .i64)
abbrev Av:Ql×CT:=(.frz,.int .i64)
noncomputable section
mutual
def DV.ok:DV->Bool
 |.any=>false
 |.agg cs=>DV.okL cs
 |.tup vs=>DV.okL vs
 |_=>true
def DV.okL:List DV->Bool
 |[]=>true
 |v::r=>v.ok&&DV.okL r
end
def DS.put(st:DS)(d:Option Nat)(v:DV):DS:=
 match d with
 |none=>st
 |some d=>if v.own then { st with sl:=C7 (.s d) (C6 st.sl d v) } else { st with sl:=C6 st.sl d v }
def Q6(v:DV)(n:Nat)(st:DS):DV×DS:=if v.own then (if v.bor (.s n) then (.any,st) else (v,{ st with sl:=C7 (.s n) (C6 st.sl n .any) })) else (v,st)
def Bl(x:Opnd)(st:DS):DV×DS:=match x with
 |.c v=>(Ir v,st)
 |.t n=>Q6 (Bf st.sl n) n st
def QY(v:DV)(n:Nat)(st:DS):DV×DS:=if v.own then (if v.retok then (v.fz,{ st with sl:=C7 (.s n) (C6 st.sl n v.fz) }) else (.any,st)) else (v,st)
def EA(x:Opnd)(st:DS):DV×DS:=match x with
 |.c v=>(Ir v,st)
 |.t n=>QY (Bf st.sl n) n st
def DV.fcell:DV->List Nat->DV
 |.agg cs,[c]=>Gb cs c
 |.agg _,_=>.any
 |.tup vs,[i,c]=>Gb (Gb vs i).cells c
 |.tup _,_=>.any
 |v,[0]=>v
 |_,_=>.any
def DV.setc:DV->List Nat->DV->DV
 |.agg cs,[c],w=>.agg (OE cs c w)
 |.agg cs,_,_=>.agg cs
 |.tup vs,_,_=>.tup vs
 |_,[0],w=>w
 |v,_,_=>v
def BN(st:DS):Hd->List Nat->DV
 |.s t,p=>(Bf st.sl t).fcell p
 |.b i,[c]=>Bf (BG st.bx i) c
 |.h i,[c]=>Bf (BG st.hp i) c
 |_,_=>.any
def GL(st:DS)(v:DV):Hd->List Nat->DS
 |.s t,p=>{ st with sl:=C7 (.s t) (C6 st.sl t ((Bf st.sl t).setc p v)) }
 |.b i,[c]=>{ st with sl:=C7 (.b i) st.sl,bx:=E5 st.bx i (C6 (BG st.bx i) c v) }
 |.h i,[c]=>{ st with sl:=C7 (.h i) st.sl,hp:=E5 st.hp i (C6 (BG st.hp i) c v) }
 |_,_=>st
def Ql.brw(hd:Hd)(p:List Nat):Ql->Ql
 |.own=>.bor hd p true
 |.ownw _=>.pre hd p
 |q=>q
def YJ(hd:Hd)(p:List Nat):DV->DV
 |.sl q r l=>.sl (q.brw hd p) r l
 |.nil q=>.nil (q.brw hd p)
 |v=>v
def Ig(hd:Hd):Nat->List DV->List DV
 |_,[]=>[]
 |c,v::r=>YJ hd [c] v::Ig hd (c+1) r
def YP(hd:Hd):DV->DV
 |.agg cs=>.agg (Ig hd 0 cs)
 |.tup vs=>if DV.ownL vs then .undef else .tup vs
 |v=>YJ hd [0] v
def JU(x:Opnd)(st:DS):DV×DS:=match x with
 |.c v=>(Ir v,st)
 |.t n=>(YP (.s n) (Bf st.sl n),st)
def MP:Ql->Option Ql
 |.frz=>some .frz
 |.bor hd _ _=>some (.bor hd [] false)
 |.pre hd _=>some (.bor hd [] false)
 |_=>none
def OA:List DV->List DV
 |[]=>[]
 |v::r=>(if v.own then .any else v)::OA r
def E2(n:Option Nat)(cs:List DV):Option DV:=
 match n,cs with
 |some _,cs=>some (.agg cs)
 |none,[v]=>some v
 |none,_=>none
def Mm(d:Nat):Option DV->Option (PX×Nat)
 |none=>some (.tt,d)
 |some (.int _ i)=>some (.p (0<=i),iNat i)
 |some _=>none
def Ie:List DV->List (Nat×Nat×Opnd)->DS->Option (List DV×DS)
 |cs,[],st=>some (cs,st)
 | cs,(off,size,x)::r,st=>
   if (Bl x st).1.cells.length == size&&Nat.ble (off+size) cs.length&&Dg (Bl x st).1.cells then Ie (KO cs off (Bl x st).1.cells) r (Bl x st).2 else none
abbrev DO:=Option (PX×DV)
def Fw(v:DV):DO:=some (.tt,v)
def dI(k:IntKind)(n:Int):DO:=some (.tt,.int k n)
def dB(b:Bool):DO:=some (.tt,.bool (.dyn b))
def Ud(op:BinOp)(k:IntKind)(a b:Int):DO:=
 match op with
 |.add=>dI k (iAdd k a b)
 |.sub=>dI k (iSub k a b)
 |.mul=>dI k (iMul k a b)
 |.quo=>some (.p (b≠0),.int k (iQuo k a b))
 |.rem=>some (.p (b≠0),.int k (iRem a b))
 |.and=>dI k (iAnd k a b)
 |.or=>dI k (iOr k a b)
 |.xor=>dI k (iXor k a b)
 |.andNot=>dI k (iAndNot k a b)
 |.eql=>dB (iEq a b)
 |.neq=>dB (iNe a b)
 |.lss=>dB (iLt a b)
 |.leq=>dB (iLe a b)
 |.gtr=>dB (iGt a b)
 |.geq=>dB (iGe a b)
 |_=>none
def UH(op:BinOp)(k:IntKind)(a b:Int):DO:=
 match op with
 |.shl=>some (.p (0<=b),.int k (iShl k a b))
 |.shr=>some (.p (0<=b),.int k (iShr k a b))
 |_=>none
def IntKind.same(k k':IntKind):Bool:=decide (k=k')
def OG(op:BinOp)(x y:DV):DO:=
 match x,y with
 | .int k a,.int k' b=>(match op with
   |.shl=>UH .shl k a b
   |.shr=>UH .shr k a b
   |op=>if IntKind.same k k' then Ud op k a b else none)
 | .str a,.str b=>(match op with
   |.add=>some (.p (a.length+b.length<=9223372036854775807),.str (sAdd a b))
   |.eql=>dB (sEq a b)
   |.neq=>dB (sNe a b)
   |_=>none)
 |_,_=>none
def BX.not:BX->BX
 |.lit b=>.lit (!b)
 |.dyn b=>.dyn (bNot b)
def BX.eq:BX->BX->BX
 |.lit a,.lit b=>.lit (a == b)
 |.lit true,.dyn b=>.dyn b
 |.lit false,.dyn b=>.dyn (bNot b)
 |.dyn a,.lit true=>.dyn a
 |.dyn a,.lit false=>.dyn (bNot a)
 |.dyn a,.dyn b=>.dyn (bIff a b)
def U2(neg:Bool):DV->DV->DO
 |.bool a,.bool b=>Fw (.bool (if neg then (a.eq b).not else a.eq b))
 |_,_=>none
def Y3(neg:Bool):DV->DO
 |.ifc a=>dB (if neg then bNot a else a)
 |_=>none
def KC:List DV->List DV->Option BX
 |[],[]=>some (.lit true)
 |.int k a::x,.int k' b::y=>if IntKind.same k k' then (match x,y with
  |[],[]=>some (.dyn (iEq a b))
  |x,y=>(KC x y).map λ t=>.dyn (bAnd (iEq a b) t.b)) else none
 |_,_=>none
def U5(n:Nat)(neg:Bool):DV->DV->DO
 | .agg a,.agg b=>if a.length == n&&b.length == n then (match KC a b with
   |some t=>Fw (.bool (if neg then t.not else t))
   |none=>none) else none
 |_,_=>none
def Zc(op:UnOp)(x:DV):DO:=
 match op,x with
 |.not,.bool b=>Fw (.bool b.not)
 |.neg,.int k n=>dI k (iNeg k n)
 |_,_=>none
def YQ(k:IntKind):DV->DO
 |.int _ n=>dI k (iConv k n)
 |_=>none
def iA(_:DV):DO:=none
def jg(x:Opnd)(z:Bool)(q:Ql):Option Ql:=EM x (if z then 0 else 1) q
def XU(w:Nat)(x:Opnd)(lo hi:Option DV):DV->DO
 | .sl q r l=>(match Mm 0 lo,Mm (lN l) hi with
   | some (g,a),some (g',b)=>if r.w == w then (match jg x lo.isNone q with
     |some q'=>some ((g.land g').land (.p (a<=b/\b<=l.length/\0<l.length)),.sl q' r (lSub l a b))
     |none=>none) else none
   |_,_=>none)
 |_=>none
def e7(_ _:Option DV)(_:DV):DO:=none
def Ys:DV->DO
 |.box i o=>Fw (.box i o)
 |.ptr i o=>Fw (.ptr i o)
 |.ep q r l j o=>Fw (.ep q r l j o)
 |_=>none
def Xp(off:Nat):DV->DO
 |.box i o=>Fw (.box i (o+off))
 |.ptr i o=>Fw (.ptr i (o+off))
 |.ep q r l j o=>Fw (.ep q r l j (o+off))
 |_=>none
def X3(off:Nat)(n:Option Nat)(x:Opnd):DV->DO
 | .agg cs=>(match x with
   |.t t=>if Nat.ble (off+n.getD 1) cs.length&&DV.okL (BQ cs off (n.getD 1)) then (E2 n (Ig (.s t) off (BQ cs off (n.getD 1)))).map λ v=>(.tt,v) else none
   |.c _=>none)
 |_=>none
def Qe(w:Nat)(x:Opnd):DV->DV->DO
 | .sl q r l,.int _ j=>if r.w == w then (match EH x q with
   |some q'=>some (.p (0<=j/\j<l.length),.ep q' r l (iNat j) 0)
   |none=>none) else none
 |.nil _,.int _ _=>none
 |_,_=>none
def gG(_ _:DV):DO:=none
def Y5:DV->DO
 |.sl _ _ l=>dI .i64 (lLen l)
 |.nil _=>dI .i64 0
 |_=>none
def iV(_:DV):DO:=none
def Y4:DV->DV->DO
 |.int .i64 a,.int .i64 b=>dI .i64 (iMin a b)
 |_,_=>none
def YY:DV->DV->DO
 |.int .i64 a,.int .i64 b=>dI .i64 (iMax a b)
 |_,_=>none
abbrev DB:=Option (PX×DV×DS)
def KY(m:Bool)(i:Nat)(n:Option Nat)(a:DV)(st:DS):DB:=
 match a with
 | .box j o=>
   let cs:=BQ (BV (BG st.bx i)) o (n.getD 1)
   if i == j&&Nat.ble (o+n.getD 1) (BG st.bx i).length&&DV.okL cs then
    if m then (E2 n cs).map λ v=>(.tt,v,{ st with sl:=C7 (.b i) st.sl,bx:=E5 st.bx i (HY (BG st.bx i) o (OA cs)) })
    else (E2 n (Ig (.b i) o cs)).map λ v=>(.tt,v,st)
   else none
 |_=>none
def JT(m:Bool)(n:Option Nat)(a:DV)(st:DS):DB:=
 match a with
 | .ptr i o=>
   let cs:=BQ (BV (BG st.hp i)) o (n.getD 1)
   if Nat.blt i st.hp.length&&Nat.ble (o+n.getD 1) (BG st.hp i).length&&DV.okL cs then
    if m then (E2 n cs).map λ v=>(.tt,v,{ st with sl:=C7 (.h i) st.sl,hp:=E5 st.hp i (HY (BG st.hp i) o (OA cs)) })
    else (E2 n (Ig (.h i) o cs)).map λ v=>(.tt,v,st)
   else none
 | .ep q r l j o=>(match MP q with
   |some q'=>if Nat.ble (o+n.getD 1) r.w then (E2 n (BQ (r.dv q' (lGet l j r.dflt)) o (n.getD 1))).map λ v=>(.p (j<l.length),v,st) else none
   |none=>none)
 |_=>none
def Qb(i n:Nat)(a x:Opnd)(st0:DS):DB:=
 match Bl x st0 with
 | (v, st)=>match a.dev st0.sl with
   |.box j o=>if i == j&&Nat.blt i st.bx.length&&v.cells.length == n&&Nat.ble (o+n) (BG st.bx i).length&&Dg v.cells then
    some (.tt,.undef,{ st with sl:=if (!DV.okL (BQ (BV (BG st.bx i)) o n))||DV.ownL (BQ (BV (BG st.bx i)) o n)||v.own then C7 (.b i) st.sl else st.sl,bx:=E5 st.bx i (HY (BG st.bx i) o v.cells) }) else none
   |_=>none
def P5(n:Nat)(a x:Opnd)(st0:DS):DB:=
 match Bl x st0 with
 | (v, st)=>match a.dev st.sl with
   |.ptr i o=>if Nat.blt i st.hp.length&&v.cells.length == n&&Nat.ble (o+n) (BG st.hp i).length&&Dg v.cells then
    some (.tt,.undef,{ st with sl:=if (!DV.okL (BQ (BV (BG st.hp i)) o n))||DV.ownL (BQ (BV (BG st.hp i)) o n)||v.own then C7 (.h i) st.sl else st.sl,hp:=E5 st.hp i (HY (BG st.hp i) o v.cells) }) else none
   | .ep (.bor hd [p] true) _ _ j o=>(match BN st hd [p] with
     | .sl .own r l=>if v.cells.length == n&&Nat.ble (o+n) r.w&&Dg v.cells then (match r.of (KO (r.dv .own (lGet l j r.dflt)) o v.cells) with
       |some y=>some (.p (j<l.length),.undef,GL st (.sl .own r (lSet l j y)) hd [p])
       |none=>none) else none
     |_=>none)
   |_=>none
def Mj(_:Bool)(_:Option Nat)(_:DV)(_:DS):Option DB:=none
def DV.nestX(i c:Nat):DV->Bool
 |.ep (.bor (.b i') [c'] true) _ _ _ _=>i == i'&&c == c'
 |_=>false
def DV.nest(_:DV):Option (Hd×Nat×Nat×Nat×Nat):=none
def XF(_:Nat)(_:Hd)(_ _ _ _:Nat)(_:DV)(_:DS):DB:=none
inductive DSrc where
 |nil
 |sl (r:RT) (l:List r.D)
def DSrc.w:DSrc->Nat->Bool
 |.nil,_=>true
 |.sl r _,w=>r.w == w
def DSrc.to(r:RT):DSrc->Option (List r.D)
 |.nil=>some []
 |.sl _ l=>GH l
def Ik(w:Nat)(y:Opnd)(st:DS):Option (DSrc×DS):=
 match y.dev st.sl with
 |.str s=>if w == 1 then some (.sl (.one (.int .u8)) (sRow s),st) else none
 |.sl .own r l=>if r.w == w then some (.sl r l,(Bl y st).2) else none
 |.sl (.ownw _) _ _=>none
 |.sl _ r l=>if r.w == w&&r.flat then some (.sl r l,st) else none
 |.nil .own=>some (.nil,(Bl y st).2)
 |.nil _=>some (.nil,st)
 |_=>none
def OL(w:Nat)(x:Opnd)(new:DSrc)(st:DS):DB:=
 if !(Nat.blt 0 w&&new.w w) then none else
 match x.dev st.sl with
 | .nil .own=>(match new with
   |.nil=>some (.tt,.nil .own,(Bl x st).2)
   |.sl r l=>some (.p (AK (l.length*w)),.sl .own r l,(Bl x st).2))
 | .sl .own r l=>if r.w == w then (match new.to r with
   |some n=>some (.p (AK ((l.length+n.length)*w)),.sl .own r (lApp l n),(Bl x st).2)
   |none=>none) else none
 | .sl (.bor hd [c] true) r l=>(match BN st hd [c] with
   | .sl .own rh lh=>if rh.w == w then (match new.to rh with
     |some n=>some (.p (l.length=lh.length/\AK ((lh.length+n.length)*w)),.sl .own rh (lApp lh n),GL st .undef hd [c])
     |none=>none) else none
   |_=>none)
 | .nil (.bor hd [c] true)=>(match BN st hd [c] with
   | .nil .own=>(match new with
     |.nil=>some (.tt,.nil .own,GL st .undef hd [c])
     |.sl r l=>some (.p (AK (l.length*w)),.sl .own r l,GL st .undef hd [c]))
   |_=>none)
 | .sl (.pre hd [c]) r l=>(match BN st hd [c] with
   | .sl .own rh lh=>if rh.w == w then (match new.to rh with
     |some n=>some (.p (0<lh.length/\l.length<=lh.length/\0<l.length+n.length/\AK ((l.length+n.length)*w)),.sl .own rh (lApp (lTake lh (lN l)) n),GL st .undef hd [c])
     |none=>none) else none
   |_=>none)
 |_=>none
def Ld(w:Nat)(new:DSrc)(st:DS):DB:=
 match new with
 |.nil=>some (.tt,.nil (.ownw w),st)
 |.sl r l=>some (.p (AK (l.length*w)),.sl (.ownw w) r l,st)
def Qz(w:Nat)(x:Opnd)(new:DSrc)(st:DS):DB:=
 if !(Nat.blt 0 w&&new.w w) then none else
 match x.dev st.sl with
 |.nil .own=>Ld w new (Bl x st).2
 |.nil (.ownw w')=>if w' == w then Ld w new (Bl x st).2 else none
 | .sl .own r l=>if r.w == w then (match new.to r with
   |some n=>some (.p (AK ((l.length+n.length)*w)),.sl (.ownw w) r (lApp l n),(Bl x st).2)
   |none=>none) else none
 | .sl (.ownw w') r l=>if w' == w&&r.w == w then (match new.to r with
   |some n=>some (.p (AK ((l.length+n.length)*w)),.sl (.ownw w) r (lApp l n),(Bl x st).2)
   |none=>none) else none
 | .sl (.pre hd [c]) r l=>(match BN st hd [c] with
   | .sl .own rh lh=>if rh.w == w then (match new.to rh with
     |some n=>some (.p (0<lh.length/\l.length<=lh.length/\AK ((l.length+n.length)*w)),.sl (.ownw w) rh (lApp (lTake lh (lN l)) n),GL st .undef hd [c])
     |none=>none) else none
   | .sl (.ownw w') rh lh=>if w' == w&&rh.w == w then (match new.to rh with
     |some n=>some (.p (0<lh.length/\l.length<=lh.length/\AK ((l.length+n.length)*w)),.sl (.ownw w) rh (lApp (lTake lh (lN l)) n),GL st .undef hd [c])
     |none=>none) else none
   |_=>none)
 |_=>none
def Q3(w:Nat):DV->Option DV
 |.nil .own=>some (.nil (.ownw w))
 |.nil (.ownw w')=>if w == 0||w' == w then some (.nil (.ownw w)) else none
 |.sl .own r l=>if w == 0||r.w == w then some (.sl (.ownw w) r l) else none
 |.sl (.ownw w') r l=>if w == 0||w' == w then some (.sl (.ownw w) r l) else none
 |_=>none
def UW:List (Nat×Nat)->List DV->Option (List DV)
 |[],l=>some l
 | (c,w)::r,l=>match Q3 w (Gb l c) with
   |some v=>UW r (OE l c v)
   |none=>none
def MT(ws:List (Nat×Nat)):DV->Option DV
 |.agg l=>(UW ws l).map .agg
 | .nil q=>(match ws with
   |[(0,w)]=>Q3 w (.nil q)
   |_=>none)
 | .sl q r l=>(match ws with
   |[(0,w)]=>Q3 w (.sl q r l)
   |_=>none)
 |_=>none
def Of(r:RT)(w:Nat):Nat->List DV->Option (List r.D)
 |0,_=>some []
 | n+1,cs=>(match r.of (cs.take w),Of r w n (cs.drop w) with
   |some x,some l=>some (x::l)
   |_,_=>none)
def Gt:List V->Bool
 |[]=>true
 |v::r=>v.flat&&Gt r
def OB(o:AOp)(e:Opnd->DV):DO:=
 match o with
 |.nilck x=>Ys (e x)
 |.bin op x y=>OG op (e x) (e y)
 |.eqB neg x y=>U2 neg (e x) (e y)
 |.eqN neg x y=>(match y with|.c (.ifc true)=>Y3 neg (e x)|_=>none)
 |.eqA n neg x y=>U5 n neg (e x) (e y)
 |.un op x=>Zc op (e x)
 |.conv k x=>YQ k (e x)
 |.bstr x=>iA (e x)
 |.slice w x lo hi=>XU w x (lo.map e) (hi.map e) (e x)
 |.substr x lo hi=>e7 (lo.map e) (hi.map e) (e x)
 |.fieldA off a=>Xp off (e a)
 |.field off n x=>X3 off n x (e x)
 |.indexA w x i=>Qe w x (e x) (e i)
 |.index x i=>gG (e x) (e i)
 |.len x=>Y5 (e x)
 |.lenT x=>iV (e x)
 |.minI x y=>Y4 (e x) (e y)
 |.maxI x y=>YY (e x) (e y)
 |_=>none
def Bm (m:Bool)(o:AOp)(ty:Option RT)(st:DS):DB:=
 let e (x:Opnd):=x.dev st.sl
 let known (r:DV×DS):DB:=if r.1.ok then some (.tt,r.1,r.2) else none
 match o with
 |.mv x=>known (if m then JU x st else Bl x st)
 |.allocB i zs=>if Nat.blt i st.bx.length&&Gt zs then some (.tt,.box i 0,{ st with sl:=C7 (.b i) (PI i st.sl),bx:=E5 st.bx i (news (F6 zs)) }) else none
 | .boxB i n x=>(match Bl x st with
   |(v,st)=>if Nat.blt i st.bx.length&&v.cells.length == n&&Dg v.cells then some (.tt,.box i 0,{ st with sl:=C7 (.b i) (PI i st.sl),bx:=E5 st.bx i (news v.cells) }) else none)
 |.allocH zs=>if Gt zs then some (.tt,.ptr st.hp.length 0,{ st with sl:=C7 (.h st.hp.length) st.sl,hp:=st.hp++[news (F6 zs)] }) else none
 | .boxH n x=>(match Bl x st with
   |(v,st)=>if v.cells.length == n&&Dg v.cells then some (.tt,.ptr st.hp.length 0,{ st with sl:=C7 (.h st.hp.length) st.sl,hp:=st.hp++[news v.cells] }) else none)
 | .build zs ps=>if Gt zs then (match Ie (F6 zs) ps st with
   |some (cs,st)=>some (.tt,.agg cs,st)
   |none=>none) else none
 | .mkSlice w z len=>(match e len with
   | .int .i64 n=>(match (match ty with|some r=>some r|none=>Za (F6 z)) with
     | some r=>(match r.of (F6 z) with
       |some d=>if z.length == w&&r.w == w&&Nat.blt 0 w&&Gt z then some (.p (0<=n/\AK (n.toNat*w)),.sl .own r (lRep n d),st) else none
       |none=>none)
     |none=>none)
   |_=>none)
 | .litSlice w n zs ps=>
   if n == 0 then some (.tt,(match ty with|some r=>.sl .own r []|none=>.nil .own),st)
   else if Gt zs&&zs.length == n*w&&Nat.blt 0 w then (match Ie (F6 zs) ps st with
    | some (cs,st)=>(match (match ty with|some r=>some r|none=>Za (cs.take w)) with
      | some r=>if r.w == w then (match Of r w n cs with
        |some l=>some (.tt,.sl .own r l,st)
        |none=>none) else none
      |none=>none)
    |none=>none)
   else none
 |.loadB i n a=>KY m i n (e a) st
 | .loadH n a=>(match Mj m n (e a) st with
   |some r=>r
   |none=>JT m n (e a) st)
 | .loadX i c n a=>if (e a).nestX i c then (match Mj m n (e a) st with
   |some r=>r
   |none=>none) else none
 |.storeB i n a x=>Qb i n a x st
 | .storeH n a x=>if (e a).ok then (match (e a).nest with
   |some (hd,p,k,j,o)=>XF n hd p k j o (e x) st
   |none=>P5 n a x st) else none
 | .app w x y=>(match Ik w y st with
   |some (new,st)=>OL w x new st
   |none=>none)
 | .appN w x y=>(match x.dev st.sl with
   | .nil .own=>(match Ik w y st with
     |some (new,st)=>OL w x new st
     |none=>none)
   |_=>none)
 | .extract x i=>(match x with
   | .t t=>(match Bf st.sl t with
     |.tup vs=>if Nat.blt i vs.length&&(Gb vs i).ok then (if (Gb vs i).own then (if (Gb vs i).bor (.s t) then none else some (.tt,Gb vs i,{ st with sl:=C7 (.s t) (C6 st.sl t (.tup (OE vs i .undef))) })) else some (.tt,Gb vs i,st)) else none
     |_=>none)
   |.c _=>none)
 |.pick ..=>none
 |.callB ..=>none
 |o=>(OB o e).map λ r=>(r.1,r.2,st)
def Ma(ws:List (Nat×Nat))(m:Bool)(o:AOp)(ty:Option RT)(st:DS):DB:=
 match o with
 | .app w x y=>(match ws with
   | [(0,w')]=>if w' == w then (match Ik w y st with
     |some (new,st)=>Qz w x new st
     |none=>none) else none
   |_=>none)
 | o => (match Bm m o ty st with
   | some (g,v,st)=>(match MT ws v with
     |some v=>some (g,v,st)
     |none=>none)
   |none=>none)
end
noncomputable section
def U3(c:Bool):BX->BX->BX
 |.lit true,.lit true=>.lit true
 |.lit false,.lit false=>.lit false
 |.lit true,.lit false=>.dyn c
 |.lit false,.lit true=>.dyn (bNot c)
 |.lit true,.dyn y=>.dyn (bOr c y)
 |.lit false,.dyn y=>.dyn (bAnd (bNot c) y)
 |.dyn x,.lit true=>.dyn (bOr (bNot c) x)
 |.dyn x,.lit false=>.dyn (bAnd c x)
 |.dyn x,.dyn y=>.dyn (bSel c x y)
def Dw(q q':Ql):Bool:=decide (q=q')
mutual
def C5(c:Bool):DV->DV->DV
 |.undef,.undef=>.undef
 |.bool x,.bool y=>.bool (U3 c x y)
 |.int k x,.int k' y=>if IntKind.same k k' then .int k (bSel c x y) else .any
 |.str x,.str y=>.str (bSel c x y)
 |.ifc x,.ifc y=>.ifc (bSel c x y)
 |.nil q,.nil q'=>if Dw q q' then .nil q else .any
 |.nil q,.sl q' r l=>if Dw q q' then .sl q r (bSel c [] l) else .any
 |.sl q r l,.nil q'=>if Dw q q' then .sl q r (bSel c l []) else .any
 | .sl q r l,.sl q' r' l'=>if Dw q q' then (match GH (r':=r') (r:=r) l' with
   |some l'=>.sl q r (bSel c l l')
   |none=>.any) else .any
 |.box i o,.box i' o'=>if i == i'&&o == o' then .box i o else .any
 |.ptr i o,.ptr i' o'=>if i == i'&&o == o' then .ptr i o else .any
 |.agg x,.agg y=>if x.length == y.length&&DV.okL (J7 c x y) then .agg (J7 c x y) else .any
 |.tup x,.tup y=>if x.length == y.length&&DV.okL (J7 c x y) then .tup (J7 c x y) else .any
 |_,_=>.any
def J7(c:Bool):List DV->List DV->List DV
 |x::a,y::b=>C5 c x y::J7 c a b
 |_,_=>[]
end
def U1(c:Bool)(x y:DC):DC:=if x.d||y.d then ⟨true,C5 c x.v y.v⟩ else x
def QH(c:Bool):List DC->List DC->List DC
 |x::a,y::b=>U1 c x y::QH c a b
 |_,_=>[]
def QO(c:Bool):List (List DC)->List (List DC)->List (List DC)
 |x::a,y::b=>(if x.length == y.length then QH c x y else [])::QO c a b
 |_,_=>[]
def MJ(c:Bool)(x y:DS):Option DS:=
 if x.sl.length == y.sl.length&&x.bx.length == y.bx.length&&x.hp.length == y.hp.length then some ⟨QH c x.sl y.sl,QO c x.bx y.bx,QO c x.hp y.hp⟩ else none
def OI:List DC->List DC->List DC
 |x::a,y::b=>⟨x.d||y.d,y.v⟩::OI a b
 |_,r=>r
def QX:List (List DC)->List (List DC)->List (List DC)
 |x::a,y::b=>OI x y::QX a b
 |_,r=>r
def Lg(x y:DS):DS:=⟨OI x.sl y.sl,QX x.bx y.bx,QX x.hp y.hp⟩
inductive DT where
 |leaf (e:AExit) (st:DS)
 |node (c:Bool) (a b:DT)
 |chk (g:PX) (t:DT)
 |bad
inductive NS where
 |none|some (st:DS)|fail
def DT.norm:DT->NS
 |.leaf .normal st=>.some st
 |.leaf _ _=>.none
 | .node c a b=>(match a.norm,b.norm with
   |.none,y=>y
   |x,.none=>x
   | .some x,.some y=>(match MJ c x y with
     |some z=>.some z
     |none=>.fail)
   |_,_=>.fail)
 |.chk _ t=>t.norm
 |.bad=>.none
def DT.nn:DT->Nat
 |.leaf .normal _=>1
 |.node _ a b=>a.nn+b.nn
 |.chk _ t=>t.nn
 |_=>0
def DT.cont:DT->Option BX
 |.leaf .normal _=>some (.lit true)
 |.leaf _ _=>some (.lit false)
 | .node c a b=>(match a.cont,b.cont with
   |none,y=>y
   |x,none=>x
   |some x,some y=>some (U3 c x y))
 |.chk _ t=>t.cont
 |.bad=>none
def DT.ok:DT->PX
 |.leaf _ _=>.tt
 |.node c a b=>PX.if' c a.ok b.ok
 |.chk g t=>g.land t.ok
 |.bad=>.ff
def DT.nodeB(c:Bool):DT->DT->DT
 |.bad,b=>b
 |a,.bad=>a
 |a,b=>.node c a b
def DT.drop:DT->DT
 |.leaf .normal _=>.bad
 |.leaf e st=>.leaf e st
 |.node c a b=>DT.nodeB c a.drop b.drop
 |.chk _ t=>t.drop
 |.bad=>.bad
def DT.map(f:DS->DS):DT->DT
 |.leaf e st=>.leaf e (f st)
 |.node c a b=>.node c (a.map f) (b.map f)
 |.chk g t=>.chk g (t.map f)
 |.bad=>.bad
def DT.bind(f:DS->DT)(h:DS->DS):DT->DT
 |.leaf .normal st=>f st
 |.leaf e st=>.leaf e (h st)
 |.node c a b=>.node c (a.bind f h) (b.bind f h)
 |.chk g t=>.chk g (t.bind f h)
 |.bad=>.bad
def DT.unexit(i:Nat):DT->DT
 |.leaf (.exit j) st=>if j == i then .leaf .normal st else .leaf (.exit j) st
 |.leaf e st=>.leaf e st
 |.node c a b=>.node c (a.unexit i) (b.unexit i)
 |.chk g t=>.chk g (t.unexit i)
 |.bad=>.bad
def DT.chk':PX->DT->DT
 |.tt,t=>t
 |g,t=>.chk g t
def DT.then(f:DS->DT)(h:DS->DS)(t:DT):DT:=
 if Nat.ble t.nn 1 then t.bind f h
 else match t.norm with
  | .some m=>DT.chk' t.ok (match t.cont with
    |some (.dyn c)=>.node c (f m) (t.drop.map h)
    |some (.lit true)=>f m
    |_=>.bad)
  |_=>t.bind f h
section
variable {X:Type}
inductive LoopTo (c:X->Bool) (f:X->X) (p:X->Prop):X->X->Prop
 |stop {x:X}:p x->c x=false->LoopTo c f p x x
 |go {x y:X}:p x->c x=true->LoopTo c f p (f x) y->LoopTo c f p x y
def LoopOk(c:X->Bool)(f:X->X)(p:X->Prop)(x:X):Prop:=∃ y,LoopTo c f p x y
open Classical in
def Ap(c:X->Bool)(f:X->X)(x:X):X:=if h:∃ y,LoopTo c f (λ _=>True) x y then Classical.choose h else x
theorem LoopTo.fst{c:X->Bool}{f:X->X}{p q:X->Prop}{x y z:X}(h:LoopTo c f p x y)(h':LoopTo c f q x z):y=z:=by
 induction h with
 | stop _ h1=>
   cases h' with
   |stop=>rfl
   |go _ h2=>rw[h1] at h2;cases h2
 | go _ h1 _ ih=>
   cases h' with
   |stop _ h2=>rw[h1] at h2;cases h2
   |go _ _ h3=>exact ih h3
theorem LoopTo.mono{c:X->Bool}{f:X->X}{p q:X->Prop}(hp:∀ x,p x->q x){x y:X}(h:LoopTo c f p x y):LoopTo c f q x y:=by
 induction h with
 |stop h0 h1=>exact .stop (hp _ h0) h1
 |go h0 h1 _ ih=>exact .go (hp _ h0) h1 ih
theorem LoopTo.val{c:X->Bool}{f:X->X}{p:X->Prop}{x y:X}(h:LoopTo c f p x y):Ap c f x=y:=by
 have h':∃ y,LoopTo c f (λ _=>True) x y:=⟨y,h.mono λ _ _=>trivial⟩;unfold Ap;rw[dif_pos h'];exact(Classical.choose_spec h').fst h
theorem LoopOk.to{c:X->Bool}{f:X->X}{p:X->Prop}{x:X}(h:LoopOk c f p x):LoopTo c f p x (Ap c f x):=by
 obtain⟨y,h⟩:=h;rw[h.val];exact h
end
inductive Pl where
 |s (i:Nat)|b (i c:Nat)|h (i c:Nat)
inductive HT where
 |one (q:Ql) (t:CT)|agg (l:List (Ql×CT))
structure Hole where
 pl:Pl
 t:HT
def AgX:List (Ql×CT)->Type
 |[]=>Unit
 |[a]=>a.2.D
 |a::r=>a.2.D×AgX r
def HT.D:HT->Type
 |.one _ t=>t.D
 |.agg l=>AgX l
def GO:List Hole->Type
 |[]=>Unit
 |[a]=>a.t.D
 |a::r=>a.t.D×GO r
def DS.at(st:DS):Pl->DV
 |.s i=>Bf st.sl i
 |.b i c=>Bf (BG st.bx i) c
 |.h i c=>Bf (BG st.hp i) c
def DS.wr(st:DS)(v:DV):Pl->DS
 |.s i=>{ st with sl:=C6 st.sl i v }
 |.b i c=>{ st with bx:=E5 st.bx i (C6 (BG st.bx i) c v) }
 |.h i c=>{ st with hp:=E5 st.hp i (C6 (BG st.hp i) c v) }
def CT.ofQ(q:Ql):(t:CT)->DV->Option t.D
 |.int k,.int k' n=>if IntKind.same k k' then some n else none
 |.bool,.bool b=>some b.b
 |.str,.str s=>some s
 |.ifc,.ifc b=>some b
 |.sl r,.nil q'=>if Dw q q' then some ([]:List r.D) else none
 |.sl r,.sl q' r' l=>if Dw q q' then GH (r':=r') (r:=r) l else none
 |_,_=>none
def Ll:(l:List (Ql×CT))->List DV->Option (AgX l)
 |[],[]=>some ()
 |[a],[v]=>a.2.ofQ a.1 v
 | a::b::r,v::vs=>(match a.2.ofQ a.1 v,Ll (b::r) vs with
   |some x,some y=>some (x,y)
   |_,_=>none)
 |_,_=>none
def OK:(l:List (Ql×CT))->AgX l->List DV
 |[],_=>[]
 |[a],x=>[a.2.dv a.1 x]
 |a::b::r,x=>a.2.dv a.1 x.1::OK (b::r) x.2
def HT.of:(h:HT)->DV->Option h.D
 |.one q t,v=>t.ofQ q v
 |.agg l,.agg vs=>Ll l vs
 |.agg _,_=>none
def HT.dv:(h:HT)->h.D->DV
 |.one q t,x=>t.dv q x
 |.agg l,x=>.agg (OK l x)
def Lo(st:DS):(H:List Hole)->Option (GO H)
 |[]=>some ()
 |[a]=>a.t.of (st.at a.pl)
 | a::b::r=>(match a.t.of (st.at a.pl),Lo st (b::r) with
   |some x,some y=>some (x,y)
   |_,_=>none)
def wrX(st:DS):(H:List Hole)->GO H->DS
 |[],_=>st
 |[a],x=>st.wr (a.t.dv x) a.pl
 |a::b::r,x=>wrX (st.wr (a.t.dv x.1) a.pl) (b::r) x.2
def DV.same:DV->DV->Bool
 |.undef,.undef=>true
 |.nil q,.nil q'=>Dw q q'
 |.box i o,.box i' o'=>i == i'&&o == o'
 |.ptr i o,.ptr i' o'=>i == i'&&o == o'
 |_,_=>false
def DV.isAny:DV->Bool
 |.any=>true
 |_=>false
inductive Cls where
 |left|hole (t:HT)|kill
def je:DV->DV->Option (Ql×CT)
 |.int k _,.int k' _=>if IntKind.same k k' then some (.own,.int k) else none
 |.bool _,.bool _=>some (.own,.bool)
 |.str _,.str _=>some (.own,.str)
 |.ifc _,.ifc _=>some (.own,.ifc)
 |.nil q,.sl q' r _=>if Dw q q' then some (q,.sl r) else none
 |.sl q r _,.nil q'=>if Dw q q' then some (q,.sl r) else none
 |.sl q r _,.sl q' r' _=>if Dw q q'&&RT.beq r' r then some (q,.sl r) else none
 |_,_=>none
def jf:List DV->List DV->Option (List (Ql×CT))
 |[],[]=>some []
 | x::a,y::b=>(match je x y,jf a b with
   |some t,some l=>some (t::l)
   |_,_=>none)
 |_,_=>none
def ji(x:DV)(y:DC):Cls:=
 if y.d then (if x.isAny||x.same y.v then .left else match x,y.v with
  | .agg a,.agg b=>(match jf a b with
    |some l=>.hole (.agg l)
    |none=>.kill)
  | x,y=>(match je x y with
    |some t=>.hole (.one t.1 t.2)
    |none=>.kill)) else .left
def Kb(pl:Nat->Pl):Nat->List DC->List DC->List Hole×List DC
 | n,x::a,y::b=>(match ji x.v y,Kb pl (n+1) a b with
   |.left,(H,l)=>(H,x::l)
   |.hole t,(H,l)=>(⟨pl n,t⟩::H,⟨true,.any⟩::l)
   |.kill,(H,l)=>(H,⟨true,.any⟩::l))
 |_,a,_=>([],a)
def MQ(pl:Nat->Nat->Pl):Nat->List (List DC)->List (List DC)->List Hole×List (List DC)
 | n,x::a,y::b=>(match MQ pl (n+1) a b with
   |(H,l)=>if x.length == y.length then (match Kb (pl n) 0 x y with|(H',x')=>(H'++H,x'::l)) else (H,[]::l))
 |_,a,_=>([],a)
def QZ(x y:DS):List Hole×DS:=
 match Kb .s 0 x.sl y.sl,MQ .b 0 x.bx y.bx,MQ .h 0 x.hp y.hp with
 |(H1,s),(H2,b),(H3,h)=>(H1++H2++H3,⟨s,b,h⟩)
def Ra:List DC->List DC->Bool
 |k::a,y::b=>(k.v.isAny||!y.d||k.v.same y.v)&&Ra a b
 |[],[]=>true
 |_,_=>false
def Q9:List (List DC)->List (List DC)->Bool
 |k::a,y::b=>(k.length == 0||Ra k y)&&Q9 a b
 |[],[]=>true
 |_,_=>false
def YZ(K y:DS):Bool:=Ra K.sl y.sl&&Q9 K.bx y.bx&&Q9 K.hp y.hp
def NP(K:DS):List Hole->Bool
 |[]=>true
 |a::r=>(K.at a.pl).isAny&&NP K r
def DV.top:DV->Bool
 |.sl (.bor _ _ t) _ _=>t
 |.sl (.pre _ _) _ _=>true
 |.nil (.bor _ _ t)=>t
 |.nil (.pre _ _)=>true
 |.ep (.bor _ _ t) _ _ _ _=>t
 |.ep (.pre _ _) _ _ _ _=>true
 |.agg _=>true
 |.tup _=>true
 |_=>false
mutual
def DV.hasTop:DV->Bool
 |.agg cs=>DV.hasTopL cs
 |.tup cs=>DV.hasTopL cs
 |v=>v.top
def DV.hasTopL:List DV->Bool
 |[]=>false
 |v::r=>v.hasTop||DV.hasTopL r
end
def Un (live:List Nat):Nat->List DC->List DC
 |_,[]=>[]
 |n,c::r=>(if live.contains n then (if c.v.hasTop then ⟨true,c.v.detop⟩ else c) else ⟨true,.any⟩)::Un live (n+1) r
def DW(live:List Nat)(st:DS):DS:={ st with sl:=Un live 0 st.sl }
def UO(live:List Nat)(st:DS):DS:={ st with sl:=UJ live 0 st.sl }
def QA(live:List Nat)(body:DS->DT)(A:DS):Nat->DS->Option (List Hole×DS)
 | 0,cur=>(match (body cur).norm with
   |.some m=>some (QZ A (DW live m))
   |_=>none)
 | n + 1,cur=>(match (body cur).norm with
   | .some m=>(match QZ A (DW live m) with
     | (H,K)=>(match Lo A H with
       |some x0=>QA live body A n (wrX K H x0)
       |none=>none))
   |_=>none)
def NS.isNone:NS->Bool
 |.none=>true
 |_=>false
section
variable (live:List Nat) (body:DS->DT) (K:DS) (H:List Hole)
def lT(x:GO H):DT:=body (wrX K H x)
def Ow(x:GO H):Bool:=match (lT body K H x).cont with|some b=>b.b|none=>false
def Oz(x:GO H):GO H:=match (lT body K H x).norm with
 |.some m=>(match Lo (DW live m) H with|some y=>y|none=>x)
 |_=>x
def ig(x:GO H):PX:=(lT body K H x).ok.land (match (lT body K H x).norm with
 |.some m=>if YZ K (DW live m)&&(Lo (DW live m) H).isSome then .tt else .ff
 |.none=>.tt
 |.fail=>.ff)
end
def Ov (live:List Nat)(n:Nat)(body:DS->DT)(st:DS):DT:=
 if (body (DW live st)).norm.isNone then (body (DW live st)).map (Lg (DW live st))
 else match QA live body (DW live st) n (DW live st) with
 |none=>.bad
 | some (H,K)=>(match Lo (DW live st) H with
   |none=>.bad
   | some x0=>if NP K H then
      .chk (.p (LoopOk (Ow body K H) (Oz live body K H) (λ x=>(ig live body K H x).den) x0))
       ((lT body K H (Ap (Ow body K H) (Oz live body K H) x0)).drop.map (Lg (wrX K H (Ap (Ow body K H) (Oz live body K H) x0))))
     else .bad)
abbrev Lj:=List DV->Option (PX×DV)
abbrev Ia:=List DV->List (List DV)->Option (PX×DV×List (List DV))
structure DMk where
 r:RT
 agg:Bool
 ok:r.D->Prop
 g:r.D->Int->r.D×Int
 vd:Bool
def DMk.P(M:DMk):PMk:=⟨M.agg,λ AH m K=>∃ x,AH=M.r.enc x/\M.ok x/\K (M.r.enc (M.g x m).1) (M.g x m).2,M.vd⟩
structure DTk where
 ra:RT
 row:RT
 ok:ra.D->List row.D->Prop
 sel:ra.D->List row.D->List Nat
 val:ra.D->List row.D->List row.D
 law:∀ a l,ok a l->(sel a l).Pairwise (· < ·)/\(∀ i∈sel a l,i<l.length)/\val a l=(sel a l).map λ i=>l.getD i row.dflt
def DTk.P(M:DTk):PTk:=⟨M.row.w,λ a es K=>∃ x l,a=(PV.agg (M.ra.enc x)).fz.nrm/\es=l.map (RT.enc M.row)/\M.ok x l/\K (M.sel x l)⟩
inductive DOp where
 |a (m:Bool) (o:AOp) (ty:Option RT)
 |aw (ws:List (Nat×Nat)) (m:Bool) (o:AOp) (ty:Option RT)
 |call (m:Bool) (f:A7) (p:C3) (D:Lj) (args:List Opnd)
 |mark (f:A7) (M:DMk) (x k:Opnd)
 |tk (f:A7) (M:DTk) (x y:Opnd)
 |callp (m:Bool) (f:A7) (p:C3) (D:Ia) (args:List Opnd)
 |callv (m:Bool) (f:A7) (p:C3) (D:Ia) (args:List Opnd) (i c:Nat)
 |fz (x:Opnd)
 |clm (a:Opnd) (t:Nat) (o:AOp)
 |fzb (a:Opnd) (o:AOp)
structure DOper where
 id:Nat
 dst:Option Nat
 op:DOp
 guard:Option (Nat×Bool)
 anc:List Nat
inductive DCode where
 |skip
 |region (ops:List DOper)
 |regionU (ops:List DOper)
 |seq (l:List Nat) (a b:DCode)
 |cond (c:Opnd) (a b:DCode)
 |block (id:Nat) (a:DCode)
 |scope (a:DCode)
 |loop (live:List Nat) (n:Nat) (a:DCode)
 |exit (id:Nat)
 |ret
def DOp.er:DOp->POp
 |.a m o _=>.a m o
 |.aw ws m o _=>.aw ws m o
 |.call m f p _ args=>.callk m f p args
 |.mark f M x k=>.mark f M.P x k
 |.tk f M x y=>.tk f M.P x y
 |.callp m f p _ args=>.call m f p args
 |.callv m f p _ args i c=>.callv m f p args i c
 |.fz x=>.fz x
 |.clm x t o=>.clm x t o
 |.fzb x o=>.fzb x o
def DOper.er(o:DOper):POper:=⟨o.id,o.dst,o.op.er,o.guard,o.anc⟩
def DCode.er:DCode->PCode
 |.skip=>.skip
 |.region ops=>.region (ops.map DOper.er)
 |.regionU ops=>.regionU (ops.map DOper.er)
 |.seq l a b=>.seq l a.er b.er
 |.cond c a b=>.cond c a.er b.er
 |.block i a=>.block i a.er
 |.scope a=>.scope a.er
 |.loop l _ a=>.loop l a.er
 |.exit i=>.exit i
 |.ret=>.ret
@[reducible] def oa (i d:Nat) (o:AOp):DOper:=⟨i,some d,.a false o none,none,[]⟩
@[reducible] def ob (i d:Nat) (o:AOp):DOper:=⟨i,some d,.a true o none,none,[]⟩
@[reducible] def om (i d t:Nat):DOper:=⟨i,some d,.a false (.mv (.t t)) none,none,[]⟩
@[reducible] def on (i d t:Nat):DOper:=⟨i,some d,.a true (.mv (.t t)) none,none,[]⟩
@[reducible] def oi (i d:Nat) (n:Int):DOper:=⟨i,some d,.a false (.mv (.c (.int .i64 n))) none,none,[]⟩
@[reducible] def os (i:Nat) (o:AOp):DOper:=⟨i,none,.a false o none,none,[]⟩
@[reducible] def og (i d:Nat) (o:AOp) (g:Nat) (b:Bool):DOper:=⟨i,some d,.a false o none,some (g,b),[]⟩
@[reducible] def xA (i d:Nat) (o:AOp) (a:List Nat):DOper:=⟨i,some d,.a false o none,none,a⟩
@[reducible] def xB (i d:Nat) (o:AOp) (a:List Nat):DOper:=⟨i,some d,.a true o none,none,a⟩
@[reducible] def xS (i:Nat) (o:AOp) (a:List Nat):DOper:=⟨i,none,.a false o none,none,a⟩
@[reducible] def op (i d:Nat) (f:A7) (p:C3) (D:Ia) (args:List Opnd):DOper:=⟨i,some d,.callp false f p D args,none,[]⟩
def gW:Nat->Nat->List Nat
 |_,0=>[]
 |k,n+1=>k::gW (k+1) n
def rg(n:Nat):List Nat:=gW 0 n
def Ef:List Opnd->DS->DS
 |[],st=>st
 |x::r,st=>Ef r (EA x st).2
def EJ(s:List DC):List Opnd->List DV
 |[]=>[]
 |x::r=>x.dev s::EJ s r
def Mz(D:Lj)(args:List Opnd)(st:DS):DB:=
 let as:=EJ st.sl args
 if Hm as&&!(DV.hasPtrL as) then (match D (DV.nrmV (DV.fzL as)) with
  |some (g,v)=>if v.ok&&!v.hasPtr&&(v.deep||!(DV.holdL as)) then some (g,v,st) else none
  |none=>none)
 else none
def Ql.isH':Ql->Bool
 |.bor (.h _) _ _=>true
 |.pre (.h _) _=>true
 |_=>false
mutual
def DV.isH:DV->Bool
 |.nil q=>q.isH'
 |.sl q _ _=>q.isH'
 |.ep q _ _ _ _=>q.isH'
 |.agg cs=>DV.isHL cs
 |.tup vs=>DV.isHL vs
 |_=>false
def DV.isHL:List DV->Bool
 |[]=>false
 |v::r=>v.isH||DV.isHL r
end
def QJ:List DC->List DC
 |[]=>[]
 |c::r=>(if c.v.isH then ⟨true,.any⟩ else c)::QJ r
def GF:List (List DC)->List (List DV)
 |[]=>[]
 |b::r=>BV b::GF r
def newsB:List (List DV)->List (List DC)
 |[]=>[]
 |b::r=>news b::newsB r
def MI:List DC->List DV->List DC
 |[],vs=>news vs
 |c::r,[]=>c::r
 |c::r,v::vs=>(if v.isAny then c else ⟨true,v⟩)::MI r vs
def MM:List (List DC)->List (List DV)->List (List DC)
 |[],vs=>newsB vs
 |c::r,[]=>c::r
 |c::r,v::vs=>MI c v::MM r vs
def OH:List DV->List DV->List DV
 |[],vs=>vs
 |c::r,[]=>c::r
 |c::r,v::vs=>(if v.isAny then c else v)::OH r vs
def J2:List (List DV)->List (List DV)->List (List DV)
 |[],vs=>vs
 |c::r,[]=>c::r
 |c::r,v::vs=>OH c v::J2 r vs
def U7:List (List DV)->Bool
 |[]=>true
 |b::r=>Nat.blt 0 b.length&&DV.okL b&&U7 r
def GK:List (List DV)->List (List PV)
 |[]=>[]
 |b::r=>DV.encL b::GK r
def DV.isP0:DV->Bool
 |.ptr 0 0=>true
 |_=>false
def JN(D:Ia)(args:List Opnd)(st:DS):DB:=
 let as:=EJ st.sl args
 if Hm as&&!(DV.holdL as)&&U7 (GF st.hp) then
  (if DV.hasPtrL as then (match D (DV.nrmV (DV.fzL as)) (GF st.hp) with
   |some (g,v,H)=>if v.ok&&!v.hasPtr then some (g,v,{ st with sl:=QJ st.sl,hp:=MM st.hp H }) else none
   |none=>none)
  else if st.hp.length == 0 then (match D (DV.nrmV (DV.fzL as)) [] with
   |some (g,v,H)=>if v.isP0 then some (g,v,{ st with hp:=newsB H }) else none
   |none=>none)
  else none)
 else none
def DV.ownS:DV->Bool
 |.sl .own _ _|.nil .own=>true
 |_=>false
def Qp(i c:Nat)(D:Ia)(args:List Opnd)(st:DS):DB:=
 if DV.hasPtrL (EJ st.sl args)&&(BN st (.b i) [c]).ownS then JN D args st else none
def DV.isAgg:DV->Bool
 |.agg _=>true
 |_=>false
def DV.flatc:DV->Bool
 |.bool _|.int _ _|.str _|.ifc _=>true
 |_=>false
def UP:Nat->List DV->Option (Hd×Nat)
 |_,[]=>none
 |c,.sl (.bor hd [p] true) _ _::_=>if Nat.ble c p&&hd.sb then some (hd,p-c) else none
 |c,.nil (.bor hd [p] true)::_=>if Nat.ble c p&&hd.sb then some (hd,p-c) else none
 |c,_::r=>UP (c+1) r
def D9(st:DS)(hd:Hd):Nat->List DV->Option (PX×List DV)
 |_,[]=>some (.tt,[])
 |c,.sl q _ l::vs=>if Dw q (.bor hd [c] true) then (match BN st hd [c],D9 st hd (c+1) vs with
  |.sl .own r' l',some (g,os)=>some (PX.land (.p (l.length=l'.length)) g,.sl .own r' l'::os)
  |.nil .own,some (g,os)=>some (PX.land (.p (l.length=0)) g,.nil .own::os)
  |_,_=>none) else if Dw q (.pre hd [c]) then (match BN st hd [c],D9 st hd (c+1) vs with
  |.sl (.ownw _) r' l',some (g,os)=>some (PX.land (.p (l.length=l'.length)) g,.sl .own r' l'::os)
  |_,_=>none) else none
 |c,.nil q::vs=>if Dw q (.bor hd [c] true) then (match BN st hd [c],D9 st hd (c+1) vs with
  |.sl .own r' l',some (g,os)=>some (PX.land (.p (l'.length=0)) g,.sl .own r' l'::os)
  |.nil .own,some (g,os)=>some (g,.nil .own::os)
  |_,_=>none) else none
 |c,v::vs=>if v.flatc then (match D9 st hd (c+1) vs with
  |some (g,os)=>some (g,v::os)
  |none=>none) else none
def HA(hd:Hd):Nat->List DV->DS->Option DS
 |_,[],st=>some st
 | c,.sl q r l::vs,st=>(match BN st hd [c] with
   |.sl .own _ _=>HA hd (c+1) vs (GL st (.sl q r l) hd [c])
   |.nil .own=>HA hd (c+1) vs (GL st (.sl q r l) hd [c])
   |.sl (.ownw w) _ _=>HA hd (c+1) vs (GL st (.sl (.ownw w) r l) hd [c])
   |_=>none)
 |_,.nil _::_,_=>none
 |c,_::vs,st=>HA hd (c+1) vs st
def My (M:DMk)(x k:Opnd)(st:DS):DB:=
 match k.dev st.sl with
 | .int .i64 m=>if (x.dev st.sl).isAgg == M.agg&&(x.dev st.sl).argok&&M.r.pl then (match UP 0 (x.dev st.sl).cells with
   | some (hd,b)=>(match D9 st hd b (x.dev st.sl).cells with
     | some (g,os)=>(match M.r.of os with
       | some y=>(match HA hd b (M.r.dv .own (M.g y m).1) st with
         |some st'=>some (g.land (.p (M.ok y)),(match M.vd with|true=>.undef|false=>.int .i64 (M.g y m).2),st')
         |none=>none)
       |none=>none)
     |none=>none)
   |none=>none) else none
 |_=>none
def MW (M:DTk)(x y:Opnd)(st:DS):DB:=
 match y,x.dev st.sl with
 | .t t,.agg cs=>(match CT.of (.sl M.row) (Bf st.sl t),M.ra.ofA cs with
   |some l,some a=>if DV.argok (.agg cs)&&!(DV.hasPtrL cs)&&Nat.blt 0 M.row.w then
    some (.p (M.ok a l),.sl .own M.row (M.val a l),{ st with sl:=C7 (.s t) (C6 st.sl t .any) }) else none
   |_,_=>none)
 |_,_=>none
def Ms(a:DV)(n:Nat)(st:DS):DB:=
 match a with
 |.box i o=>KY true i (some n) (.box i o) st
 |.ptr i o=>JT true (some n) (.ptr i o) st
 |_=>none
def DV.hld:DV->Option (Hd×Nat)
 |.box i o=>some (.b i,o)
 |.ptr i o=>some (.h i,o)
 |_=>none
def Q4(_:DV)(_:DS):Option DS:=none
def Hd.isB:Hd->Bool
 |.b _=>true
 |_=>false
def J1(st:DS)(hd:Hd):Nat->List DV->Option (List DV)
 |_,[]=>some []
 | c,.sl q r l::vs=>(match BN st hd [c],J1 st hd (c+1) vs with
   |.sl .own _ _,some os=>some (.sl q r l::os)
   |.nil .own,some os=>some (.sl q r l::os)
   |.sl (.ownw _) r' l',some os=>if hd.isB&&Dw q .own then some (.sl (.ownw 0) r' l'::os) else none
   |_,_=>none)
 | c,.nil q::vs=>(match BN st hd [c],J1 st hd (c+1) vs with
   |.sl .own _ _,some os=>some (.nil q::os)
   |.nil .own,some os=>some (.nil q::os)
   |_,_=>none)
 | c,v::vs=>if v.flatc then (match J1 st hd (c+1) vs with
   |some os=>some (v::os)
   |none=>none) else none
def MR(a:Opnd)(t:Nat)(st:DS):Option (PX×DS):=
 match (a.dev st.sl).hld,Bf st.sl t with
 | some (hd,b),.agg cs=>(match D9 st hd b cs with
   | some (g,os)=>(match Ms (a.dev st.sl) os.length st with
     | some (g2,_,st1)=>(match J1 st hd b os with
       |some ns=>some (g.land g2,st1.put (some t) (.agg ns))
       |none=>none)
     |none=>none)
   |none=>none)
 |_,_=>none
def BT(o:DOp)(d:Option Nat)(k:DS->DT)(st:DS):DT:=
 match o with
 | .call m _ _ D args=>(match Mz D args (if m then Ef args st else st) with
   |some (g,v,st)=>DT.chk' g (k (st.put d v))
   |none=>.bad)
 | .callp m _ _ D args=>(match JN D args (if m then Ef args st else st) with
   |some (g,v,st)=>DT.chk' g (k (st.put d v))
   |none=>.bad)
 |.fz x=>if (EA x st).1.ok then k ((EA x st).2.put d (EA x st).1.nrm) else .bad
 | .fzb a o=>(match Q4 (a.dev st.sl) st with
   | some st=>(match Bm false o none st with
     |some (g,v,st)=>DT.chk' g (k (st.put d v))
     |none=>.bad)
   |none=>.bad)
 | .clm a t o=>(match MR a t st with
   | some (g0,st)=>(match Bm false o none st with
     |some (g,v,st)=>DT.chk' (g0.land g) (k (st.put d v))
     |none=>.bad)
   |none=>.bad)
 | .callv m _ _ D args i c=>(match Qp i c D args (if m then Ef args st else st) with
   |some (g,v,st)=>DT.chk' g (k (st.put d v))
   |none=>.bad)
 | .aw ws m o ty=>(match Ma ws m o ty st with
   |some (g,v,st)=>DT.chk' g (k (st.put d v))
   |none=>.bad)
 | .tk _ M x y=>(match MW M x y st with
   |some (g,v,st)=>DT.chk' g (k (st.put d v))
   |none=>.bad)
 | .mark _ M x y=>(match My M x y st with
   |some (g,v,st)=>DT.chk' g (k (st.put d v))
   |none=>.bad)
 | .a m o ty=>(match o with
   | .pick c a b=>(match c.dev st.sl with
     | .bool (.lit t)=>(match if t then Bl a st else Bl b st with
       |(v,st)=>if v.ok then k (st.put d v) else .bad)
     | .bool (.dyn t)=>
       if (a.dev st.sl).own||(b.dev st.sl).own||!(C5 t (a.dev st.sl) (b.dev st.sl)).ok then .node t (match Bl a st with|(v,st)=>if v.ok then k (st.put d v) else .bad) (match Bl b st with|(v,st)=>if v.ok then k (st.put d v) else .bad)
       else k (st.put d (C5 t (a.dev st.sl) (b.dev st.sl)))
     |_=>.bad)
   | o=>(match Bm m o ty st with
     |some (g,v,st)=>DT.chk' g (k (st.put d v))
     |none=>.bad))
def MN(st:DS)(g:Nat)(b:Bool):DS:={ st with sl:=C6 st.sl g (.bool (.lit b)) }
def OD(o:DOper)(k:DS->DT)(st:DS):DT:=
 match o.guard with
 |none=>BT o.op o.dst k st
 | some (g,want)=>(match Bf st.sl g with
   |.bool (.lit b)=>if b == want then BT o.op o.dst k st else k (st.put o.dst (.tup []))
   |.bool (.dyn b)=>.node b (if want then BT o.op o.dst k (MN st g true) else k ((MN st g true).put o.dst (.tup []))) (if want then k ((MN st g false).put o.dst (.tup [])) else BT o.op o.dst k (MN st g false))
   |.tup []=>k (st.put o.dst (.tup []))
   |_=>.bad)
def Il:List DOper->DS->DT
 |[],st=>.leaf .normal st
 |o::r,st=>OD o (Il r) st
def setc(st:DS)(c:Opnd)(b:Bool):DS:=match c with
 |.t g=>MN st g b
 |.c _=>st
mutual
def DV.pge(n:Nat):DV->Bool
 |.ptr i _=>Nat.ble n i
 |.agg cs=>DV.pgeL n cs
 |.tup vs=>DV.pgeL n vs
 |_=>false
def DV.pgeL(n:Nat):List DV->Bool
 |[]=>false
 |v::r=>v.pge n||DV.pgeL n r
end
def UM(n:Nat):List DC->List DC
 |[]=>[]
 |c::r=>(if c.v.isH||c.v.pge n then ⟨true,.any⟩ else c)::UM n r
def DS.trunc(n:Nat)(st:DS):DS:={ st with sl:=UM n st.sl,hp:=st.hp.take n }
def dev:DCode->DS->DT
 |.skip,st=>.leaf .normal st
 |.region ops,st=>Il ops st
 |.regionU ops,st=>if QQ (ops.map DOper.er) then Il ops st else .bad
 |.seq l a b,st=>(dev a st.clean).then (λ st'=>dev b (Lg st (UO l st'))) (Lg st)
 | .cond c a b,st=>(match c.dev st.sl with
   |.bool (.lit t)=>if t then dev a st else dev b st
   |.bool (.dyn t)=>.node t (dev a (setc st c true)) (dev b (setc st c false))
   |_=>.bad)
 |.block i a,st=>(dev a st).unexit i
 |.scope a,st=>(dev a st).map (DS.trunc st.hp.length)
 |.loop live n a,st=>Ov live n (λ st=>dev a st.clean) st
 |.exit i,st=>.leaf (.exit i) st
 |.ret,st=>.leaf .ret st
structure DFun where
 nparams:Nat
 nslots:Nat
 nbox:Nat
 pure:Bool
 res:List ARes
 body:DCode
def DFun.er(f:DFun):PFun:=⟨f.nparams,f.nslots,f.nbox,f.pure,f.res,f.body.er⟩
def Qo(st:DS):ARes->Option (DV×DS)
 |.tmp t=>if (Bf st.sl t).retok&&(Bf st.sl t).ok then some (Q6 (Bf st.sl t) t st) else none
 | .cell t n=>(match Bf st.sl t with
   |.box i o=>if Nat.ble (o+n.getD 1) (BG st.bx i).length&&Ib (BQ (BV (BG st.bx i)) o (n.getD 1)) then (KY true i n (.box i o) st).map (·.2) else none
   |.ptr i o=>if Nat.ble (o+n.getD 1) (BG st.hp i).length&&Ib (BQ (BV (BG st.hp i)) o (n.getD 1)) then (JT true n (.ptr i o) st).map (·.2) else none
   |_=>none)
def Oa(st:DS):List ARes->Option (List DV×DS)
 |[]=>some ([],st)
 | r :: rs=>(match Qo st r with
   | some (v,st)=>(match Oa st rs with
     |some (vs,st)=>some (v::vs,st)
     |none=>none)
   |none=>none)
def F5(st:DS):List ARes->Option DV
 |[r]=>(Qo st r).map (·.1)
 |rs=>(Oa st rs).map λ x=>.tup x.1
def DT.val(res:List ARes):DT->PX×Option DV
 |.leaf (.exit _) _=>(.ff,none)
 | .leaf _ st=>(match F5 st res with
   |some v=>if v.ok&&!v.hasPtr then (.tt,some v) else (.ff,none)
   |none=>(.ff,none))
 | .node c a b=>(match a.val res,b.val res with
   |(g,none),(g',y)=>(PX.if' c g g',y)
   |(g,x),(g',none)=>(PX.if' c g g',x)
   |(g,some x),(g',some y)=>(PX.if' c g g',some (C5 c x y)))
 | .chk g t=>(match t.val res with
   |(g',v)=>(g.land g',v))
 |.bad=>(.ff,none)
def Me(n:Nat):List DC:=match n with
 |0=>[]
 |n+1=>⟨true,.any⟩::Me n
def Mu:Nat->List (List DC)
 |0=>[]
 |n+1=>[]::Mu n
def Q7(f:DFun)(args:List DV):PX×Option DV:=
 (dev f.body ⟨news args++Me (f.nslots-f.nparams),Mu f.nbox,[]⟩).val f.res
end
def EC(c:DC)(p:PV):Prop:=c.v= .any\/p=c.v.enc
def EL:List DC->List PV->Prop
 |[],[]=>True
 |c::a,p::b=>EC c p/\EL a b
 |_,_=>False
def EBx(b:List DC)(p:List PV):Prop:=b=[]\/EL b p
def EB:List (List DC)->List (List PV)->Prop
 |[],[]=>True
 |c::a,p::b=>EBx c p/\EB a b
 |_,_=>False
structure ES (d:DS) (s:PS):Prop where
 sl:EL d.sl s.sl
 bx:EB d.bx s.bx
 hp:EB d.hp s.hp
theorem EL.len:∀ {a:List DC} {b:List PV},EL a b->a.length=b.length
 |[],[],_=>rfl
 |_::_,_::_,h=>by simp only[Bi,EL.len h.2]
theorem EB.len:∀ {a:List (List DC)} {b:List (List PV)},EB a b->a.length=b.length
 |[],[],_=>rfl
 |_::_,_::_,h=>by simp only[Bi,EB.len h.2]
def EV(v:DV)(p:PV):Prop:=v= .any\/p=v.enc
theorem EL.get:∀ {a:List DC} {b:List PV} (n:Nat),EL a b->EV (Bf a n) (Aa b n)
 |[],[],_,_=>.inl rfl
 |_::_,_::_,0,h=>h.1
 |_::_,_::_,n+1,h=>EL.get n h.2
theorem EL.put:∀ {a:List DC} {b:List PV} {v:DV} {p:PV} (n:Nat),EL a b->EV v p->EL (C6 a n v) (BA b n p)
 |[],[],_,_,_,_,_=>trivial
 |_::_,_::_,_,_,0,h,hv=>⟨hv,h.2⟩
 |_::_,_::_,_,_,n+1,h,hv=>⟨h.1,EL.put n h.2 hv⟩
theorem EB.get:∀ {a:List (List DC)} {b:List (List PV)} (n:Nat),EB a b->EBx (BG a n) (Ak b n)
 |[],[],_,_=>.inl rfl
 |_::_,_::_,0,h=>h.1
 |_::_,_::_,n+1,h=>EB.get n h.2
theorem EB.put:∀ {a:List (List DC)} {b:List (List PV)} {v:List DC} {p:List PV} (n:Nat),EB a b->EBx v p->EB (E5 a n v) (BR b n p)
 |[],[],_,_,_,_,_=>trivial
 |_::_,_::_,_,_,0,h,hv=>⟨hv,h.2⟩
 |_::_,_::_,_,_,n+1,h,hv=>⟨h.1,EB.put n h.2 hv⟩
theorem Fg:∀ (l:List DV),(DV.encL l).length=l.length
 |[]=>rfl
 |_::r=>by simp only[DV.encL,Bi,Fg r]
theorem EL.splice:∀ {a:List DC} {b:List PV} (n:Nat) (vs:List DV),EL a b->EL (HY a n vs) (AS b n (DV.encL vs))
 |[],[],_,[],_=>trivial
 |[],[],_,_::_,_=>trivial
 |_::_,_::_,0,[],h=>h
 |_::_,_::_,_+1,[],h=>h
 |_::_,_::_,0,v::vs,h=>⟨.inr rfl,EL.splice 0 vs h.2⟩
 |_::_,_::_,n+1,v::vs,h=>⟨h.1,EL.splice n (v::vs) h.2⟩
theorem SY:∀ (cs:List DV) (n:Nat) (vs:List DV),DV.encL (KO cs n vs)=AS (DV.encL cs) n (DV.encL vs)
 |[],_,[]=>rfl
 |_::_,0,[]=>rfl
 |_::_,_+1,[]=>rfl
 |[],0,_::_=>rfl
 |[],_+1,_::_=>rfl
 |_::r,0,v::vs=>by simp only[KO,DV.encL,AS,SY r 0 vs]
 |c::r,n+1,v::vs=>by simp only[KO,DV.encL,AS,SY r n (v::vs)]
theorem Tu:∀ (cs:List DV) (o n:Nat),DV.encL (BQ cs o n)=segm (DV.encL cs) o n
 |[],0,0=>rfl
 |[],0,_+1=>rfl
 |[],_+1,_=>rfl
 |_::_,0,0=>rfl
 |c::r,0,n+1=>by simp only[BQ,DV.encL,segm,Tu r 0 n]
 | _::r,o+1,n=>by
   simp only[BQ,DV.encL,segm];exact Tu r o n
theorem NM:∀ (cs:List DV) (n:Nat),(Gb cs n).enc=Aa (DV.encL cs) n
 |[],_=>rfl
 |_::_,0=>rfl
 |_::r,n+1=>NM r n
theorem TI:∀ (cs:List DV) (n:Nat) (v:DV),DV.encL (OE cs n v)=BA (DV.encL cs) n v.enc
 |[],_,_=>rfl
 |_::_,0,_=>rfl
 |_::r,n+1,v=>by simp only[OE,DV.encL,BA,TI r n v]
theorem EL.segm:∀ {a:List DC} {b:List PV} (o n:Nat),EL a b->DV.okL (BQ (BV a) o n)=true->Go.Ag.segm b o n=DV.encL (BQ (BV a) o n)
 |[],[],0,0,_,_=>rfl
 |[],[],0,_+1,_,_=>rfl
 |[],[],_+1,_,_,_=>rfl
 |_::_,_::_,0,0,_,_=>rfl
 | c::r,p::s,0,n+1,h,hk=>by
   simp only[BV,BQ,DV.okL,Ai] at hk
   simp only[BV,BQ,Go.Ag.segm,DV.encL]
   rw[EL.segm 0 n h.2 hk.2]
   rcases h.1 with h1|h1
   . rw[h1] at hk;cases hk.1
   . rw[h1]
 | _::r,_::s,o+1,n,h,hk=>by
   simp only[BV,BQ,Go.Ag.segm] at hk ⊢
   exact EL.segm o n h.2 hk
theorem TA:∀ (a:List DC),(BV a).length=a.length
 |[]=>rfl
 |_::r=>by simp only[BV,Bi,TA r]
theorem EL.news:∀ (vs:List DV),EL (Go.Ag.news vs) (DV.encL vs)
 |[]=>trivial
 |_::r=>⟨.inr rfl,EL.news r⟩
theorem fA(q:Ql)(es:List (List PV)):(PV.sl q es).own=q.own':=by cases q<;>rfl
theorem fa(q:Ql)(hd:Hd)(es:List (List PV)):(PV.sl q es).bor hd=q.bor' hd:=by cases q<;>rfl
theorem zP(q:Ql)(hd:Hd)(es:List (List PV))(j o:Nat):(PV.ep q es j o).bor hd=q.bor' hd:=by cases q<;>rfl
mutual
theorem HV:∀ (v:DV),v.enc.own=v.own
 |.any|.undef|.bool _|.int _ _|.str _|.ifc _|.box _ _|.ptr _ _=>rfl
 |.nil q=>fA q []
 |.sl q _ _=>fA q _
 |.ep q _ _ _ _=>by cases q<;>rfl
 |.agg cs=>NW cs
 |.tup vs=>NW vs
theorem NW:∀ (l:List DV),PV.ownL (DV.encL l)=DV.ownL l
 |[]=>rfl
 |v::r=>by simp only[DV.encL,PV.ownL,DV.ownL,HV v,NW r]
end
mutual
theorem T4(hd:Hd):∀ (v:DV),v.enc.bor hd=v.bor hd
 |.any|.undef|.bool _|.int _ _|.str _|.ifc _|.box _ _|.ptr _ _=>rfl
 |.nil q=>fa q hd []
 |.sl q _ _=>fa q hd _
 |.ep q _ _ _ _=>zP q hd _ _ _
 |.agg cs=>Xg hd cs
 |.tup vs=>Xg hd vs
theorem Xg(hd:Hd):∀ (l:List DV),PV.borL hd (DV.encL l)=DV.borL hd l
 |[]=>rfl
 |v::r=>by simp only[DV.encL,PV.borL,DV.borL,T4 hd v,Xg hd r]
end
mutual
theorem zJ:∀ (v:DV),v.enc.hold=v.hold
 |.any|.undef|.bool _|.int _ _|.str _|.ifc _|.box _ _|.ptr _ _=>rfl
 |.nil q=>by cases q<;>rfl
 |.sl q _ _=>by cases q<;>rfl
 |.ep q _ _ _ _=>by cases q<;>rfl
 |.agg cs=>PF cs
 |.tup vs=>PF vs
theorem PF:∀ (l:List DV),PV.holdL (DV.encL l)=DV.holdL l
 |[]=>rfl
 |v::r=>by simp only[DV.encL,PV.holdL,DV.holdL,zJ v,PF r]
end
mutual
theorem XV:∀ (v:DV),v.fz.enc=v.enc.fz
 |.any|.undef|.bool _|.int _ _|.str _|.ifc _|.box _ _|.ptr _ _|.nil _|.sl _ _ _|.ep _ _ _ _ _=>rfl
 |.agg cs=>by simp only[DV.fz,DV.enc,PV.fz,N9 cs]
 |.tup cs=>by simp only[DV.fz,DV.enc,PV.fz,N9 cs]
theorem N9:∀ (l:List DV),DV.encL (DV.fzL l)=PV.fzL (DV.encL l)
 |[]=>rfl
 |v::r=>by simp only[DV.encL,PV.fzL,DV.fzL,XV v,N9 r]
end
mutual
theorem WG:∀ (v:DV),v.detop.enc=v.enc.detop
 |.any|.undef|.bool _|.int _ _|.str _|.ifc _|.box _ _|.ptr _ _=>rfl
 |.nil q=>by cases q<;>rfl
 |.sl q _ _=>by cases q<;>rfl
 |.ep q _ _ _ _=>by cases q<;>rfl
 |.agg cs=>by simp only[DV.detop,DV.enc,PV.detop,Wi cs]
 |.tup cs=>by simp only[DV.detop,DV.enc,PV.detop,Wi cs]
theorem Wi:∀ (l:List DV),DV.encL (DV.detopL l)=PV.detopL (DV.encL l)
 |[]=>rfl
 |v::r=>by simp only[DV.encL,PV.detopL,DV.detopL,WG v,Wi r]
end
mutual
theorem PC:∀ (v:DV),v.enc.hasPtr=v.hasPtr
 |.any|.undef|.bool _|.int _ _|.str _|.ifc _|.box _ _|.ptr _ _|.nil _|.sl _ _ _|.ep _ _ _ _ _=>rfl
 |.agg cs=>Kq cs
 |.tup vs=>Kq vs
theorem Kq:∀ (l:List DV),PV.hasPtrL (DV.encL l)=DV.hasPtrL l
 |[]=>rfl
 |v::r=>by simp only[DV.encL,PV.hasPtrL,DV.hasPtrL,PC v,Kq r]
end
mutual
theorem fF:∀ (t:CT) (x:t.D),t.pl=true->(CT.enc t x).deep=true
 |.int _,_,_|.bool,_,_|.str,_,_|.ifc,_,_=>rfl
 | .sl r,l,h=>by
   simp only[CT.enc,PV.deep]
   exact WX r l h
 |.slf _,_,h=>by cases h
theorem fg:∀ (r:RT) (x:r.D),r.pl=true->PV.deepL (RT.enc r x)=true
 |.one t,x,h=>by simp only[RT.enc,PV.deepL,fF t x h,CZ]
 | .cons t r,x,h=>by
   rw[RT.pl,Ai] at h
   simp only[RT.enc,PV.deepL,fF t x.1 h.1,fg r x.2 h.2,CZ]
theorem WX:∀ (r:RT) (l:List r.D),r.pl=true->PV.deepE (l.map (RT.enc r))=true
 |_,[],_=>rfl
 |r,x::l,h=>by simp only[B0,PV.deepE,fg r x h,WX r l h,CZ]
end
theorem EL.clr(hd:Hd):∀ {a:List DC} {b:List PV},EL a b->EL (C7 hd a) (Go.Ag.clr hd b)
 |[],[],_=>trivial
 | c :: _,p::_,h=>by
   refine⟨?_,EL.clr hd h.2⟩
   by_cases hb:c.v.bor hd=true
   . rw[Ac hb];exact .inl rfl
   . rw[Af hb]
     rcases h.1 with h1|h1
     . exact .inl h1
     . rw[h1,T4,Af hb];exact .inr rfl
theorem xI(i:Nat)(v:DV):v.enc.isBox i=v.isBox i:=by cases v<;>rfl
theorem EL.clearBox(i:Nat):∀ {a:List DC} {b:List PV},EL a b->EL (PI i a) (FP i b)
 |[],[],_=>trivial
 | c :: _,p::_,h=>by
   refine⟨?_,EL.clearBox i h.2⟩
   by_cases hb:c.v.isBox i=true
   . rw[Ac hb];exact .inl rfl
   . rw[Af hb]
     rcases h.1 with h1|h1
     . exact .inl h1
     . rw[h1,xI,Af hb];exact .inr rfl
theorem EL.trim(live:List Nat):∀ {a:List DC} {b:List PV} (n:Nat),EL a b->EL (UJ live n a) (Fp live n b)
 |[],[],_,_=>trivial
 | c::_,p::_,n,h=>by
   refine⟨?_,EL.trim live (n+1) h.2⟩
   by_cases hb:live.contains n=true
   . rw[Ac hb,Ac hb];exact h.1
   . rw[Af hb];exact .inl rfl
mutual
theorem dy:∀ (v:DV),v.hasTop=false->v.detop=v
 |.any,_|.undef,_|.bool _,_|.int _ _,_|.str _,_|.ifc _,_|.box _ _,_|.ptr _ _,_=>rfl
 |.nil q,h=>by cases q<;>first|rfl|(simp only[DV.hasTop,DV.top] at h;first|(subst h;rfl)|cases h)
 |.sl q _ _,h=>by cases q<;>first|rfl|(simp only[DV.hasTop,DV.top] at h;first|(subst h;rfl)|cases h)
 |.ep q _ _ _ _,h=>by cases q<;>first|rfl|(simp only[DV.hasTop,DV.top] at h;first|(subst h;rfl)|cases h)
 |.agg cs,h=>by simp only[DV.hasTop] at h;simp only[DV.detop,Ws cs h]
 |.tup cs,h=>by simp only[DV.hasTop] at h;simp only[DV.detop,Ws cs h]
theorem Ws:∀ (l:List DV),DV.hasTopL l=false->DV.detopL l=l
 |[],_=>rfl
 | v::r,h=>by
   simp only[DV.hasTopL,Cy] at h
   simp only[DV.detopL,dy v h.1,Ws r h.2]
end
theorem EL.keep(live:List Nat):∀ {a:List DC} {b:List PV} (n:Nat),EL a b->EL (Un live n a) (El live n b)
 |[],[],_,_=>trivial
 | c :: _,p::_,n,h=>by
   refine⟨?_,EL.keep live (n+1) h.2⟩
   by_cases hb:live.contains n=true
   . rw[Ac hb,Ac hb]
     rcases h.1 with h1|h1
     . rw[h1];exact .inl h1
     . by_cases ht:c.v.hasTop=true
       . rw[Ac ht,h1];exact .inr (WG c.v).symm
       . rw[Af ht,h1,<- WG,dy c.v (by simpa using ht)];exact .inr rfl
   . rw[Af hb];exact .inl rfl
theorem EL.clean:∀ {a:List DC} {b:List PV},EL a b->EL (Go.Ag.clean a) b
 |[],[],_=>trivial
 |_::_,_::_,h=>⟨h.1,EL.clean h.2⟩
theorem EBx.clean{a:List DC}{b:List PV}(h:EBx a b):EBx (Go.Ag.clean a) b:=by
 rcases h with rfl|h
 . exact .inl rfl
 . exact .inr h.clean
theorem EB.clean:∀ {a:List (List DC)} {b:List (List PV)},EB a b->EB (Ol a) b
 |[],[],_=>trivial
 |_::_,_::_,h=>⟨h.1.clean,EB.clean h.2⟩
theorem ES.clean{d:DS}{s:PS}(h:ES d s):ES d.clean s:=⟨h.sl.clean,h.bx.clean,h.hp.clean⟩
theorem ES.trim{d:DS}{s:PS}(l:List Nat)(h:ES d s):ES (UO l d) { s with sl:=Fp l 0 s.sl }:=⟨h.sl.trim l 0,h.bx,h.hp⟩
theorem ES.keep{d:DS}{s:PS}(l:List Nat)(h:ES d s):ES (DW l d) { s with sl:=El l 0 s.sl }:=⟨h.sl.keep l 0,h.bx,h.hp⟩
theorem EL.rem:∀ {x a:List DC} {b:List PV},EL a b->EL (OI x a) b
 |[],[],[],_=>trivial
 |[],_::_,_::_,h=>h
 |_::_,[],[],_=>trivial
 |_::_,_::_,_::_,h=>⟨h.1,EL.rem h.2⟩
theorem EBx.rem{x a:List DC}{b:List PV}(h:EBx a b):EBx (OI x a) b:=by
 rcases h with rfl|h
 . cases x<;>exact .inl rfl
 . exact .inr h.rem
theorem EB.rem:∀ {x a:List (List DC)} {b:List (List PV)},EB a b->EB (QX x a) b
 |[],[],[],_=>trivial
 |[],_::_,_::_,h=>h
 |_::_,[],[],_=>trivial
 |_::_,_::_,_::_,h=>⟨h.1.rem,EB.rem h.2⟩
theorem ES.rem{x d:DS}{s:PS}(h:ES d s):ES (Lg x d) s:=⟨h.sl.rem,h.bx.rem,h.hp.rem⟩
theorem ES.put{d:DS}{s:PS}(x:Option Nat)(v:DV)(h:ES d s):ES (d.put x v) (s.put x v.enc):=by
 cases x with
 |none=>exact h
 | some n=>
   simp only[DS.put,PS.put,HV];by_cases ho:v.own=true
   . rw[Ac ho,Ac ho];exact⟨(h.sl.put n (.inr rfl)).clr _,h.bx,h.hp⟩
   . rw[Af ho,Af ho];exact⟨h.sl.put n (.inr rfl),h.bx,h.hp⟩
theorem PU(v:V)(h:Ir v≠.any):(Ir v).enc=BO v:=by
 cases v<;>first|rfl|skip
 case tup vs=>cases vs<;>rfl
theorem Ex{d:DS}{s:PS}(x:Opnd)(h:ES d s)(hk:(Bl x d).1.ok=true):(mvOut x s).1=(Bl x d).1.enc/\ES (Bl x d).2 (mvOut x s).2:=by
 cases x with
 | c v=>
   refine⟨?_,h⟩;refine(PU v λ he=>?_).symm;simp only[Bl,he,DV.ok,Bd] at hk
 | t n =>
   simp only[Bl,Q6,mvOut,Gd] at hk ⊢;rcases h.sl.get n with hg|hg
   . rw[hg] at hk;simp only[DV.own,Bd,Bs,DV.ok] at hk
   . rw[hg,HV,T4];by_cases ho:(Bf d.sl n).own=true
     . simp only[ho,A9] at hk ⊢;by_cases hb:(Bf d.sl n).bor (.s n)=true
       . simp only[hb,A9,DV.ok,Bd] at hk
       . simp only[hb] at hk ⊢;exact⟨rfl,(h.sl.put n (.inl rfl)).clr _,h.bx,h.hp⟩
     . simp only[ho] at hk ⊢;exact⟨rfl,h⟩
theorem zW(v:DV)(h:v.cell=true):v.enc.cell=true:=by
 cases v<;>first|rfl|cases h|skip
 case nil q=>cases q<;>first|rfl|cases h
 case sl q r l=>cases q<;>first|rfl|cases h
theorem LL:∀ (l:List DV),Dg l=true->B1 (DV.encL l)=true
 |[],_=>rfl
 | v::r,h=>by
   simp only[Dg,Ai] at h
   simp only[DV.encL,B1,zW v h.1,LL r h.2,CZ]
theorem ZaR(v:DV)(h:v.cell=true):v.ok=true:=by cases v<;>first|rfl|cases h
theorem cD:∀ (l:List DV),Dg l=true->DV.okL l=true
 |[],_=>rfl
 | v::r,h=>by
   simp only[Dg,Ai] at h
   simp only[DV.okL,ZaR v h.1,cD r h.2,CZ]
theorem KA(v:DV):v.enc.cells=DV.encL v.cells:=by cases v<;>rfl
theorem P2(v:DV)(h:Dg v.cells=true):v.ok=true:=by
 cases v<;>first|rfl|(simp only[DV.cells,Dg,DV.cell,MD,Bd] at h)|skip
 case agg cs=>exact cD cs h
theorem Xl(v:DV)(h:v.retc=true):v.enc.retc=true:=by
 cases v<;>first|rfl|cases h|skip
 case nil q=>cases q<;>first|rfl|cases h
 case sl q r l=>cases q<;>first|rfl|cases h
theorem TB:∀ (l:List DV),Ib l=true->EK (DV.encL l)=true
 |[],_=>rfl
 | v::r,h=>by
   simp only[Ib,Ai] at h
   simp only[DV.encL,EK,Xl v h.1,TB r h.2,CZ]
theorem cC(v:DV)(h:v.retok=true):v.enc.retok=true:=by
 cases v<;>first|rfl|cases h|skip
 case nil q=>exact Xl (.nil q) h
 case sl q r l=>exact Xl (.sl q r l) h
 case agg cs=>exact TB cs h
theorem eB(v:DV)(h:v.argc=true):v.enc.argc=true:=by cases v<;>first|rfl|cases h
theorem et:∀ (l:List DV),UU l=true->Is (DV.encL l)=true
 |[],_=>rfl
 | v::r,h=>by
   simp only[UU,Ai] at h
   simp only[DV.encL,Is,eB v h.1,et r h.2,CZ]
theorem Wy(v:DV)(h:v.argok=true):v.enc.argok=true:=by
 cases v<;>first|rfl|cases h|exact eB _ h|skip
 case agg cs=>exact et cs h
theorem S7:∀ (l:List DV),Hm l=true->Gx (DV.encL l)=true
 |[],_=>rfl
 | v::r,h=>by
   simp only[Hm,Ai] at h
   simp only[DV.encL,Gx,Wy v h.1,S7 r h.2,CZ]
theorem Opnd.dev_ev{d:DS}{s:PS}(h:ES d s)(x:Opnd):EV (x.dev d.sl) (x.pev s.sl):=by
 cases x with
 |t n=>exact h.sl.get n
 | c v=>
   by_cases hv:Ir v= .any
   . exact .inl hv
   . exact .inr (PU v hv).symm
theorem EV.of{v:DV}{p:PV}(h:EV v p)(hn:v≠.any):p=v.enc:=h.resolve_left hn
theorem sT{op:BinOp}{k:IntKind}{a b:Int}{g:PX}{v:DV}(h:Ud op k a b=some (g,v))(hg:g.den):(DA op k a b).map PV.fl=some v.enc:=by
 cases op<;>simp only[Ud,dI,dB,Am,Ao,reduceCtorEq] at h<;>obtain⟨rfl,rfl⟩:=h<;>simp only[DA,Yj,gx,ZbX,ZbS,gH,ZbC,Zci,ZbV,wy,UR,iJ,im,iw,iR,iU,DV.enc,BX.b,B5]
 . rw[Af (show ¬ b=0 from hg)];rfl
 . rw[Af (show ¬ b=0 from hg)];rfl
theorem aX{op:BinOp}{k:IntKind}{a b:Int}{g:PX}{v:DV}(h:UH op k a b=some (g,v))(hg:g.den):(LU op k a b).map PV.fl=some v.enc:=by
 cases op<;>simp only[UH,Am,Ao,reduceCtorEq] at h<;>obtain⟨rfl,rfl⟩:=h<;>simp only[LU,gv,Zbv,DV.enc]<;>rw[Af (show ¬ b<0 from Int.not_lt.mpr hg)]<;>rfl
theorem T9{k k':IntKind}(h:IntKind.same k k'=true):k=k':=by simpa [IntKind.same] using h
theorem wm{op:BinOp}{a b:DV}{p q:PV}{g:PX}{v:DV}(ha:EV a p)(hb:EV b q)(h:OG op a b=some (g,v))(hg:g.den):Oy op p q=some v.enc:=by
 cases a<;>try (simp only[OG,reduceCtorEq] at h)
 case int k a=>
  cases b<;>try (simp only[OG,reduceCtorEq] at h)
  case int k' b=>
   rw[ha.of (by simp),hb.of (by simp)];simp only[DV.enc,Oy,Ca];by_cases h1:op= .shl
   . subst h1;exact aX h hg
   . by_cases h2:op= .shr
     . subst h2;exact aX h hg
     . have h3:(if IntKind.same k k'=true then Ud op k a b else none)=some (g,v):=by cases op<;>first|exact h|exact absurd rfl h1|exact absurd rfl h2
       by_cases hk:IntKind.same k k'=true
       . rw[Ac hk] at h3;have:=T9 hk;subst this;have h4:=sT h3 hg
         cases op<;>simp only[A9]<;>first|exact h4|exact absurd rfl h1|exact absurd rfl h2
       . rw[Af hk] at h3;cases h3
 case str a=>
  cases b<;>try (simp only[OG,reduceCtorEq] at h)
  case str b=>
   rw[ha.of (by simp),hb.of (by simp)];cases op<;>simp only[OG,dB,Am,Ao,reduceCtorEq] at h<;>obtain⟨rfl,rfl⟩:=h<;>simp only[DV.enc,Oy,Ca,gY,ie,hZ,BX.b,B5];rw[Ac (show a.length+b.length<=9223372036854775807 from hg)];rfl
theorem Yb(x:BX):x.not.b=!x.b:=by cases x<;>simp only[BX.not,BX.b,Og]
theorem Zcq(x y:BX):(x.eq y).b=(x.b == y.b):=by
 cases x with
 | lit a=>cases y with
   |lit b=>rfl
   |dyn b=>cases a<;>cases b<;>simp only[BX.eq,BX.b,Og]<;>rfl
 | dyn a=>cases y with
   |lit b=>cases a<;>cases b<;>simp only[BX.eq,BX.b,Og]<;>rfl
   |dyn b=>simp only[BX.eq,BX.b,gi]
theorem vZ{neg:Bool}{a b:DV}{p q:PV}{g:PX}{v:DV}(ha:EV a p)(hb:EV b q)(h:U2 neg a b=some (g,v)):QE neg p q=some v.enc:=by
 cases a<;>try (simp only[U2,reduceCtorEq] at h)
 case bool a=>
  cases b<;>try (simp only[U2,reduceCtorEq] at h)
  case bool b=>
   rw[ha.of (by simp),hb.of (by simp)];simp only[Fw,Am,Ao] at h;obtain⟨rfl,rfl⟩:=h;cases neg<;>simp only[DV.enc,QE,A9,Bd,Bs,Yb,Zcq]
theorem vQ{neg:Bool}{a:DV}{p:PV}{g:PX}{v:DV}(ha:EV a p)(h:Y3 neg a=some (g,v)):QP neg p=some v.enc:=by
 cases a<;>try (simp only[Y3,reduceCtorEq] at h)
 case ifc a=>
  rw[ha.of (by simp)];simp only[dB,Am,Ao] at h;obtain⟨rfl,rfl⟩:=h;cases neg<;>simp only[DV.enc,QP,A9,Bd,Bs,Og,BX.b]
theorem wx{op:UnOp}{a:DV}{p:PV}{g:PX}{v:DV}(ha:EV a p)(h:Zc op a=some (g,v)):Q5 op p=some v.enc:=by
 cases op<;>cases a<;>simp only[Zc,Fw,dI,Am,Ao,reduceCtorEq] at h<;>obtain⟨rfl,rfl⟩:=h<;>rw[ha.of (by simp)]<;>simp only[DV.enc,Q5,Hy,B5,Yb,ZbT]
theorem tT{k:IntKind}{a:DV}{p:PV}{g:PX}{v:DV}(ha:EV a p)(h:YQ k a=some (g,v)):Qn k p=some v.enc:=by
 cases a<;>simp only[YQ,dI,Am,Ao,reduceCtorEq] at h;obtain⟨rfl,rfl⟩:=h;rw[ha.of (by simp)];simp only[DV.enc,Qn,fR]
theorem tJ{a:DV}{p:PV}{g:PX}{v:DV}(ha:EV a p)(h:Ys a=some (g,v)):Uc p=some v.enc:=by
 cases a<;>simp only[Ys,Fw,Am,Ao,reduceCtorEq] at h<;>obtain⟨rfl,rfl⟩:=h<;>rw[ha.of (by simp)]<;>rfl
theorem sV{off:Nat}{a:DV}{p:PV}{g:PX}{v:DV}(ha:EV a p)(h:Xp off a=some (g,v)):TN off p=some v.enc:=by
 cases a<;>simp only[Xp,Fw,Am,Ao,reduceCtorEq] at h<;>obtain⟨rfl,rfl⟩:=h<;>rw[ha.of (by simp)]<;>rfl
theorem uZ{a:DV}{p:PV}{g:PX}{v:DV}(ha:EV a p)(h:Y5 a=some (g,v)):QK p=some v.enc:=by
 cases a<;>simp only[Y5,dI,Am,Ao,reduceCtorEq] at h<;>obtain⟨rfl,rfl⟩:=h<;>rw[ha.of (by simp)]<;>simp only[DV.enc,QK,Ba,gh,Bp]<;>rfl
theorem uo{a:DV}{p:PV}{g:PX}{v:DV}(ha:EV a p)(h:iV a=some (g,v)):XX p=some v.enc:=by cases h
theorem tC{a b:DV}{p q:PV}{g:PX}{v:DV}(ha:EV a p)(hb:EV b q)(h:gG a b=some (g,v))(hg:g.den):XG p q=some v.enc:=by cases h
theorem JW:∀ (r:RT) (x:r.D),(RT.enc r x).length=r.w
 |.one _,_=>rfl
 |.cons _ r,x=>by simp only[RT.enc,Bi,RT.w,JW r x.2]
theorem EX(r:RT):∀ (l:List r.D),CC r.w (l.map (RT.enc r))=true
 |[]=>rfl
 |x::l=>by simp only[B0,CC,JW,beq_self_eq_true,EX r l,CZ]
theorem sE{w:Nat}{x:Opnd}{a b:DV}{p q:PV}{g:PX}{v:DV}(ha:EV a p)(hb:EV b q)(h:Qe w x a b=some (g,v))(hg:g.den):PN w x p q=some v.enc:=by
 cases a<;>try (simp only[Qe,reduceCtorEq] at h)
 case sl q' r l=>
  cases b<;>try (simp only[Qe,reduceCtorEq] at h)
  case int k j=>
   rw[ha.of (by simp),hb.of (by simp)];by_cases hw:(r.w == w)=true
   . rw[Ac hw] at h
     have hw':r.w=w:=by simpa using hw
     subst hw'
     cases hq:EH x q' with
     |none=>rw[hq] at h;cases h
     | some q2=>
       rw[hq] at h;simp only[Am,Ao] at h;obtain⟨rfl,rfl⟩:=h;simp only[DV.enc,PN,Ba,X7];rw[Ac ⟨hg.1,hg.2,EX r l⟩,hq];rfl
   . rw[Af hw] at h;cases h
 case nil q'=>cases b<;>simp only[Qe,reduceCtorEq] at h
theorem vt{a b:DV}{p q:PV}{g:PX}{v:DV}(ha:EV a p)(hb:EV b q)(h:Y4 a b=some (g,v)):QM p q=some v.enc:=by
 unfold Y4 at h;split at h
 . simp only[dI,Am,Ao] at h;obtain⟨rfl,rfl⟩:=h;rw[ha.of (by simp),hb.of (by simp)];simp only[DV.enc,QM,ZbL]
 . cases h
theorem vp{a b:DV}{p q:PV}{g:PX}{v:DV}(ha:EV a p)(hb:EV b q)(h:YY a b=some (g,v)):QI p q=some v.enc:=by
 unfold YY at h;split at h
 . simp only[dI,Am,Ao] at h;obtain⟨rfl,rfl⟩:=h;rw[ha.of (by simp),hb.of (by simp)];simp only[DV.enc,QI,ZbU]
 . cases h
theorem land_den(a b:PX):(a.land b).den↔a.den/\b.den:=by
 cases a<;>cases b<;>simp[PX.land,PX.den]
theorem aY{d:Nat}{x:Option DV}{y:Option PV}{g:PX}{n:Nat}(hx:match x,y with|none,none=>True|some v,some p=>EV v p|_,_=>False)(h:Mm d x=some (g,n))(hg:g.den):Mq d y=some n:=by
 cases x with
 | none=>
   cases y with
   |none=>simp only[Mm,Am,Ao] at h;rw[<- h.2];rfl
   |some p=>cases hx
 | some v=>
   cases y with
   |none=>cases hx
   | some p=>
     cases v<;>simp only[Mm,Am,Ao,reduceCtorEq] at h;obtain⟨rfl,rfl⟩:=h;rw[EV.of hx (by simp)];simp only[DV.enc,Mq,X7];exact Ac hg
theorem sS{lo hi:Option DV}{lo' hi':Option PV}{a:DV}{p:PV}{g:PX}{v:DV}(hl:match lo,lo' with|none,none=>True|some v,some p=>EV v p|_,_=>False)(hh:match hi,hi' with|none,none=>True|some v,some p=>EV v p|_,_=>False)(ha:EV a p)(h:e7 lo hi a=some (g,v))(hg:g.den):Xd lo' hi' p=some v.enc:=by cases h
theorem tz{w:Nat}{x:Opnd}{lo hi:Option DV}{lo' hi':Option PV}{a:DV}{p:PV}{g:PX}{v:DV}(hl:match lo,lo' with|none,none=>True|some v,some p=>EV v p|_,_=>False)(hh:match hi,hi' with|none,none=>True|some v,some p=>EV v p|_,_=>False)(ha:EV a p)(h:XU w x lo hi a=some (g,v))(hg:g.den):P7 w x lo' hi' p=some v.enc:=by
 cases a<;>try (simp only[XU,reduceCtorEq] at h)
 case sl q r t=>
  rw[ha.of (by simp)]
  cases h1:Mm 0 lo with
  |none=>rw[h1] at h;cases h
  | some x1 =>
    cases h2:Mm (lN t) hi with
    |none=>rw[h1,h2] at h;cases h
    | some y=>
      obtain⟨g1,a⟩:=x1;obtain⟨g2,b⟩:=y;rw[h1,h2] at h;simp only at h;by_cases hw:(r.w == w)=true
      . rw[Ac hw] at h
        have hw':r.w=w:=by simpa using hw
        subst hw'
        cases hq:jg x lo.isNone q with
        |none=>rw[hq] at h;cases h
        | some q'=>
          rw[hq] at h;simp only[Am,Ao] at h;obtain⟨rfl,rfl⟩:=h;rw[land_den,land_den] at hg;have e1:=aY hl h1 hg.1.1;have e2:=aY hh h2 hg.1.2;simp only[UZ] at e2
          have hz:EM x (if lo'.isNone=true then 0 else 1) q=some q':=by
           have:lo'.isNone=lo.isNone:=by cases lo<;>cases lo'<;>first|rfl|exact hl.elim
           rw[this];exact hq
          simp only[DV.enc,P7,Ba,e1,e2,gr,hz];rw[Ac ⟨hg.2.1,hg.2.2.1,hg.2.2.2,EX r t⟩,Uo,List.map_drop];rfl
      . rw[Af hw] at h;cases h
theorem y7(hd:Hd)(p:List Nat)(v:DV):(YJ hd p v).enc=CD hd p v.enc:=by
 cases v<;>first|rfl|skip
 case nil q=>cases q<;>rfl
 case sl q r l=>cases q<;>rfl
theorem P4(hd:Hd):∀ (n:Nat) (l:List DV),DV.encL (Ig hd n l)=F9 hd n (DV.encL l)
 |_,[]=>rfl
 |n,v::r=>by simp only[Ig,DV.encL,F9,y7,P4 hd (n+1) r]
theorem NH{n:Option Nat}{cs:List DV}{v:DV}(h:E2 n cs=some v):Ds n (DV.encL cs)=some v.enc:=by
 cases n with
 |some n=>simp only[E2,Am] at h;subst h;rfl
 | none=>match cs,h with
   |[x],h=>simp only[E2,Am] at h;subst h;rfl
theorem tO{off:Nat}{n:Option Nat}{x:Opnd}{a:DV}{p:PV}{g:PX}{v:DV}(ha:EV a p)(h:X3 off n x a=some (g,v)):P6 off n x p=some v.enc:=by
 cases a<;>try (simp only[X3,reduceCtorEq] at h)
 case agg cs=>
  rw[ha.of (by simp)]
  cases x with
  |c _=>cases h
  | t t =>
    simp only at h;by_cases hc:(Nat.ble (off+n.getD 1) cs.length&&DV.okL (BQ cs off (n.getD 1)))=true
    . rw[Ac hc] at h;rw[Ai] at hc
      cases hv:E2 n (Ig (.s t) off (BQ cs off (n.getD 1))) with
      |none=>rw[hv] at h;cases h
      | some w=>
        rw[hv] at h;simp only[B5,Am,Ao] at h;obtain⟨rfl,rfl⟩:=h;have:=NH hv;rw[P4,Tu] at this;simp only[DV.enc,P6,Fg];rw[Ac (CR hc.1)];exact this
    . rw[Af hc] at h;cases h
theorem uS{a:DV}{p:PV}{g:PX}{v:DV}(ha:EV a p)(h:iA a=some (g,v)):YF p=some v.enc:=by cases h
theorem aq:∀ {a b:List DV} {t:BX},KC a b=some t->∃ x y,DZ (DV.encL a)=some x/\DZ (DV.encL b)=some y/\x.length=a.length/\y.length=b.length/\x.all V.flat=true/\y.all V.flat=true/\DQ x y=some t.b
 | [],[],t,h=>by
   simp only[KC,Am] at h;subst h;exact⟨[],[],rfl,rfl,rfl,rfl,rfl,rfl,rfl⟩
 | .int k a::x,.int k' b::y,t,h=>by
   unfold KC at h;by_cases hk:IntKind.same k k'=true
   . rw[Ac hk] at h;have:=T9 hk;subst this
     have key:∀ t',KC x y=some t'->t.b=((a == b)&&t'.b)->∃ x1 y1,DZ (DV.encL (.int k a::x))=some x1/\DZ (DV.encL (.int k b::y))=some y1/\x1.length=(DV.int k a::x).length/\y1.length=(DV.int k b::y).length/\x1.all V.flat=true/\y1.all V.flat=true/\DQ x1 y1=some t.b:=by
      intro t' ht hb;obtain⟨x1,y1,h1,h2,h3,h4,h5,h6,h7⟩:=aq ht;refine⟨.int k a::x1,.int k b::y1,?_,?_,by simp[h3],by simp[h4],?_,?_,?_⟩
      . simp only[DV.encL,DV.enc,DZ,h1]
      . simp only[DV.encL,DV.enc,DZ,h2]
      . simp only[EY,V.flat,h5,CZ]
      . simp only[EY,V.flat,h6,CZ]
      . simp only[DQ,Oh,A9]
        cases hab:(a == b) with
        |true=>simp only[h7,hb,hab,JO]
        |false=>simp only[hb,hab,J5]
     split at h
     . simp only[Am] at h;subst h;exact key (.lit true) rfl (by simp only[BX.b,UR,MD])
     . cases ht:KC x y with
       |none=>rw[ht] at h;cases h
       | some t'=>
         rw[ht] at h;simp only[B5,Am] at h;subst h;exact key t' ht (by simp only[BX.b,UR,Yq])
   . rw[Af hk] at h;cases h
theorem v8{n:Nat}{neg:Bool}{a b:DV}{p q:PV}{g:PX}{v:DV}(ha:EV a p)(hb:EV b q)(h:U5 n neg a b=some (g,v)):QU n neg p q=some v.enc:=by
 cases a<;>try (simp only[U5,reduceCtorEq] at h)
 case agg a=>
  cases b<;>try (simp only[U5,reduceCtorEq] at h)
  case agg b=>
   rw[ha.of (by simp),hb.of (by simp)];by_cases hl:(a.length == n&&b.length == n)=true
   . rw[Ac hl] at h;rw[Ai,A6,A6] at hl
     cases ht:KC a b with
     |none=>rw[ht] at h;cases h
     | some t=>
       rw[ht] at h;simp only[Fw,Am,Ao] at h;obtain⟨rfl,rfl⟩:=h;obtain⟨x,y,h1,h2,h3,h4,h5,h6,h7⟩:=aq ht;simp only[DV.enc,QU,h1,h2];rw[Ac ⟨h3.trans hl.1,h4.trans hl.2,h5,h6⟩,h7];cases neg<;>simp only[B5,A9,Bd,Bs,Yb]
   . rw[Af hl] at h;cases h
theorem Us{d:DS}{s:PS}(h:ES d s)(x:Option Opnd):match x.map (λ x=>x.dev d.sl),x.map (λ x=>x.pev s.sl) with|none,none=>True|some v,some p=>EV v p|_,_=>False:=by
 cases x with
 |none=>exact trivial
 |some x=>exact x.dev_ev h
theorem D6{s:PS}{o:Option PV}{v:PV}(h:o=some v):CW s o=some (v,s):=by rw[h];rfl
theorem uv{d:DS}{s:PS}{o:AOp}{m:Bool}{g:PX}{v:DV}(hs:ES d s)(h:OB o (λ x=>x.dev d.sl)=some (g,v))(hg:g.den):Bu m o s=some (v.enc,s):=by
 have E:=λ x=>Opnd.dev_ev hs x
 cases o<;>simp only[OB,reduceCtorEq] at h<;>simp only[Bu]
 case nilck x=>exact D6 (tJ (E x) h)
 case bin op x y=>exact D6 (wm (E x) (E y) h hg)
 case eqB neg x y=>exact D6 (vZ (E x) (E y) h)
 case eqN neg x y=>
  split at h
  . exact D6 (vQ (E x) h)
  . cases h
 case eqA n neg x y=>exact D6 (v8 (E x) (E y) h)
 case un op x=>exact D6 (wx (E x) h)
 case conv k x=>exact D6 (tT (E x) h)
 case bstr x=>exact D6 (uS (E x) h)
 case slice w x lo hi=>exact D6 (tz (Us hs lo) (Us hs hi) (E x) h hg)
 case substr x lo hi=>exact D6 (sS (Us hs lo) (Us hs hi) (E x) h hg)
 case fieldA off a=>exact D6 (sV (E a) h)
 case field off n x=>exact D6 (tO (E x) h)
 case indexA w x i=>exact D6 (sE (E x) (E i) h hg)
 case index x i=>exact D6 (tC (E x) (E i) h hg)
 case len x=>exact D6 (uZ (E x) h)
 case lenT x=>exact D6 (uo (E x) h)
 case minI x y=>exact D6 (vt (E x) (E y) h)
 case maxI x y=>exact D6 (vp (E x) (E y) h)
theorem W5:∀ (l:List DV),DV.okL l=true->EL (news (OA l)) (CK (DV.encL l))
 |[],_=>trivial
 | v::r,h=>by
   simp only[DV.okL,Ai] at h
   refine⟨?_,W5 r h.2⟩
   simp only[HV]
   by_cases ho:v.own=true
   . rw[Ac ho,Ac ho];exact .inl rfl
   . rw[Af ho,Af ho];exact .inr rfl
theorem EL.spliceE:∀ {a:List DC} {b:List PV} (n:Nat) {vs:List DV} {ps:List PV},EL a b->EL (Go.Ag.news vs) ps->EL (HY a n vs) (AS b n ps)
 |[],[],_,[],[],_,_=>trivial
 |[],[],_,_::_,_::_,_,_=>trivial
 |_::_,_::_,0,[],[],h,_=>h
 |_::_,_::_,_+1,[],[],h,_=>h
 |_::_,_::_,0,_::_,_::_,h,hv=>⟨hv.1,EL.spliceE 0 h.2 hv.2⟩
 |_::_,_::_,n+1,_::_,_::_,h,hv=>⟨h.1,EL.spliceE n h.2 hv⟩
theorem EBx.to{a:List DC}{b:List PV}(h:EBx a b)(hn:0<a.length):EL a b:=by
 rcases h with rfl|h
 . exact absurd hn (Nat.lt_irrefl 0)
 . exact h
theorem EBx.segm{a:List DC}{b:List PV}{o n:Nat}(h:EBx a b)(hl:o+n<=a.length)(hk:DV.okL (BQ (BV a) o n)=true):o+n<=b.length/\Go.Ag.segm b o n=DV.encL (BQ (BV a) o n):=by
 rcases h with rfl|h
 . have h0:o=0/\n=0:=by simp only[Bp] at hl;omega
   rw[h0.1,h0.2];exact⟨FW _,by cases b<;>rfl⟩
 . exact⟨by rw[<- h.len];exact hl,h.segm o n hk⟩
theorem EBx.splice{a:List DC}{b:List PV}{o:Nat}{vs:List DV}{ps:List PV}(h:EBx a b)(hv:EL (news vs) ps)(hl:o+vs.length<=a.length):EBx (HY a o vs) (AS b o ps):=by
 rcases h with rfl|h
 . have h0:vs=[]:=by
    cases vs with
    |nil=>rfl
    |cons _ _=>simp only[Bi,Bp] at hl;omega
   subst h0;exact .inl rfl
 . exact .inr (h.spliceE o hv)
theorem Tj:∀ (l:List DV) (o n:Nat),o+n<=l.length->(BQ l o n).length=n
 |[],0,0,_=>rfl
 |[],0,_+1,h=>by simp only[Bp] at h;omega
 |[],_+1,_,h=>by simp only[Bp] at h;omega
 |_::_,0,0,_=>rfl
 |_::r,0,n+1,h=>by simp only[BQ,Bi] at h ⊢;rw[Tj r 0 n (by omega)]
 |_::r,o+1,n,h=>by simp only[BQ,Bi] at h ⊢;exact Tj r o n (by omega)
theorem Ww:∀ (l:List DV),(OA l).length=l.length
 |[]=>rfl
 |_::r=>by simp only[OA,Bi,Ww r]
theorem V1{m:Bool}{i:Nat}{n:Option Nat}{a:DV}{p:PV}{d d':DS}{s:PS}{g:PX}{v:DV}(hs:ES d s)(ha:EV a p)(h:KY m i n a d=some (g,v,d')):∃ s',Hi m i n p s=some (v.enc,s')/\ES d' s':=by
 cases a<;>try (simp only[KY,reduceCtorEq] at h)
 case box j o=>
  rw[ha.of (by simp)];by_cases hc:(i == j&&Nat.ble (o+n.getD 1) (BG d.bx i).length&&DV.okL (BQ (BV (BG d.bx i)) o (n.getD 1)))=true
  . rw[Ac hc] at h;rw[Ai,Ai,A6] at hc;obtain⟨⟨rfl,hl⟩,hk⟩:=hc;have hl:=CR hl;obtain⟨h1,h2⟩:=(hs.bx.get i).segm hl hk;simp only[DV.enc,Hi];rw[Ac ⟨trivial,h1⟩,h2]
    cases m with
    | true=>
      simp only[A9] at h ⊢
      cases hv:E2 n (BQ (BV (BG d.bx i)) o (n.getD 1)) with
      |none=>rw[hv] at h;cases h
      | some w=>
        rw[hv] at h;simp only[B5,Am,Ao] at h;obtain⟨_,rfl,rfl⟩:=h;rw[NH hv];refine⟨_,rfl,hs.sl.clr _,hs.bx.put i ((hs.bx.get i).splice (W5 _ hk) ?_),hs.hp⟩;rw[Ww,Tj _ _ _ (by rw[TA];exact hl)];exact hl
    | false=>
      simp only[Bd,Bs] at h ⊢
      cases hv:E2 n (Ig (.b i) o (BQ (BV (BG d.bx i)) o (n.getD 1))) with
      |none=>rw[hv] at h;cases h
      | some w=>
        rw[hv] at h;simp only[B5,Am,Ao] at h;obtain⟨_,rfl,rfl⟩:=h;have:=NH hv;rw[P4] at this;rw[this];exact⟨_,rfl,hs⟩
  . rw[Af hc] at h;cases h
theorem gk{q q':Ql}(h:MP q=some q'):∀ (t:CT) (x:t.D),(CT.dv q' t x).enc=Kc q (CT.enc t x)
 |.int _,_|.bool,_|.str,_=>by cases q<;>rfl
 |.ifc,_=>by cases q<;>rfl
 |.sl r,l=>by cases q<;>simp only[MP,Am,reduceCtorEq] at h<;>subst h<;>rfl
 |.slf r,l=>by cases q<;>simp only[MP,Am,reduceCtorEq] at h<;>subst h<;>rfl
theorem gy{q q':Ql}(h:MP q=some q'):∀ (r:RT) (x:r.D),DV.encL (r.dv q' x)=E7 q (RT.enc r x)
 |.one t,x=>by simp only[RT.dv,DV.encL,RT.enc,E7,gk h t x]
 |.cons t r,x=>by simp only[RT.dv,DV.encL,RT.enc,E7,gk h t x.1,gy h r x.2]
theorem JL(r:RT):∀ (l:List r.D) (j:Nat),j<l.length->Bb (l.map (RT.enc r)) j=RT.enc r (l.getD j r.dflt)
 |_::_,0,_=>rfl
 |_::l,j+1,h=>JL r l j (by simpa using h)
theorem Wo(q:Ql):∀ (l:List PV) (o n:Nat),E7 q (Go.Ag.segm l o n)=Go.Ag.segm (E7 q l) o n
 |[],0,0=>rfl
 |[],0,_+1=>rfl
 |[],_+1,_=>rfl
 |_::_,0,0=>rfl
 |c::r,0,n+1=>by simp only[Go.Ag.segm,E7,Wo q r 0 n]
 |_::r,o+1,n=>by simp only[Go.Ag.segm,E7];exact Wo q r o n
theorem vF{q q':Ql}(h:MP q=some q'):q.isOwn=false:=by cases q<;>first|rfl|cases h
theorem V2{m:Bool}{n:Option Nat}{a:DV}{p:PV}{d d':DS}{s:PS}{g:PX}{v:DV}(hs:ES d s)(ha:EV a p)(h:JT m n a d=some (g,v,d'))(hg:g.den):∃ s',Hn m n p s=some (v.enc,s')/\ES d' s':=by
 cases a<;>try (simp only[JT,reduceCtorEq] at h)
 case ep q r l j o=>
  rw[ha.of (by simp)]
  cases hq:MP q with
  |none=>rw[hq] at h;cases h
  | some q'=>
    rw[hq] at h;simp only at h;by_cases hc:Nat.ble (o+n.getD 1) r.w=true
    . rw[Ac hc] at h
      cases hv:E2 n (BQ (r.dv q' (lGet l j r.dflt)) o (n.getD 1)) with
      |none=>rw[hv] at h;cases h
      | some w=>
        rw[hv] at h;simp only[B5,Am,Ao] at h;obtain⟨rfl,rfl,rfl⟩:=h;have hj:j<l.length:=hg;have:=NH hv;rw[Tu,gy hq,<- Wo,YA,<- JL r l j hj] at this;simp only[DV.enc,Hn,Ba];rw[Ac ⟨hj,by rw[JL r l j hj,JW];exact CR hc,vF hq⟩,this];exact⟨_,rfl,hs⟩
    . rw[Af hc] at h;cases h
 case ptr i o=>
  rw[ha.of (by simp)];by_cases hc:(Nat.blt i d.hp.length&&Nat.ble (o+n.getD 1) (BG d.hp i).length&&DV.okL (BQ (BV (BG d.hp i)) o (n.getD 1)))=true
  . rw[Ac hc] at h;rw[Ai,Ai] at hc;obtain⟨⟨hi,hl⟩,hk⟩:=hc;have hi:=CR hi;have hl:=CR hl;obtain⟨h1,h2⟩:=(hs.hp.get i).segm hl hk;simp only[DV.enc,Hn];rw[Ac ⟨by rw[<- hs.hp.len];exact hi,h1⟩,h2]
    cases m with
    | true=>
      simp only[A9] at h ⊢
      cases hv:E2 n (BQ (BV (BG d.hp i)) o (n.getD 1)) with
      |none=>rw[hv] at h;cases h
      | some w=>
        rw[hv] at h;simp only[B5,Am,Ao] at h;obtain⟨_,rfl,rfl⟩:=h;rw[NH hv];refine⟨_,rfl,hs.sl.clr _,hs.bx,hs.hp.put i ((hs.hp.get i).splice (W5 _ hk) ?_)⟩;rw[Ww,Tj _ _ _ (by rw[TA];exact hl)];exact hl
    | false=>
      simp only[Bd,Bs] at h ⊢
      cases hv:E2 n (Ig (.h i) o (BQ (BV (BG d.hp i)) o (n.getD 1))) with
      |none=>rw[hv] at h;cases h
      | some w=>
        rw[hv] at h;simp only[B5,Am,Ao] at h;obtain⟨_,rfl,rfl⟩:=h;have:=NH hv;rw[P4] at this;rw[this];exact⟨_,rfl,hs⟩
  . rw[Af hc] at h;cases h
theorem EL.clrD(hd:Hd):∀ {a:List DC} {b:List PV},EL a b->EL (C7 hd a) b
 |[],[],_=>trivial
 | c::_,p::_,h=>by
   refine⟨?_,EL.clrD hd h.2⟩
   by_cases hb:c.v.bor hd=true
   . rw[Ac hb];exact .inl rfl
   . rw[Af hb];exact h.1
theorem EL.clr2{hd:Hd}{a:List DC}{b:List PV}{x:Bool}{y:Bool}(h:EL a b)(hxy:x=false->y=false):EL (if x then C7 hd a else a) (if y then Go.Ag.clr hd b else b):=by
 cases x with
 |false=>rw[hxy rfl];exact h
 | true=>cases y with
   |false=>exact h.clrD hd
   |true=>exact h.clr hd
theorem sY{i n:Nat}{a x:Opnd}{d d':DS}{s:PS}{g:PX}{v:DV}(hs:ES d s)(h:Qb i n a x d=some (g,v,d')):∃ s',PO i n a x s=some (v.enc,s')/\ES d' s':=by
 unfold Qb at h;have ha:=a.dev_ev hs;generalize hm:Bl x d=w at h;obtain⟨w,d1⟩:=w;simp only at h;generalize a.dev d.sl=av at h ha
 cases av<;>try (simp only[reduceCtorEq] at h)
 case box j o=>
  by_cases hc:(i == j&&Nat.blt i d1.bx.length&&w.cells.length == n&&Nat.ble (o+n) (BG d1.bx i).length&&Dg w.cells)=true
  . rw[Ac hc] at h;simp only[Ai,A6] at hc;obtain⟨⟨⟨⟨rfl,hi⟩,rfl⟩,hl⟩,hcl⟩:=hc;have hi:=CR hi;have hl:=CR hl;have hok:=P2 w hcl;obtain⟨m1,m2⟩:=Ex x hs (by rw[hm];exact hok);rw[hm] at m1 m2;simp only[Am,Ao] at h;obtain⟨rfl,rfl,rfl⟩:=h;have hbx:=m2.bx.get i
    have hel:o+w.cells.length<=(Ak (mvOut x s).2.bx i).length:=by
     rcases hbx with he|he
     . rw[he] at hl;simp only[Bp] at hl;omega
     . rw[<- he.len];exact hl
    simp only[PO,ha.of (by simp:DV.box i o≠.any),DV.enc,m1,KA,Fg,HV];rw[Ac ⟨trivial,by rw[<- m2.bx.len];exact hi,trivial,hel,LL _ hcl⟩];refine⟨_,rfl,m2.sl.clr2 λ hx=>?_,m2.bx.put i (hbx.splice (EL.news w.cells) hl),m2.hp⟩;simp only[Cy,Cf] at hx ⊢;rw[(hbx.segm hl hx.1.1).2,NW];exact⟨hx.1.2,hx.2⟩
  . rw[Af hc] at h;cases h
theorem LW{r' r:RT}{l:List r'.D}{m:List r.D}(h:GH l=some m):r'=r/\l.map (RT.enc r')=m.map (RT.enc r):=by
 unfold GH at h;split at h
 . rename_i hb;have hr:=RT.beq_eq hb;subst hr;simp only[Am] at h;subst h;exact⟨rfl,rfl⟩
 . cases h
theorem YG:∀ {t:CT} {v:DV} {x:t.D},t.of v=some x->v.enc=CT.enc t x
 | .int k,.int k' n,x,h=>by
   have h':(if k=k' then some n else none)=some x:=h
   by_cases hk:k=k'
   . subst hk
     rw[Ac rfl] at h'
     have:n=x:=CO h'
     rw[<- this];rfl
   . rw[Af hk] at h';cases h'
 | .bool,.bool b,x,h=>by
   have:b.b=x:=CO h
   rw[<- this];rfl
 | .str,.str s,x,h=>by
   have:s=x:=CO h
   rw[<- this];rfl
 | .ifc,.ifc b,x,h=>by
   have:b=x:=CO h
   rw[<- this];rfl
 | .sl r,.nil .own,x,h=>by
   have:([]:List r.D)=x:=CO h
   rw[<- this];rfl
 | .sl r,.sl .own r' l,x,h=>by
   show PV.sl .own _=PV.sl .own _
   rw[(LW (r:=r) h).2]
 | .slf r,.nil .frz,x,h=>by
   have:([]:List r.D)=x:=CO h
   rw[<- this];rfl
 | .slf r,.sl .frz r' l,x,h=>by
   show PV.sl .frz _=PV.sl .frz _
   rw[(LW (r:=r) h).2]
theorem QL:∀ {r:RT} {vs:List DV} {x:r.D},r.of vs=some x->DV.encL vs=RT.enc r x
 |.one t,[v],x,h=>by simp only[DV.encL,RT.enc,YG (t:=t) h]
 | .cons t r,v::vs,x,h=>by
   have h':(match t.of v,r.of vs with|some x,some y=>some (x,y)|_,_=>none)=some x:=h
   clear h
   cases h1:t.of v with
   |none=>rw[h1] at h';cases h'
   | some a=>
     cases h2:r.of vs with
     |none=>rw[h1,h2] at h';cases h'
     | some b=>
       rw[h1,h2] at h'
       have:(a,b)=x:=CO h'
       rw[<- this]
       simp only[DV.encL,RT.enc,YG h1,QL h2]
theorem ga:∀ (t:CT) (x:t.D),(CT.dv .own t x).enc=CT.enc t x
 |.int _,_|.bool,_|.str,_|.ifc,_|.sl _,_|.slf _,_=>rfl
theorem Ym:∀ (r:RT) (x:r.D),DV.encL (r.dv .own x)=RT.enc r x
 |.one t,x=>by simp only[RT.dv,DV.encL,RT.enc,ga t x]
 |.cons t r,x=>by simp only[RT.dv,DV.encL,RT.enc,ga t x.1,Ym r x.2]
theorem WO(r:RT):∀ (l:List r.D) (j:Nat) (y:r.D),CL (l.map (RT.enc r)) j (RT.enc r y)=(l.set j y).map (RT.enc r)
 |[],_,_=>rfl
 |_::_,0,_=>rfl
 |_::l,j+1,y=>by simp only[B0,CL,List.set_cons_succ,WO r l j y]
theorem xk(v:DV)(p:List Nat)(h:v.fcell p≠.any):v.enc.fcell p=(v.fcell p).enc:=by
 cases v with
 | agg cs=>
   match p with
   |[]=>exact absurd rfl h
   |[c]=>exact(NM cs c).symm
   |_::_::_=>exact absurd rfl h
 | tup vs=>
   match p with
   |[]=>exact absurd rfl h
   |[_]=>exact absurd rfl h
   | [i,c]=>
     show Aa (Aa (DV.encL vs) i).cells c=(Gb (Gb vs i).cells c).enc;rw[<- NM,KA,<- NM]
   |_::_::_::_=>exact absurd rfl h
 |any=>match p with|[]=>exact absurd rfl h|[0]=>exact absurd rfl h|[_+1]=>exact absurd rfl h|0::_::_=>exact absurd rfl h|(_+1)::_::_=>exact absurd rfl h
 |undef=>match p with|[]=>exact absurd rfl h|[0]=>rfl|[_+1]=>exact absurd rfl h|0::_::_=>exact absurd rfl h|(_+1)::_::_=>exact absurd rfl h
 |bool _=>match p with|[]=>exact absurd rfl h|[0]=>rfl|[_+1]=>exact absurd rfl h|0::_::_=>exact absurd rfl h|(_+1)::_::_=>exact absurd rfl h
 |int _ _=>match p with|[]=>exact absurd rfl h|[0]=>rfl|[_+1]=>exact absurd rfl h|0::_::_=>exact absurd rfl h|(_+1)::_::_=>exact absurd rfl h
 |str _=>match p with|[]=>exact absurd rfl h|[0]=>rfl|[_+1]=>exact absurd rfl h|0::_::_=>exact absurd rfl h|(_+1)::_::_=>exact absurd rfl h
 |ifc _=>match p with|[]=>exact absurd rfl h|[0]=>rfl|[_+1]=>exact absurd rfl h|0::_::_=>exact absurd rfl h|(_+1)::_::_=>exact absurd rfl h
 |nil _=>match p with|[]=>exact absurd rfl h|[0]=>rfl|[_+1]=>exact absurd rfl h|0::_::_=>exact absurd rfl h|(_+1)::_::_=>exact absurd rfl h
 |sl _ _ _=>match p with|[]=>exact absurd rfl h|[0]=>rfl|[_+1]=>exact absurd rfl h|0::_::_=>exact absurd rfl h|(_+1)::_::_=>exact absurd rfl h
 |ep _ _ _ _ _=>match p with|[]=>exact absurd rfl h|[0]=>rfl|[_+1]=>exact absurd rfl h|0::_::_=>exact absurd rfl h|(_+1)::_::_=>exact absurd rfl h
 |box _ _=>match p with|[]=>exact absurd rfl h|[0]=>rfl|[_+1]=>exact absurd rfl h|0::_::_=>exact absurd rfl h|(_+1)::_::_=>exact absurd rfl h
 |ptr _ _=>match p with|[]=>exact absurd rfl h|[0]=>rfl|[_+1]=>exact absurd rfl h|0::_::_=>exact absurd rfl h|(_+1)::_::_=>exact absurd rfl h
theorem Gm{d:DS}{s:PS}(hs:ES d s)(hd:Hd)(p:List Nat)(h:BN d hd p≠.any):CB s hd p=(BN d hd p).enc:=by
 cases hd with
 | s t=>
   rcases hs.sl.get t with hg|hg
   . simp only[BN,hg] at h;refine absurd ?_ h
     match p with
     |[]=>rfl
     |[0]=>rfl
     |[_+1]=>rfl
     |0::_::_=>rfl
     |(_+1)::_::_=>rfl
   . simp only[BN,CB,hg] at h ⊢;exact xk _ p h
 | b i=>
   match p with
   |[]=>exact absurd rfl h
   |_::_::_=>exact absurd rfl h
   | [c]=>
     rcases hs.bx.get i with hb|hb
     . simp only[BN,hb,Bf] at h;exact absurd rfl h
     . exact(hb.get c).of h
 | h i=>
   match p with
   |[]=>exact absurd rfl h
   |_::_::_=>exact absurd rfl h
   | [c]=>
     rcases hs.hp.get i with hb|hb
     . simp only[BN,hb,Bf] at h;exact absurd rfl h
     . exact(hb.get c).of h
 |x i=>exact absurd rfl h
theorem zB(v:DV)(p:List Nat)(w:DV):v.enc.setc p w.enc=(v.setc p w).enc:=by
 cases v with
 | agg cs=>
   match p with
   |[]=>rfl
   |[c]=>exact congrArg PV.agg (TI cs c w).symm
   |_::_::_=>rfl
 | tup vs=>
   match p with
   |[]=>rfl
   |[0]=>rfl
   |[_+1]=>rfl
   |0::_::_=>rfl
   |(_+1)::_::_=>rfl
 |any=>match p with|[]=>rfl|[0]=>rfl|[_+1]=>rfl|0::_::_=>rfl|(_+1)::_::_=>rfl
 |undef=>match p with|[]=>rfl|[0]=>rfl|[_+1]=>rfl|0::_::_=>rfl|(_+1)::_::_=>rfl
 |bool _=>match p with|[]=>rfl|[0]=>rfl|[_+1]=>rfl|0::_::_=>rfl|(_+1)::_::_=>rfl
 |int _ _=>match p with|[]=>rfl|[0]=>rfl|[_+1]=>rfl|0::_::_=>rfl|(_+1)::_::_=>rfl
 |str _=>match p with|[]=>rfl|[0]=>rfl|[_+1]=>rfl|0::_::_=>rfl|(_+1)::_::_=>rfl
 |ifc _=>match p with|[]=>rfl|[0]=>rfl|[_+1]=>rfl|0::_::_=>rfl|(_+1)::_::_=>rfl
 |nil _=>match p with|[]=>rfl|[0]=>rfl|[_+1]=>rfl|0::_::_=>rfl|(_+1)::_::_=>rfl
 |sl _ _ _=>match p with|[]=>rfl|[0]=>rfl|[_+1]=>rfl|0::_::_=>rfl|(_+1)::_::_=>rfl
 |ep _ _ _ _ _=>match p with|[]=>rfl|[0]=>rfl|[_+1]=>rfl|0::_::_=>rfl|(_+1)::_::_=>rfl
 |box _ _=>match p with|[]=>rfl|[0]=>rfl|[_+1]=>rfl|0::_::_=>rfl|(_+1)::_::_=>rfl
 |ptr _ _=>match p with|[]=>rfl|[0]=>rfl|[_+1]=>rfl|0::_::_=>rfl|(_+1)::_::_=>rfl
theorem EBx.put{a:List DC}{b:List PV}{v:DV}{p:PV}(n:Nat)(h:EBx a b)(hv:EV v p):EBx (C6 a n v) (BA b n p):=by
 rcases h with rfl|h
 . exact .inl rfl
 . exact .inr (h.put n hv)
theorem Ku{d:DS}{s:PS}(hs:ES d s)(hd:Hd)(p:List Nat)(w:DV)(h:BN d hd p≠.any):ES (GL d w hd p) (setK s w.enc hd p):=by
 cases hd with
 | s t=>
   refine⟨(hs.sl.put t (.inr ?_)).clr _,hs.bx,hs.hp⟩;rcases hs.sl.get t with hg|hg
   . simp only[BN,hg] at h;refine absurd ?_ h
     match p with
     |[]=>rfl
     |[0]=>rfl
     |[_+1]=>rfl
     |0::_::_=>rfl
     |(_+1)::_::_=>rfl
   . rw[hg];exact zB _ p w
 | b i=>
   match p with
   |[]=>exact absurd rfl h
   |_::_::_=>exact absurd rfl h
   |[c]=>exact⟨hs.sl.clr _,hs.bx.put i ((hs.bx.get i).put c (.inr rfl)),hs.hp⟩
 | h i=>
   match p with
   |[]=>exact absurd rfl h
   |_::_::_=>exact absurd rfl h
   |[c]=>exact⟨hs.sl.clr _,hs.bx,hs.hp.put i ((hs.hp.get i).put c (.inr rfl))⟩
 |x i=>exact absurd rfl h
theorem sO{n:Nat}{a x:Opnd}{d d':DS}{s:PS}{g:PX}{v:DV}(hs:ES d s)(h:P5 n a x d=some (g,v,d'))(hg:g.den):∃ s',PL n a x s=some (v.enc,s')/\ES d' s':=by
 unfold P5 at h;generalize hm:Bl x d=w at h;obtain⟨w,d1⟩:=w;simp only at h
 have hw:Dg w.cells=true->ES d1 (mvOut x s).2/\(mvOut x s).1=w.enc:=λ hcl=>by
  obtain⟨m1,m2⟩:=Ex x hs (by rw[hm];exact P2 w hcl);rw[hm] at m1 m2;exact⟨m2,m1⟩
 split at h
 . rename_i i o ha;by_cases hc:(Nat.blt i d1.hp.length&&w.cells.length == n&&Nat.ble (o+n) (BG d1.hp i).length&&Dg w.cells)=true
   . rw[Ac hc] at h;simp only[Ai,A6] at hc;obtain⟨⟨⟨hi,rfl⟩,hl⟩,hcl⟩:=hc;have hi:=CR hi;have hl:=CR hl;obtain⟨m2,m1⟩:=hw hcl;have ha':=a.dev_ev m2;rw[ha] at ha';simp only[Am,Ao] at h;obtain⟨rfl,rfl,rfl⟩:=h;have hbx:=m2.hp.get i
     have hel:o+w.cells.length<=(Ak (mvOut x s).2.hp i).length:=by
      rcases hbx with he|he
      . rw[he] at hl;simp only[Bp] at hl;omega
      . rw[<- he.len];exact hl
     simp only[PL,ha'.of (by simp:DV.ptr i o≠.any),DV.enc,m1,KA,Fg,HV];rw[Ac ⟨by rw[<- m2.hp.len];exact hi,trivial,hel,LL _ hcl⟩];refine⟨_,rfl,m2.sl.clr2 λ hx=>?_,m2.bx,m2.hp.put i (hbx.splice (EL.news w.cells) hl)⟩;simp only[Cy,Cf] at hx ⊢;rw[(hbx.segm hl hx.1.1).2,NW];exact⟨hx.1.2,hx.2⟩
   . rw[Af hc] at h;cases h
 . rename_i hd p r0 l0 j o ha
   cases hk:BN d1 hd [p]<;>rw[hk] at h<;>try (cases h;done)
   rename_i q r l
   cases q<;>try (cases h;done)
   simp only at h;by_cases hc:(w.cells.length == n&&Nat.ble (o+n) r.w&&Dg w.cells)=true
   . rw[Ac hc] at h;simp only[Ai,A6] at hc;obtain⟨⟨rfl,hl⟩,hcl⟩:=hc;have hl:=CR hl
     cases hof:r.of (KO (r.dv .own (lGet l j r.dflt)) o w.cells) with
     |none=>rw[hof] at h;cases h
     | some y=>
       rw[hof] at h;simp only[Am,Ao] at h;obtain⟨rfl,rfl,rfl⟩:=h;obtain⟨m2,m1⟩:=hw hcl;have ha':=a.dev_ev m2;rw[ha] at ha'
       have hne:BN d1 hd [p]≠.any:=by rw[hk];simp
       have hj:j<l.length:=hg;have e1:=Gm m2 hd [p] hne;rw[hk] at e1;have e2:=QL hof;rw[SY,Ym,YA,<- JL r l j hj] at e2;have e3:=Ku m2 hd [p] (.sl .own r (lSet l j y)) hne;simp only[PL,ha'.of (by simp:DV.ep (.bor hd [p] true) r0 l0 j o≠.any),DV.enc,m1,KA,Fg,e1,Ba];rw[Ac ⟨hj,trivial,by rw[JL r l j hj,JW];exact hl,LL _ hcl⟩,e2,WO];simp only[DV.enc,Yl] at e3;exact⟨_,rfl,by rw[Yl];exact e3⟩
   . rw[Af hc] at h;cases h
 . cases h
theorem br{m:Bool}{n:Option Nat}{a:DV}{p:PV}{d d':DS}{s:PS}{r:DB}{g:PX}{v:DV}(hs:ES d s)(ha:EV a p)(h:Mj m n a d=some r)(hr:r=some (g,v,d'))(hg:g.den):K7 m n p s=some (some v.enc)/\d'=d:=by cases h
theorem v7{m:Bool}{n:Option Nat}{a:DV}{p:PV}{d:DS}{s:PS}(ha:EV a p)(hne:a≠.any)(h:Mj m n a d=none):K7 m n p s=none:=rfl
theorem wz{i c:Nat}{a:DV}{p:PV}(ha:EV a p)(hx:a.nestX i c=true):p.nestX i c=true:=by
 rw[ha.of (λ e=>by rw[e] at hx;cases hx)];unfold DV.nestX at hx;split at hx
 . exact hx
 . cases hx
theorem zN{a:DV}{p:PV}(ha:EV a p)(hne:a≠.any):p.nest=a.nest:=rfl
theorem sN{n:Nat}{hd:Hd}{p k j o:Nat}{w:DV}{pw:PV}{d d':DS}{s:PS}{g:PX}{v:DV}(hs:ES d s)(hw:EV w pw)(h:XF n hd p k j o w d=some (g,v,d'))(hg:g.den):∃ s',W9 n hd p k j o pw s=some (v.enc,s')/\ES d' s':=by cases h
theorem uR{d:DS}{s:PS}(x:Opnd)(h:ES d s)(hk:(EA x d).1.ok=true):(fzOut x s).1=(EA x d).1.enc/\ES (EA x d).2 (fzOut x s).2:=by
 cases x with
 | c v=>
   refine⟨?_,h⟩;refine(PU v λ he=>?_).symm;simp only[EA,he,DV.ok,Bd] at hk
 | t n =>
   simp only[EA,QY,fzOut,U8] at hk ⊢;rcases h.sl.get n with hg|hg
   . rw[hg] at hk;simp only[DV.own,Bd,Bs,DV.ok] at hk
   . rw[hg,HV];by_cases ho:(Bf d.sl n).own=true
     . simp only[ho,A9] at hk ⊢;by_cases hr:(Bf d.sl n).retok=true
       . rw[Ac hr,Ac (cC _ hr),<- XV];exact⟨rfl,(h.sl.put n (.inr rfl)).clr _,h.bx,h.hp⟩
       . rw[Af hr] at hk;cases hk
     . simp only[ho] at hk ⊢;exact⟨rfl,h⟩
theorem zL(hd:Hd)(v:DV)(h:v≠.any):(YP hd v).enc=Hz hd v.enc:=by
 cases v<;>first|rfl|exact absurd rfl h|skip
 case nil q=>cases q<;>rfl
 case sl q r l=>cases q<;>rfl
 case agg cs=>show PV.agg _=PV.agg _;rw[P4]
 case tup vs=>
  simp only[YP,DV.enc,Hz,NW];split<;>rfl
theorem uE{d:DS}{s:PS}(x:Opnd)(h:ES d s)(hk:(JU x d).1.ok=true):(K9 x s).1=(JU x d).1.enc/\ES (JU x d).2 (K9 x s).2:=by
 cases x with
 | c v=>
   refine⟨?_,h⟩;refine(PU v λ he=>?_).symm;simp only[JU,he,DV.ok,Bd] at hk
 | t n=>
   simp only[JU] at hk
   have hn:Bf d.sl n≠.any:=by intro e;rw[e] at hk;cases hk
   simp only[JU,K9];rw[(h.sl.get n).of hn,zL _ _ hn];exact⟨rfl,h⟩
theorem HN:∀ (l:List V),Gt l=true->l.all V.flat=true/\DV.encL (F6 l)=l.map BO/\Dg (F6 l)=true
 |[],_=>⟨rfl,rfl,rfl⟩
 | v::r,h=>by
   simp only[Gt,Ai] at h;obtain⟨h1,h2,h3⟩:=HN r h.2
   have hv:(Ir v).cell=true/\(Ir v).enc=BO v:=by cases v<;>first|exact⟨rfl,rfl⟩|(have:=h.1;cases this)
   refine⟨by simp only[EY,h.1,h1,CZ],?_,?_⟩
   . simp only[F6,DV.encL,B0,h2,hv.2]
   . simp only[F6,Dg,hv.1,h3,CZ]
theorem V6:∀ (ps:List (Nat×Nat×Opnd)) {cs cs':List DV} {d d':DS} {s:PS},ES d s->Ie cs ps d=some (cs',d')->∃ s',F2 (DV.encL cs) ps s=some (DV.encL cs',s')/\ES d' s'
 | [],cs,cs',d,d',s,hs,h=>by
   simp only[Ie,Am,Ao] at h
   obtain⟨rfl,rfl⟩:=h
   exact⟨s,rfl,hs⟩
 | (off,size,x)::r,cs,cs',d,d',s,hs,h=>by
   unfold Ie at h
   by_cases hc:((Bl x d).1.cells.length == size&&Nat.ble (off+size) cs.length&&Dg (Bl x d).1.cells)=true
   . rw[Ac hc] at h
     simp only[Ai,A6] at hc
     obtain⟨⟨h1,h2⟩,h3⟩:=hc
     obtain⟨m1,m2⟩:=Ex x hs (P2 _ h3)
     obtain⟨s',e1,e2⟩:=V6 r m2 h
     refine⟨s',?_,e2⟩
     unfold F2
     rw[m1,KA,Fg,Fg,Ac ⟨h1,CR h2,LL _ h3⟩,<- SY]
     exact e1
   . rw[Af hc] at h;cases h
theorem de:∀ (n:Nat) (l:List DV),DV.encL (l.take n)=(DV.encL l).take n
 |0,_=>rfl
 |_+1,[]=>rfl
 |n+1,_::r=>by simp only[Yv,DV.encL,de n r]
theorem dk:∀ (n:Nat) (l:List DV),DV.encL (l.drop n)=(DV.encL l).drop n
 |0,_=>rfl
 |_+1,[]=>rfl
 |n+1,_::r=>by simp only[List.drop_succ_cons,DV.encL,dk n r]
theorem aL(r:RT)(w:Nat):∀ (n:Nat) (cs:List DV) (l:List r.D),Of r w n cs=some l->Fm w n (DV.encL cs)=l.map (RT.enc r)
 | 0,cs,l,h=>by
   simp only[Of,Am] at h;subst h;rfl
 | n + 1,cs,l,h=>by
   unfold Of at h
   cases h1:r.of (cs.take w) with
   |none=>rw[h1] at h;cases h
   | some x=>
     cases h2:Of r w n (cs.drop w) with
     |none=>rw[h1,h2] at h;cases h
     | some y=>
       rw[h1,h2] at h
       have:=CO h
       subst this
       simp only[Fm,B0,<- de,<- dk,QL h1,aL r w n _ y h2]
def DSrc.es:DSrc->List (List PV)
 |.nil=>[]
 |.sl r l=>l.map (RT.enc r)
theorem QS{r:RT}{x:DSrc}{l:List r.D}(h:x.to r=some l):x.es=l.map (RT.enc r):=by
 cases x with
 |nil=>have:=CO h;subst this;rfl
 |sl r' l'=>exact(LW h).2
theorem fy:∀ (t:CT) (x:t.D),t.flat=true->(CT.enc t x).flatc=true
 |.int _,_,_|.bool,_,_|.str,_,_|.ifc,_,_=>rfl
theorem fv:∀ (r:RT) (x:r.D),r.flat=true->GM (RT.enc r x)=true
 |.one t,x,h=>by simp only[RT.enc,GM,fy t x h,CZ]
 | .cons t r,x,h=>by
   simp only[RT.flat,Ai] at h
   simp only[RT.enc,GM,fy t x.1 h.1,fv r x.2 h.2,CZ]
theorem eg(r:RT)(h:r.flat=true):∀ (l:List r.D),Ic (l.map (RT.enc r))=true
 |[]=>rfl
 |x::l=>by simp only[B0,Ic,fv r x h,eg r h l,CZ]
theorem Zbd{w:Nat}{x:DSrc}(h:x.w w=true):CC w x.es=true:=by
 cases x with
 |nil=>rfl
 | sl r l=>
   have:r.w=w:=by simpa [DSrc.w] using h
   subst this;exact EX r l
theorem mv_ok{d:DS}{x:Opnd}(v:DV)(hx:x.dev d.sl=v)(ho:v.own=true)(hb:∀ hd,v.bor hd=false)(hk:v.ok=true):(Bl x d).1=v:=by
 cases x with
 |c c=>exact hx
 | t n=>
   have hx':Bf d.sl n=v:=hx;simp only[Bl,Q6,hx',ho,hb,A9,Bd,Bs]
theorem Wh{w:Nat}{y:Opnd}{d d':DS}{s:PS}{new:DSrc}(hs:ES d s)(h:Ik w y d=some (new,d')):∃ s',ME w y s=some (new.es,s')/\ES d' s':=by
 have hy:=y.dev_ev hs;unfold Ik at h;unfold ME
 cases hv:y.dev d.sl with
 | str t=>
   rw[hv] at h hy;simp only at h;by_cases hw:(w == 1)=true
   . rw[Ac hw] at h;simp only[Am,Ao] at h;obtain⟨rfl,rfl⟩:=h;rw[hy.of (by simp)];simp only[DV.enc];rw[Ac (by simpa using hw)];refine⟨s,?_,hs⟩
     have:(DSrc.sl (.one (.int .u8)) (sRow t)).es=t.map λ b=>[PV.fl (.int .u8 b.toNat)]:=by
      unfold DSrc.es;rw[Zb3];clear hy hv
      induction t with
      |nil=>rfl
      |cons b t ih=>exact congrArg (List.cons _) ih
     rw[this]
   . rw[Af hw] at h;cases h
 | nil q=>
   rw[hv] at h hy;have hp:=hy.of (by simp)
   cases q with
   | own=>
     simp only[Am,Ao] at h;obtain⟨rfl,rfl⟩:=h;have hk:=mv_ok (.nil .own) hv rfl (λ _=>rfl) rfl;obtain⟨m1,m2⟩:=Ex y hs (by rw[hk];rfl);rw[hp];exact⟨_,rfl,m2⟩
   | frz=>
     simp only[Am,Ao] at h;obtain⟨rfl,rfl⟩:=h;rw[hp];exact⟨s,rfl,hs⟩
   | ownw w'=>
     simp only[Am,Ao] at h;obtain⟨rfl,rfl⟩:=h;rw[hp];exact⟨s,rfl,hs⟩
   | bor a b c=>
     simp only[Am,Ao] at h;obtain⟨rfl,rfl⟩:=h;rw[hp];exact⟨s,rfl,hs⟩
   | pre a b=>
     simp only[Am,Ao] at h;obtain⟨rfl,rfl⟩:=h;rw[hp];exact⟨s,rfl,hs⟩
 | sl q r l=>
   rw[hv] at h hy;have hp:=hy.of (by simp)
   have key:(if (r.w == w&&r.flat)=true then some (DSrc.sl r l,d) else none)=some (new,d')->CC w (l.map (RT.enc r))=true/\Ic (l.map (RT.enc r))=true/\new.es=l.map (RT.enc r)/\d'=d:=λ h=>by
    by_cases hw:(r.w == w&&r.flat)=true
    . rw[Ac hw] at h;simp only[Ai,A6] at hw;simp only[Am,Ao] at h;obtain⟨rfl,rfl⟩:=h;exact⟨hw.1▸EX r l,eg r hw.2 l,rfl,rfl⟩
    . rw[Af hw] at h;cases h
   rw[hp]
   cases q with
   | own=>
     simp only at h;by_cases hw:(r.w == w)=true
     . rw[Ac hw] at h;simp only[Am,Ao] at h;obtain⟨rfl,rfl⟩:=h;have hk:=mv_ok (.sl .own r l) hv rfl (λ _=>rfl) rfl;obtain⟨m1,m2⟩:=Ex y hs (by rw[hk];rfl)
       have hw':r.w=w:=by simpa using hw
       simp only[DV.enc];rw[Ac (hw'▸EX r l)];exact⟨_,rfl,m2⟩
     . rw[Af hw] at h;cases h
   |ownw w'=>cases h
   |frz=>obtain⟨k1,k2,k3,rfl⟩:=key h;simp only[DV.enc];rw[Ac ⟨k1,k2⟩,k3];exact⟨s,rfl,hs⟩
   |bor a b c=>obtain⟨k1,k2,k3,rfl⟩:=key h;simp only[DV.enc];rw[Ac ⟨k1,k2⟩,k3];exact⟨s,rfl,hs⟩
   |pre a b=>obtain⟨k1,k2,k3,rfl⟩:=key h;simp only[DV.enc];rw[Ac ⟨k1,k2⟩,k3];exact⟨s,rfl,hs⟩
 |_=>rw[hv] at h;cases h
theorem Mn{x:DSrc}{r:RT}{l:List r.D}(h:x.to r=some l):x.es.length=l.length:=by rw[QS h,Ba]
theorem bN{w:Nat}{x:Opnd}{new:DSrc}{d d':DS}{s:PS}{g:PX}{v:DV}(hs:ES d s)(h:OL w x new d=some (g,v,d'))(hg:g.den):∃ s',J6 w x new.es s=some (v.enc,s')/\ES d' s':=by
 have hx:=x.dev_ev hs;unfold OL at h;by_cases h0:(Nat.blt 0 w&&new.w w)=true
 . simp only [h0,Uq,Bd,Bs] at h;simp only[Ai] at h0;have hw0:0<w:=CR h0.1;unfold J6
   cases hv:x.dev d.sl with
   | nil q =>
     rw[hv] at h hx;rw[hx.of (by simp)]
     cases q with
     | own=>
       have hk:=mv_ok (.nil .own) hv rfl (λ _=>rfl) rfl;obtain⟨m1,m2⟩:=Ex x hs (by rw[hk];rfl)
       cases new with
       | nil=>
         simp only[Am,Ao] at h;obtain⟨rfl,rfl,rfl⟩:=h;simp only[DV.enc,DSrc.es,Bp,Ej,JI,Om];rw[Ac ⟨hw0,rfl,FW _⟩];exact⟨_,rfl,m2⟩
       | sl r l=>
         simp only[Am,Ao] at h;obtain⟨rfl,rfl,rfl⟩:=h;simp only[DV.enc,DSrc.es,Bp,Bv,Ba,CA];rw[Ac ⟨hw0,rfl,hg⟩];exact⟨_,rfl,m2⟩
     | bor hd p t=>
       cases t with
       | false=>cases p with
         |nil=>cases h
         |cons c p=>cases p<;>cases h
       | true=>
         match p,h with
         | [c],h=>
           simp only at h ⊢
           cases hk:BN d hd [c]<;>rw[hk] at h<;>try (cases h;done)
           rename_i q
           cases q<;>try (cases h;done)
           have hne:BN d hd [c]≠.any:=by rw[hk];simp
           have e1:=Gm hs hd [c] hne;rw[hk] at e1;have e3:=Ku hs hd [c] .undef hne
           cases new with
           | nil=>
             simp only[Am,Ao] at h;obtain⟨rfl,rfl,rfl⟩:=h;simp only[DV.enc,e1,DSrc.es,Bp,Ej,JI,Om];rw[Ac ⟨hw0,rfl,trivial,FW _⟩];exact⟨_,rfl,e3⟩
           | sl r l=>
             simp only[Am,Ao] at h;obtain⟨rfl,rfl,rfl⟩:=h;simp only[DV.enc,e1,DSrc.es,Bp,Bv,Ba,CA];rw[Ac ⟨hw0,rfl,trivial,hg⟩];exact⟨_,rfl,e3⟩
         |[],h=>cases h
         |_::_::_,h=>cases h
     |_=>cases h
   | sl q r l=>
     rw[hv] at h hx;rw[hx.of (by simp)]
     cases q with
     | own =>
       simp only at h;by_cases hw:(r.w == w)=true
       . rw[Ac hw] at h
         have hw':r.w=w:=by simpa using hw
         cases ht:new.to r with
         |none=>rw[ht] at h;cases h
         | some n=>
           rw[ht] at h;simp only[Am,Ao] at h;obtain⟨rfl,rfl,rfl⟩:=h;have hk:=mv_ok (.sl .own r l) hv rfl (λ _=>rfl) rfl;obtain⟨m1,m2⟩:=Ex x hs (by rw[hk];rfl);simp only[DV.enc,Ba,Mn ht];rw[Ac ⟨hw0,hw'▸EX r l,hg⟩,QS ht];refine⟨_,?_,m2⟩;simp only[Ml,Gz]
       . rw[Af hw] at h;cases h
     | bor hd p t=>
       cases t with
       | false=>cases p with
         |nil=>cases h
         |cons c p=>cases p<;>cases h
       | true=>
         match p,h with
         | [c],h=>
           simp only at h ⊢
           cases hk:BN d hd [c]<;>rw[hk] at h<;>try (cases h;done)
           rename_i q rh lh
           cases q<;>try (cases h;done)
           simp only at h;by_cases hw:(rh.w == w)=true
           . rw[Ac hw] at h
             have hw':rh.w=w:=by simpa using hw
             cases ht:new.to rh with
             |none=>rw[ht] at h;cases h
             | some n=>
               rw[ht] at h;simp only[Am,Ao] at h;obtain⟨rfl,rfl,rfl⟩:=h
               have hne:BN d hd [c]≠.any:=by rw[hk];simp
               have e1:=Gm hs hd [c] hne;rw[hk] at e1;have e3:=Ku hs hd [c] .undef hne;simp only[DV.enc,e1,Ba,Mn ht];rw[Ac ⟨hw0,hw'▸EX rh lh,hg.1,hg.2⟩,QS ht];refine⟨_,?_,e3⟩;simp only[Ml,Gz,DV.enc]
           . rw[Af hw] at h;cases h
         |[],h=>cases h
         |_::_::_,h=>cases h
     | pre hd p=>
      match p,h with
      | [c],h=>
        simp only at h ⊢
        cases hk:BN d hd [c]<;>rw[hk] at h<;>try (cases h;done)
        rename_i q rh lh
        cases q<;>try (cases h;done)
        simp only at h;by_cases hw:(rh.w == w)=true
        . rw[Ac hw] at h
          have hw':rh.w=w:=by simpa using hw
          cases ht:new.to rh with
          |none=>rw[ht] at h;cases h
          | some n=>
            rw[ht] at h;simp only[Am,Ao] at h;obtain⟨rfl,rfl,rfl⟩:=h
            have hne:BN d hd [c]≠.any:=by rw[hk];simp
            have e1:=Gm hs hd [c] hne;rw[hk] at e1;have e3:=Ku hs hd [c] .undef hne;simp only[DV.enc,e1,Ba,Mn ht];rw[Ac ⟨hw0,hw'▸EX rh lh,hg.1,hg.2.1,hg.2.2.2⟩,QS ht,Af (Nat.ne_of_gt hg.2.2.1)];refine⟨_,?_,e3⟩;simp only[Ml,Xx,UZ,Gz,Uo,DV.enc]
        . rw[Af hw] at h;cases h
      |[],h=>cases h
      |_::_::_,h=>cases h
     |_=>cases h
   |_=>rw[hv] at h;cases h
 . simp only[h0] at h;cases h
theorem cv{zs:List V}(h:Gt zs=true):EL (news (F6 zs)) (zs.map BO):=by rw[<- (HN zs h).2.1];exact EL.news _
theorem EB.append{c:List DC}{p:List PV}:∀ {a:List (List DC)} {b:List (List PV)},EB a b->EBx c p->EB (a++[c]) (b++[p])
 |[],[],_,h=>⟨h,trivial⟩
 |_::_,_::_,h,h'=>⟨h.1,EB.append h.2 h'⟩
theorem s7(r:RT)(x:r.D)(n:Nat):(List.replicate n x).map (RT.enc r)=List.replicate n (RT.enc r x):=by simp
theorem SZ{m:Bool}{o:AOp}{ty:Option RT}{d d':DS}{s:PS}{g:PX}{v:DV}(hs:ES d s)(h:Bm m o ty d=some (g,v,d'))(hg:g.den):∃ s',Bu m o s=some (v.enc,s')/\ES d' s':=by
 have E:=λ x=>Opnd.dev_ev hs x
 have pure:(OB o (λ x=>x.dev d.sl)).map (λ r=>(r.1,r.2,d))=some (g,v,d')->∃ s',Bu m o s=some (v.enc,s')/\ES d' s':=λ h=>by
  cases hp:OB o (λ x=>x.dev d.sl) with
  |none=>rw[hp] at h;cases h
  | some r=>
    obtain⟨g1,v1⟩:=r;rw[hp] at h;simp only[B5,Am,Ao] at h;obtain⟨rfl,rfl,rfl⟩:=h;exact⟨s,uv hs hp hg,hs⟩
 cases o<;>first|exact pure h|skip
 case mv x=>
  cases m with
  | false=>
    simp only[Bm,Bd,Bs] at h;by_cases hk:(Bl x d).1.ok=true
    . rw[Ac hk] at h;simp only[Am,Ao] at h;obtain⟨rfl,rfl,rfl⟩:=h;obtain⟨m1,m2⟩:=Ex x hs hk;exact⟨_,by simp only[Bu,Bd,Bs,<- m1],m2⟩
    . rw[Af hk] at h;cases h
  | true=>
    simp only[Bm,A9] at h;by_cases hk:(JU x d).1.ok=true
    . rw[Ac hk] at h;simp only[Am,Ao] at h;obtain⟨rfl,rfl,rfl⟩:=h;obtain⟨m1,m2⟩:=uE x hs hk;exact⟨_,by simp only[Bu,A9,<- m1],m2⟩
    . rw[Af hk] at h;cases h
 case loadB i n a=>exact V1 hs (E a) h
 case loadH n a=>
  simp only[Bm] at h
  cases hn:Mj m n (a.dev d.sl) d with
  | none=>
    rw[hn] at h;obtain⟨s',h1,h2⟩:=V2 hs (E a) h hg;refine⟨s',?_,h2⟩
    have hne:a.dev d.sl≠.any:=by
     intro e;simp only[e,JT] at h;cases h
    simp only[Bu,v7 (s:=s) (E a) hne hn];exact h1
  | some r=>
    rw[hn] at h;obtain⟨h1,rfl⟩:=br hs (E a) hn h hg;exact⟨s,by simp only[Bu,h1];rfl,hs⟩
 case loadX i c n a=>
  simp only[Bm] at h;split at h
  . rename_i hx
    cases hn:Mj m n (a.dev d.sl) d with
    |none=>rw[hn] at h;cases h
    | some r=>
      rw[hn] at h;obtain⟨h1,rfl⟩:=br hs (E a) hn h hg;exact⟨s,by simp only[Bu,wz (E a) hx,A9,h1];rfl,hs⟩
  . cases h
 case storeB i n a x=>exact sY hs h
 case storeH n a x=>
  simp only[Bm] at h;split at h
  . rename_i hok;have hn:=zN (E a) (λ e=>by rw[e] at hok;cases hok);split at h
    . rename_i hd p k j o hm;obtain⟨s',h1,h2⟩:=sN hs (E x) h hg;exact⟨s',by simp only[Bu,hn,hm];exact h1,h2⟩
    . rename_i hm;obtain⟨s',h1,h2⟩:=sO hs h hg;exact⟨s',by simp only[Bu,hn,hm];exact h1,h2⟩
  . cases h
 case appN w x y=>
  simp only[Bm] at h;split at h
  . rename_i hx
    cases h1:Ik w y d with
    |none=>rw[h1] at h;cases h
    | some r=>
      obtain⟨new,d1⟩:=r;rw[h1] at h;obtain⟨s1,e1,e2⟩:=Wh hs h1;obtain⟨s2,e3,e4⟩:=bN e2 h hg;have ex:=(E x).of (by rw[hx];simp);rw[hx] at ex;exact⟨s2,by simp only[Bu,ex,DV.enc,e1];exact e3,e4⟩
  . cases h
 case app w x y=>
  simp only[Bm] at h
  cases h1:Ik w y d with
  |none=>rw[h1] at h;cases h
  | some r=>
    obtain⟨new,d1⟩:=r;rw[h1] at h;obtain⟨s1,e1,e2⟩:=Wh hs h1;obtain⟨s2,e3,e4⟩:=bN e2 h hg;exact⟨s2,by simp only[Bu,e1];exact e3,e4⟩
 case allocB i zs=>
  simp only[Bm] at h;by_cases hc:(Nat.blt i d.bx.length&&Gt zs)=true
  . rw[Ac hc] at h;simp only[Ai] at hc;simp only[Am,Ao] at h;obtain⟨rfl,rfl,rfl⟩:=h;simp only[Bu];rw[Ac ⟨by rw[<- hs.bx.len];exact CR hc.1,(HN zs hc.2).1⟩];exact⟨_,rfl,(hs.sl.clearBox i).clr _,hs.bx.put i (.inr (cv hc.2)),hs.hp⟩
  . rw[Af hc] at h;cases h
 case boxB i n x=>
  simp only[Bm] at h;by_cases hc:(Nat.blt i (Bl x d).2.bx.length&&(Bl x d).1.cells.length == n&&Dg (Bl x d).1.cells)=true
  . rw[Ac hc] at h;simp only[Ai,A6] at hc;obtain⟨⟨h1,rfl⟩,h3⟩:=hc;obtain⟨m1,m2⟩:=Ex x hs (P2 _ h3);simp only[Am,Ao] at h;obtain⟨rfl,rfl,rfl⟩:=h;simp only[Bu,m1,KA,Fg];rw[Ac ⟨by rw[<- m2.bx.len];exact CR h1,trivial,LL _ h3⟩];exact⟨_,rfl,(m2.sl.clearBox i).clr _,m2.bx.put i (.inr (EL.news _)),m2.hp⟩
  . rw[Af hc] at h;cases h
 case allocH zs=>
  simp only[Bm] at h;by_cases hc:Gt zs=true
  . rw[Ac hc] at h;simp only[Am,Ao] at h;obtain⟨rfl,rfl,rfl⟩:=h;simp only[Bu];rw[Ac (HN zs hc).1,<- hs.hp.len];exact⟨_,rfl,hs.sl.clr _,hs.bx,hs.hp.append (.inr (cv hc))⟩
  . rw[Af hc] at h;cases h
 case boxH n x=>
  simp only[Bm] at h;by_cases hc:((Bl x d).1.cells.length == n&&Dg (Bl x d).1.cells)=true
  . rw[Ac hc] at h;simp only[Ai,A6] at hc;obtain⟨rfl,h3⟩:=hc;obtain⟨m1,m2⟩:=Ex x hs (P2 _ h3);simp only[Am,Ao] at h;obtain⟨rfl,rfl,rfl⟩:=h;simp only[Bu,m1,KA,Fg];rw[Ac ⟨trivial,LL _ h3⟩,<- m2.hp.len];exact⟨_,rfl,m2.sl.clr _,m2.bx,m2.hp.append (.inr (EL.news _))⟩
  . rw[Af hc] at h;cases h
 case build zs ps=>
  simp only[Bm] at h;by_cases hc:Gt zs=true
  . rw[Ac hc] at h
    cases hf:Ie (F6 zs) ps d with
    |none=>rw[hf] at h;cases h
    | some r=>
      obtain⟨cs,d1⟩:=r;rw[hf] at h;simp only[Am,Ao] at h;obtain⟨rfl,rfl,rfl⟩:=h;obtain⟨s',e1,e2⟩:=V6 ps hs hf;rw[(HN zs hc).2.1] at e1;simp only[Bu];rw[Ac (HN zs hc).1,e1];exact⟨s',rfl,e2⟩
  . rw[Af hc] at h;cases h
 case mkSlice w z len=>
  simp only[Bm] at h
  cases he:len.dev d.sl with
  | int k n=>
    rw[he] at h
    cases k<;>try (cases h)
    simp only at h;split at h
    . rename_i r hr;split at h
      . rename_i x hx;split at h
        . rename_i hc;simp only[Ai,A6] at hc;obtain⟨⟨⟨h1,h2⟩,h3⟩,h4⟩:=hc;simp only[Am,Ao] at h;obtain⟨rfl,rfl,rfl⟩:=h;have hp:=E len;rw[he] at hp;simp only[Bu,hp.of (by simp),DV.enc];rw[Ac ⟨hg.1,h1,CR h3,(HN z h4).1,hg.2⟩];refine⟨s,?_,hs⟩;rw[gU];rw[s7,<- QL hx,(HN z h4).2.1]
        . cases h
      . cases h
    . cases h
  |_=>rw[he] at h;cases h
 case litSlice w n zs ps=>
  simp only[Bm] at h;by_cases hn:(n == 0)=true
  . rw[Ac hn] at h;simp only[Am,Ao] at h;obtain⟨rfl,rfl,rfl⟩:=h;simp only[Bu];rw[Ac (by simpa using hn)];refine⟨s,?_,hs⟩;cases ty<;>rfl
  . rw[Af hn] at h;split at h
    . rename_i hc;simp only[Ai,A6] at hc;obtain⟨⟨h1,h2⟩,h3⟩:=hc;split at h
      . rename_i cs d1 hf;split at h
        . rename_i r hr;split at h
          . split at h
            . rename_i l hl;simp only[Am,Ao] at h;obtain⟨rfl,rfl,rfl⟩:=h;obtain⟨s',e1,e2⟩:=V6 ps hs hf;rw[(HN zs h1).2.1] at e1;simp only[Bu];rw[Af (by simpa using hn),Ac ⟨(HN zs h1).1,h2,CR h3⟩,e1];refine⟨s',?_,e2⟩;simp only[B5,DV.enc,aL r w n cs l hl]
            . cases h
          . cases h
        . cases h
      . cases h
    . cases h
 case extract x i=>
  simp only[Bm] at h
  cases x with
  |c v=>cases h
  | t t =>
    simp only at h;have ht:EV (Bf d.sl t) (Aa s.sl t):=hs.sl.get t
    cases hv:Bf d.sl t with
    | tup vs=>
      rw[hv] at h ht;simp only at h;have hp:Aa s.sl t= .tup (DV.encL vs):=ht.of (by simp);split at h
      . rename_i hc;simp only[Ai] at hc;simp only[Bu,hp];rw[Fg,Ac (show i<vs.length from CR hc.1),<- NM,HV,T4];split at h
        . rename_i ho;rw[Ac ho];split at h
          . cases h
          . rename_i hb;rw[Af hb];simp only[Am,Ao] at h;obtain⟨rfl,rfl,rfl⟩:=h;refine⟨_,rfl,?_,hs.bx,hs.hp⟩;refine(EL.put t hs.sl (.inr ?_)).clr _;show PV.tup _=PV.tup _;rw[TI];rfl
        . rename_i ho;rw[Af ho];simp only[Am,Ao] at h;obtain⟨rfl,rfl,rfl⟩:=h;exact⟨_,rfl,hs⟩
      . cases h
    |_=>rw[hv] at h;cases h
theorem XP{w:Nat}{new:DSrc}{r:RT}{n:List r.D}(h:new.to r=some n)(l:List r.D)(hw:r.w=w):l.map (RT.enc r)++new.es=(l++n).map (RT.enc r)/\CC w (l.map (RT.enc r)++new.es)=true:=by
 have:l.map (RT.enc r)++new.es=(l++n).map (RT.enc r):=by rw[QS h,Gz]
 exact⟨this,by rw[this];exact hw▸EX r (l++n)⟩
theorem Up{w:Nat}{es:List (List PV)}(h:CC w es=true):Es [(0,w)] (.sl .own es)=some (.sl (.ownw w) es):=by
 show EN w (.sl .own es)=_;simp only[EN];rw[Ac (.inr h)]
theorem ZaZ{w:Nat}{es:List (List PV)}:Es [(0,w)] (.sl (.ownw w) es)=some (.sl (.ownw w) es):=by
 show EN w (.sl (.ownw w) es)=_;unfold EN;exact Ac (.inr rfl)
theorem Qt{w:Nat}{es:List (List PV)}{c:Prop} [Decidable c](h:CC w es=true):Es [(0,w)] (.sl (if c then .ownw w else .own) es)=some (.sl (.ownw w) es):=by
 split
 . exact ZaZ
 . exact Up h
theorem ux{w:Nat}{x:Opnd}{new:DSrc}{d d':DS}{s:PS}{g:PX}{v:DV}(hs:ES d s)(h:Qz w x new d=some (g,v,d'))(hg:g.den):∃ s' v0,J6 w x new.es s=some (v0,s')/\Es [(0,w)] v0=some v.enc/\ES d' s':=by
 have hx:=x.dev_ev hs;unfold Qz at h;by_cases h0:(Nat.blt 0 w&&new.w w)=true
 . simp only [h0,Uq,Bd,Bs] at h;simp only[Ai] at h0;have hw0:0<w:=CR h0.1;have haw:=Zbd h0.2;unfold J6
   cases hv:x.dev d.sl with
   | nil q =>
     rw[hv] at h hx;rw[hx.of (by simp)]
     cases q with
     | own=>
       have hk:=mv_ok (.nil .own) hv rfl (λ _=>rfl) rfl;obtain⟨m1,m2⟩:=Ex x hs (by rw[hk];rfl);simp only[DV.enc,Bp,Bv,CA]
       cases new with
       | nil=>
         simp only[Ld,Am,Ao] at h;obtain⟨rfl,rfl,rfl⟩:=h;rw[Ac ⟨hw0,rfl,by simp[DSrc.es,AK]⟩];exact⟨_,_,rfl,Up haw,m2⟩
       | sl r l=>
         simp only[Ld,Am,Ao] at h;obtain⟨rfl,rfl,rfl⟩:=h;rw[Ac ⟨hw0,rfl,by simpa [DSrc.es,PX.den] using hg⟩];exact⟨_,_,rfl,Up haw,m2⟩
     | ownw w'=>
       simp only at h;by_cases hw':(w' == w)=true
       . rw[Ac hw'] at h
         have hw':w'=w:=by simpa using hw'
         subst hw';have hk:=mv_ok (.nil (.ownw w')) hv rfl (λ _=>rfl) rfl;obtain⟨m1,m2⟩:=Ex x hs (by rw[hk];rfl);simp only[DV.enc,Bp,Bv,CA]
         cases new with
         | nil=>
           simp only[Ld,Am,Ao] at h;obtain⟨rfl,rfl,rfl⟩:=h;rw[Ac ⟨hw0,trivial,rfl,by simp[DSrc.es,AK]⟩];exact⟨_,_,rfl,Qt haw,m2⟩
         | sl r l=>
           simp only[Ld,Am,Ao] at h;obtain⟨rfl,rfl,rfl⟩:=h;rw[Ac ⟨hw0,trivial,rfl,by simpa [DSrc.es,PX.den] using hg⟩];exact⟨_,_,rfl,Qt haw,m2⟩
       . rw[Af hw'] at h;cases h
     |_=>cases h
   | sl q r l=>
     rw[hv] at h hx;rw[hx.of (by simp)]
     cases q with
     | own =>
       simp only at h;by_cases hw:(r.w == w)=true
       . rw[Ac hw] at h
         have hw':r.w=w:=by simpa using hw
         cases ht:new.to r with
         |none=>rw[ht] at h;cases h
         | some n=>
           rw[ht] at h;simp only[Am,Ao] at h;obtain⟨rfl,rfl,rfl⟩:=h;have hk:=mv_ok (.sl .own r l) hv rfl (λ _=>rfl) rfl;obtain⟨m1,m2⟩:=Ex x hs (by rw[hk];rfl);obtain⟨a1,a2⟩:=XP ht l hw';simp only[DV.enc,Ba,Mn ht];rw[Ac ⟨hw0,hw'▸EX r l,hg⟩];exact⟨_,_,rfl,by rw[Up a2,a1];simp only[Ml],m2⟩
       . rw[Af hw] at h;cases h
     | ownw w'=>
       simp only at h;by_cases hw:(w' == w&&r.w == w)=true
       . rw[Ac hw] at h;simp only[Ai,A6] at hw;obtain⟨rfl,hw'⟩:=hw
         cases ht:new.to r with
         |none=>rw[ht] at h;cases h
         | some n=>
           rw[ht] at h;simp only[Am,Ao] at h;obtain⟨rfl,rfl,rfl⟩:=h;have hk:=mv_ok (.sl (.ownw w') r l) hv rfl (λ _=>rfl) rfl;obtain⟨m1,m2⟩:=Ex x hs (by rw[hk];rfl);obtain⟨a1,a2⟩:=XP ht l hw';simp only[DV.enc,Ba,Mn ht];rw[Ac ⟨hw0,trivial,hw'▸EX r l,hg⟩];exact⟨_,_,rfl,by rw[Qt a2,a1];simp only[Ml],m2⟩
       . rw[Af hw] at h;cases h
     | pre hd p=>
      match p,h with
      | [c],h=>
        simp only at h ⊢
        cases hk:BN d hd [c]<;>rw[hk] at h<;>try (cases h;done)
        rename_i q rh lh
        have hne:BN d hd [c]≠.any:=by rw[hk];simp
        have e1:=Gm hs hd [c] hne;rw[hk] at e1;have e3:=Ku hs hd [c] .undef hne
        have tk:∀ {n:List rh.D},new.to rh=some n->rh.w=w->(lh.map (RT.enc rh)).take l.length++new.es=(lApp (lTake lh (lN l)) n).map (RT.enc rh)/\CC w ((lh.map (RT.enc rh)).take l.length++new.es)=true:=by
         intro n ht hw';have:=XP ht (lh.take l.length) hw';rw[Uo] at this;simp only[Ml,Xx,UZ];exact this
        cases q<;>try (cases h;done)
        case own=>
         simp only at h;by_cases hw:(rh.w == w)=true
         . rw[Ac hw] at h
           have hw':rh.w=w:=by simpa using hw
           cases ht:new.to rh with
           |none=>rw[ht] at h;cases h
           | some n=>
             rw[ht] at h;simp only[Am,Ao] at h;obtain⟨rfl,rfl,rfl⟩:=h;obtain⟨a1,a2⟩:=tk ht hw';simp only[DV.enc,e1,Ba,Mn ht];rw[Ac ⟨hw0,hw'▸EX rh lh,hg.1,hg.2.1,hg.2.2⟩];exact⟨_,_,rfl,by rw[Qt a2,a1],e3⟩
         . rw[Af hw] at h;cases h
        case ownw w'=>
         simp only at h;by_cases hw:(w' == w&&rh.w == w)=true
         . rw[Ac hw] at h;simp only[Ai,A6] at hw;obtain⟨rfl,hw'⟩:=hw
           cases ht:new.to rh with
           |none=>rw[ht] at h;cases h
           | some n=>
             rw[ht] at h;simp only[Am,Ao] at h;obtain⟨rfl,rfl,rfl⟩:=h;obtain⟨a1,a2⟩:=tk ht hw';simp only[DV.enc,e1,Ba,Mn ht];rw[Ac ⟨hw0,trivial,hw'▸EX rh lh,hg.1,hg.2.1,hg.2.2⟩];exact⟨_,_,rfl,by rw[Qt a2,a1],e3⟩
         . rw[Af hw] at h;cases h
      |[],h=>cases h
      |_::_::_,h=>cases h
     |_=>cases h
   |_=>rw[hv] at h;cases h
 . simp only[h0] at h;cases h
theorem XY{w:Nat}{v v':DV}(h:Q3 w v=some v'):EN w v.enc=some v'.enc:=by
 unfold Q3 at h;split at h
 . cases h;simp only[DV.enc,EN];rw[Ac (.inr rfl)]
 . split at h
   . rename_i hw;simp only[Cg,A6] at hw;cases h;simp only[DV.enc,EN];rw[Ac hw]
   . cases h
 . rename_i r l;split at h
   . rename_i hw;simp only[Cg,A6] at hw;cases h;simp only[DV.enc,EN];rw[Ac (hw.imp id λ hw=>hw▸EX r l)]
   . cases h
 . split at h
   . rename_i hw;simp only[Cg,A6] at hw;cases h;simp only[DV.enc,EN];rw[Ac hw]
   . cases h
 . cases h
theorem gu:∀ (ws:List (Nat×Nat)) {l l':List DV},UW ws l=some l'->MV ws (DV.encL l)=some (DV.encL l')
 |[],l,l',h=>by cases h;rfl
 | (c,w)::r,l,l',h=>by
   unfold UW at h
   split at h
   . rename_i v hv
     unfold MV
     rw[<- NM,XY hv]
     simp only
     rw[<- TI]
     exact gu r h
   . cases h
theorem Zck{ws:List (Nat×Nat)}{v v':DV}(h:MT ws v=some v'):Es ws v.enc=some v'.enc:=by
 unfold MT at h;split at h
 . simp only[B4] at h;obtain⟨l',h1,rfl⟩:=h;show (MV ws _).map PV.agg=_;rw[gu ws h1];rfl
 . rename_i q;split at h
   . exact XY (v:=.nil q) h
   . cases h
 . rename_i q r l;split at h
   . exact XY (v:=.sl q r l) h
   . cases h
 . cases h
theorem tq{ws:List (Nat×Nat)}{m:Bool}{o:AOp}{ty:Option RT}{d d':DS}{s:PS}{g:PX}{v:DV}(hs:ES d s)(h:Ma ws m o ty d=some (g,v,d'))(hg:g.den):∃ s' v0,Bu m o s=some (v0,s')/\Es ws v0=some v.enc/\ES d' s':=by
 have gen:(match Bm m o ty d with|some (g,v,st)=>(match MT ws v with|some v=>some (g,v,st)|none=>none)|none=>none)=some (g,v,d')->∃ s' v0,Bu m o s=some (v0,s')/\Es ws v0=some v.enc/\ES d' s':=by
  intro h
  cases h1:Bm m o ty d with
  |none=>rw[h1] at h;cases h
  | some r=>
    obtain⟨g1,v1,d1⟩:=r;rw[h1] at h;simp only at h
    cases h2:MT ws v1 with
    |none=>rw[h2] at h;cases h
    | some v2=>
      rw[h2] at h;simp only[Am,Ao] at h;obtain⟨rfl,rfl,rfl⟩:=h;obtain⟨s',e1,e2⟩:=SZ hs h1 hg;exact⟨s',_,e1,Zck h2,e2⟩
 cases o<;>first|exact gen h|skip
 case app w x y=>
  simp only[Ma] at h;split at h
  . rename_i w';split at h
    . rename_i hw;have hw:=A6.mp hw;subst hw
      cases h1:Ik w' y d with
      |none=>rw[h1] at h;cases h
      | some r=>
        obtain⟨new,d1⟩:=r;rw[h1] at h;obtain⟨s1,e1,e2⟩:=Wh hs h1;obtain⟨s2,v0,e3,e4,e5⟩:=ux e2 h hg;exact⟨s2,v0,by simp only[Bu,e1];exact e3,e4,e5⟩
    . cases h
  . cases h
def Chg:List DC->List DC->Prop
 |_,[]=>True
 |[],c::r=>c.d=true/\Chg [] r
 |b::a,c::r=>(c.d=true\/c=b)/\Chg a r
def ChgB:List (List DC)->List (List DC)->Prop
 |_,[]=>True
 |[],c::r=>Chg [] c/\ChgB [] r
 |b::a,c::r=>Chg b c/\ChgB a r
structure ChgS (x y:DS):Prop where
 sl:Chg x.sl y.sl
 bx:ChgB x.bx y.bx
 hp:ChgB x.hp y.hp
theorem Chg.refl:∀ (x:List DC),Chg x x
 |[]=>trivial
 |_::r=>⟨.inr rfl,Chg.refl r⟩
theorem Chg.trans:∀ {x y z:List DC},Chg x y->Chg y z->Chg x z
 |_,_,[],_,_=>by cases ‹List DC›<;>trivial
 |[],[],_::_,_,h=>h
 |_::a,[],c::r,_,h=>⟨.inl h.1,Chg.trans (x:=a) (y:=[]) (by cases a<;>trivial) h.2⟩
 | [],b::a,c::r,h,h'=>by
   refine⟨?_,Chg.trans h.2 h'.2⟩
   rcases h'.1 with h1|h1
   . exact h1
   . rw[h1];exact h.1
 | e::x,b::a,c::r,h,h'=>by
   refine⟨?_,Chg.trans h.2 h'.2⟩
   rcases h'.1 with h1|h1
   . exact .inl h1
   . rw[h1];exact h.1
theorem ChgB.refl:∀ (x:List (List DC)),ChgB x x
 |[]=>trivial
 |b::r=>⟨Chg.refl b,ChgB.refl r⟩
theorem ChgB.trans:∀ {x y z:List (List DC)},ChgB x y->ChgB y z->ChgB x z
 |_,_,[],_,_=>by cases ‹List (List DC)›<;>trivial
 |[],[],_::_,_,h=>h
 |b::a,[],c::r,_,h=>⟨Chg.trans (y:=[]) (by trivial) h.1,ChgB.trans (x:=a) (y:=[]) (by cases a<;>trivial) h.2⟩
 |[],b::a,c::r,h,h'=>⟨h.1.trans h'.1,ChgB.trans h.2 h'.2⟩
 |e::x,b::a,c::r,h,h'=>⟨h.1.trans h'.1,ChgB.trans h.2 h'.2⟩
theorem ChgS.refl(x:DS):ChgS x x:=⟨Chg.refl _,ChgB.refl _,ChgB.refl _⟩
theorem ChgS.trans{x y z:DS}(h:ChgS x y)(h':ChgS y z):ChgS x z:=⟨h.sl.trans h'.sl,h.bx.trans h'.bx,h.hp.trans h'.hp⟩
theorem Chg.put:∀ (x:List DC) (n:Nat) (v:DV),Chg x (C6 x n v)
 |[],_,_=>trivial
 |_::r,0,_=>⟨.inl rfl,Chg.refl r⟩
 |_::r,n+1,v=>⟨.inr rfl,Chg.put r n v⟩
theorem Chg.clr(hd:Hd):∀ (x:List DC),Chg x (C7 hd x)
 |[]=>trivial
 | c::r=>by
   refine⟨?_,Chg.clr hd r⟩
   split
   . exact .inl rfl
   . exact .inr rfl
theorem Chg.clearBox(i:Nat):∀ (x:List DC),Chg x (PI i x)
 |[]=>trivial
 | c::r=>by
   refine⟨?_,Chg.clearBox i r⟩
   split
   . exact .inl rfl
   . exact .inr rfl
theorem Chg.keep(live:List Nat):∀ (n:Nat) (x:List DC),Chg x (Un live n x)
 |_,[]=>trivial
 | n,c::r=>by
   refine⟨?_,Chg.keep live (n+1) r⟩
   split
   . split
     . exact .inl rfl
     . exact .inr rfl
   . exact .inl rfl
theorem Chg.trim(live:List Nat):∀ (n:Nat) (x:List DC),Chg x (UJ live n x)
 |_,[]=>trivial
 | n,c::r=>by
   refine⟨?_,Chg.trim live (n+1) r⟩
   split
   . exact .inr rfl
   . exact .inl rfl
theorem Chg.splice:∀ (x:List DC) (n:Nat) (vs:List DV),Chg x (HY x n vs)
 |[],n,[]=>trivial
 |_::_,0,[]=>Chg.refl _
 |_::_,_+1,[]=>Chg.refl _
 |[],_,_::_=>trivial
 |_::r,0,v::vs=>⟨.inl rfl,Chg.splice r 0 vs⟩
 |_::r,n+1,v::vs=>⟨.inr rfl,Chg.splice r n (v::vs)⟩
theorem Chg.news:∀ (x:List DC) (vs:List DV),Chg x (Go.Ag.news vs)
 |x,[]=>by cases x<;>trivial
 |[],v::vs=>⟨rfl,Chg.news [] vs⟩
 |_::a,v::vs=>⟨.inl rfl,Chg.news a vs⟩
theorem ChgB.put:∀ (x:List (List DC)) (i:Nat) {v:List DC},Chg (BG x i) v->ChgB x (E5 x i v)
 |[],_,_,_=>trivial
 |_::r,0,_,h=>⟨h,ChgB.refl r⟩
 |_::r,n+1,v,h=>⟨Chg.refl _,ChgB.put r n h⟩
theorem ChgB.app:∀ (x:List (List DC)) (vs:List DV),ChgB x (x++[Go.Ag.news vs])
 |[],vs=>⟨Chg.news [] vs,trivial⟩
 |b::r,vs=>⟨Chg.refl b,ChgB.app r vs⟩
theorem Chg.rem:∀ {x y:List DC},Chg (Go.Ag.clean x) y->Chg x (OI x y)
 |x,[],_=>by cases x<;>trivial
 |[],_::_,h=>h
 | b :: a,c::r,h=>by
   refine⟨?_,Chg.rem h.2⟩
   rcases h.1 with h1|h1
   . left;simp[h1]
   . subst h1
     cases hb:b.d with
     |true=>left;rfl
     |false=>right;obtain⟨d,v⟩:=b;simp only at hb;subst hb;rfl
theorem ChgB.rem:∀ {x y:List (List DC)},ChgB (Ol x) y->ChgB x (QX x y)
 |x,[],_=>by cases x<;>trivial
 |[],_::_,h=>h
 |b::a,c::r,h=>⟨h.1.rem,ChgB.rem h.2⟩
theorem ChgS.rem{x y:DS}(h:ChgS x.clean y):ChgS x (Lg x y):=⟨h.sl.rem,h.bx.rem,h.hp.rem⟩
theorem ChgS.put(d:DS)(n:Option Nat)(v:DV):ChgS d (d.put n v):=by
 cases n with
 |none=>exact ChgS.refl d
 | some n=>
   simp only[DS.put];split
   . exact⟨(Chg.put _ _ _).trans (Chg.clr _ _),ChgB.refl _,ChgB.refl _⟩
   . exact⟨Chg.put _ _ _,ChgB.refl _,ChgB.refl _⟩
theorem ChgS.mvOut(x:Opnd)(d:DS):ChgS d (Bl x d).2:=by
 cases x with
 |c v=>exact ChgS.refl d
 | t n=>
   simp only[Bl,Q6];split
   . split
     . exact ChgS.refl d
     . exact⟨(Chg.put _ _ _).trans (Chg.clr _ _),ChgB.refl _,ChgB.refl _⟩
   . exact ChgS.refl d
theorem ChgS.fzOut(x:Opnd)(d:DS):ChgS d (EA x d).2:=by
 cases x with
 |c v=>exact ChgS.refl d
 | t n=>
   simp only[EA,QY];split
   . split
     . exact⟨(Chg.put _ _ _).trans (Chg.clr _ _),ChgB.refl _,ChgB.refl _⟩
     . exact ChgS.refl d
   . exact ChgS.refl d
theorem ChgS.setK(d:DS)(v:DV):∀ (hd:Hd) (p:List Nat),ChgS d (GL d v hd p)
 |.s t,p=>⟨(Chg.put _ _ _).trans (Chg.clr _ _),ChgB.refl _,ChgB.refl _⟩
 |.b i,[c]=>⟨Chg.clr _ _,ChgB.put _ _ (Chg.put _ _ _),ChgB.refl _⟩
 |.h i,[c]=>⟨Chg.clr _ _,ChgB.refl _,ChgB.put _ _ (Chg.put _ _ _)⟩
 |.b i,[]=>ChgS.refl d
 |.b i,_::_::_=>ChgS.refl d
 |.h i,[]=>ChgS.refl d
 |.h i,_::_::_=>ChgS.refl d
 |.x i,_=>ChgS.refl d
theorem WD:∀ (ps:List (Nat×Nat×Opnd)) {cs cs':List DV} {d d':DS},Ie cs ps d=some (cs',d')->ChgS d d'
 | [],cs,cs',d,d',h=>by
   simp only[Ie,Am,Ao] at h
   obtain⟨_,rfl⟩:=h
   exact ChgS.refl d
 | (off,size,x)::r,cs,cs',d,d',h=>by
   unfold Ie at h
   split at h
   . exact(ChgS.mvOut x d).trans (WD r h)
   . cases h
theorem WJ{w:Nat}{y:Opnd}{d d':DS}{new:DSrc}(h:Ik w y d=some (new,d')):ChgS d d':=by
 unfold Ik at h
 split at h<;>(try split at h)<;>first|(cases h;done)|(simp only[Am,Ao] at h;obtain⟨_,rfl⟩:=h;first|exact ChgS.refl _|exact ChgS.mvOut y d)
theorem dV{w:Nat}{x:Opnd}{new:DSrc}{d d':DS}{g:PX}{v:DV}(h:OL w x new d=some (g,v,d')):ChgS d d':=by
 unfold OL at h;split at h
 . cases h
 . repeat' split at h
   all_goals first|(cases h;done)|(simp only[Am,Ao] at h;obtain⟨_,_,rfl⟩:=h;first|exact ChgS.mvOut x d|exact ChgS.setK _ _ _ _)
theorem cf{m:Bool}{i:Nat}{n:Option Nat}{a:DV}{d d':DS}{g:PX}{v:DV}(h:KY m i n a d=some (g,v,d')):ChgS d d':=by
 unfold KY at h;split at h
 . cases m with
   | true=>
     simp only[A9] at h;split at h
     . simp only[B4,Ao] at h;obtain⟨_,_,_,_,rfl⟩:=h;exact⟨Chg.clr _ _,ChgB.put _ _ (Chg.splice _ _ _),ChgB.refl _⟩
     . cases h
   | false=>
     simp only[Bd,Bs] at h;split at h
     . simp only[B4,Ao] at h;obtain⟨_,_,_,_,rfl⟩:=h;exact ChgS.refl _
     . cases h
 . cases h
theorem bO{m:Bool}{n:Option Nat}{a:DV}{d d':DS}{g:PX}{v:DV}(h:JT m n a d=some (g,v,d')):ChgS d d':=by
 unfold JT at h;split at h
 . cases m with
   | true=>
     simp only[A9] at h;split at h
     . simp only[B4,Ao] at h;obtain⟨_,_,_,_,rfl⟩:=h;exact⟨Chg.clr _ _,ChgB.refl _,ChgB.put _ _ (Chg.splice _ _ _)⟩
     . cases h
   | false=>
     simp only[Bd,Bs] at h;split at h
     . simp only[B4,Ao] at h;obtain⟨_,_,_,_,rfl⟩:=h;exact ChgS.refl _
     . cases h
 . split at h
   . split at h
     . simp only[B4,Ao] at h;obtain⟨_,_,_,_,rfl⟩:=h;exact ChgS.refl _
     . cases h
   . cases h
 . cases h
theorem tW{i n:Nat}{a x:Opnd}{d d':DS}{g:PX}{v:DV}(h:Qb i n a x d=some (g,v,d')):ChgS d d':=by
 unfold Qb at h;simp only at h;split at h
 . split at h
   . simp only[Am,Ao] at h;obtain⟨_,_,rfl⟩:=h;refine(ChgS.mvOut x d).trans ⟨?_,ChgB.put _ _ (Chg.splice _ _ _),ChgB.refl _⟩;split
     . exact Chg.clr _ _
     . exact Chg.refl _
   . cases h
 . cases h
theorem uN{n:Nat}{a x:Opnd}{d d':DS}{g:PX}{v:DV}(h:P5 n a x d=some (g,v,d')):ChgS d d':=by
 unfold P5 at h;simp only at h;split at h
 . split at h
   . simp only[Am,Ao] at h;obtain⟨_,_,rfl⟩:=h;refine(ChgS.mvOut x d).trans ⟨?_,ChgB.refl _,ChgB.put _ _ (Chg.splice _ _ _)⟩;dsimp only;split
     . exact Chg.clr _ _
     . exact Chg.refl _
   . cases h
 . split at h
   . split at h
     . split at h
       . simp only[Am,Ao] at h;obtain⟨_,_,rfl⟩:=h;exact(ChgS.mvOut x d).trans (ChgS.setK _ _ _ _)
       . cases h
     . cases h
   . cases h
 . cases h
theorem dr{m:Bool}{n:Option Nat}{a:DV}{d d':DS}{r:DB}{g:PX}{v:DV}(h:Mj m n a d=some r)(hr:r=some (g,v,d')):ChgS d d':=by cases h
theorem uB{n:Nat}{hd:Hd}{p k j o:Nat}{w:DV}{d d':DS}{g:PX}{v:DV}(h:XF n hd p k j o w d=some (g,v,d')):ChgS d d':=by cases h
theorem Zbt(x:Opnd)(d:DS):(JU x d).2=d:=by cases x<;>rfl
theorem yk{w:Nat}{new:DSrc}{d d':DS}{g:PX}{v:DV}(h:Ld w new d=some (g,v,d')):d'=d:=by
 unfold Ld at h;split at h<;>(simp only[Am,Ao] at h;exact h.2.2.symm)
theorem yf{w:Nat}{x:Opnd}{new:DSrc}{d d':DS}{g:PX}{v:DV}(h:Qz w x new d=some (g,v,d')):ChgS d d':=by
 unfold Qz at h;split at h
 . cases h
 . repeat' split at h
   all_goals first|(cases h;done)|(have:=yk h;subst this;exact ChgS.mvOut x d)|(simp only[Am,Ao] at h;obtain⟨_,_,rfl⟩:=h;first|exact ChgS.mvOut x d|exact ChgS.setK _ _ _ _)
theorem Tm{m:Bool}{o:AOp}{ty:Option RT}{d d':DS}{g:PX}{v:DV}(h:Bm m o ty d=some (g,v,d')):ChgS d d':=by
 have pure:(OB o (λ x=>x.dev d.sl)).map (λ r=>(r.1,r.2,d))=some (g,v,d')->ChgS d d':=λ h=>by
  simp only[B4,Ao] at h;obtain⟨_,_,_,_,rfl⟩:=h;exact ChgS.refl _
 cases o<;>first|exact pure h|skip
 case mv x=>
  cases m with
  | true=>
    simp only[Bm,A9] at h;split at h
    . simp only[Am,Ao] at h;obtain⟨_,_,rfl⟩:=h;rw[Zbt];exact ChgS.refl d
    . cases h
  | false=>
    simp only[Bm,Bd,Bs] at h;split at h
    . simp only[Am,Ao] at h;obtain⟨_,_,rfl⟩:=h;exact ChgS.mvOut x d
    . cases h
 case loadB i n a=>exact cf h
 case loadH n a=>
  simp only[Bm] at h;split at h
  . rename_i h1;exact dr h1 h
  . exact bO h
 case loadX i c n a=>
  simp only[Bm] at h;split at h
  . split at h
    . rename_i h1;exact dr h1 h
    . cases h
  . cases h
 case storeB i n a x=>exact tW h
 case storeH n a x=>
  simp only[Bm] at h;split at h
  . split at h
    . exact uB h
    . exact uN h
  . cases h
 case app w x y=>
  simp only[Bm] at h;split at h
  . rename_i h1;exact(WJ h1).trans (dV h)
  . cases h
 case appN w x y=>
  simp only[Bm] at h;split at h
  . split at h
    . rename_i h1;exact(WJ h1).trans (dV h)
    . cases h
  . cases h
 case allocB i zs=>
  simp only[Bm] at h;split at h
  . simp only[Am,Ao] at h;obtain⟨_,_,rfl⟩:=h;exact⟨(Chg.clearBox _ _).trans (Chg.clr _ _),ChgB.put _ _ (Chg.news _ _),ChgB.refl _⟩
  . cases h
 case boxB i n x=>
  simp only[Bm] at h;split at h
  . simp only[Am,Ao] at h;obtain⟨_,_,rfl⟩:=h;exact(ChgS.mvOut x d).trans ⟨(Chg.clearBox _ _).trans (Chg.clr _ _),ChgB.put _ _ (Chg.news _ _),ChgB.refl _⟩
  . cases h
 case allocH zs=>
  simp only[Bm] at h;split at h
  . simp only[Am,Ao] at h;obtain⟨_,_,rfl⟩:=h;exact⟨Chg.clr _ _,ChgB.refl _,ChgB.app _ _⟩
  . cases h
 case boxH n x=>
  simp only[Bm] at h;split at h
  . simp only[Am,Ao] at h;obtain⟨_,_,rfl⟩:=h;exact(ChgS.mvOut x d).trans ⟨Chg.clr _ _,ChgB.refl _,ChgB.app _ _⟩
  . cases h
 case build zs ps=>
  simp only[Bm] at h;split at h
  . split at h
    . rename_i hf;simp only[Am,Ao] at h;obtain⟨_,_,rfl⟩:=h;exact WD ps hf
    . cases h
  . cases h
 case mkSlice w z len=>
  simp only[Bm] at h
  repeat' split at h
  all_goals first|(cases h;done)|(simp only[Am,Ao] at h;obtain⟨_,_,rfl⟩:=h;exact ChgS.refl _)
 case litSlice w n zs ps=>
  simp only[Bm] at h;split at h
  . simp only[Am,Ao] at h;obtain⟨_,_,rfl⟩:=h;exact ChgS.refl _
  . split at h
    . split at h
      . rename_i hf;have:=WD ps hf
        repeat' split at h
        all_goals first|(cases h;done)|(simp only[Am,Ao] at h;obtain⟨_,_,rfl⟩:=h;exact this)
      . cases h
    . cases h
 case extract x i=>
  simp only[Bm] at h
  repeat' split at h
  all_goals first|(cases h;done)|(simp only[Am,Ao] at h;obtain⟨_,_,rfl⟩:=h;first|exact ChgS.refl _|exact⟨(Chg.put _ _ _).trans (Chg.clr _ _),ChgB.refl _,ChgB.refl _⟩)
theorem vP{ws:List (Nat×Nat)}{m:Bool}{o:AOp}{ty:Option RT}{d d':DS}{g:PX}{v:DV}(h:Ma ws m o ty d=some (g,v,d')):ChgS d d':=by
 have gen:(match Bm m o ty d with|some (g,v,st)=>(match MT ws v with|some v=>some (g,v,st)|none=>none)|none=>none)=some (g,v,d')->ChgS d d':=by
  intro h
  cases h1:Bm m o ty d with
  |none=>rw[h1] at h;cases h
  | some r=>
    obtain⟨g1,v1,d1⟩:=r;rw[h1] at h;simp only at h
    cases h2:MT ws v1 with
    |none=>rw[h2] at h;cases h
    | some v2=>
      rw[h2] at h;simp only[Am,Ao] at h;obtain⟨_,_,rfl⟩:=h;exact Tm h1
 cases o<;>first|exact gen h|skip
 case app w x y=>
  simp only[Ma] at h;split at h
  . split at h
    . split at h
      . rename_i h1;exact(WJ h1).trans (yf h)
      . cases h
    . cases h
  . cases h
theorem Eg{α:Type}(x y:α):bSel true x y=x:=by simp only[Yd,Gw,Gu]
theorem EE{α:Type}(x y:α):bSel false x y=y:=by simp only[Yd,Gw,Gu]
theorem gR(c:Bool)(x y:BX):(U3 c x y).b=bif c then x.b else y.b:=by
 cases x<;>cases y<;>rename_i x y<;>cases c<;>cases x<;>cases y<;>simp[U3,BX.b,Og,ib,Yq,Yd]
theorem Mo{q q':Ql}(h:Dw q q'=true):q=q':=of_decide_eq_true h
mutual
theorem Uv(c:Bool):∀ (x y:DV),C5 c x y= .any\/(C5 c x y).enc=(bif c then x.enc else y.enc)
 | .undef,y=>by
   cases y<;>first|exact .inl rfl|skip
   case undef=>cases c<;>exact .inr rfl
 | .bool a,y=>by
   cases y<;>first|exact .inl rfl|skip
   case bool b=>right;simp only[C5,DV.enc,gR];cases c<;>rfl
 | .int k a,y=>by
   cases y<;>first|exact .inl rfl|skip
   case int k' b=>
    simp only[C5]
    split
    . rename_i hk;have:=T9 hk;subst this
      right;cases c<;>simp only[DV.enc,Eg,EE,Gw,Gu]
    . exact .inl rfl
 | .str a,y=>by
   cases y<;>first|exact .inl rfl|skip
   case str b=>right;cases c<;>simp only[C5,DV.enc,Eg,EE,Gw,Gu]
 | .ifc a,y=>by
   cases y<;>first|exact .inl rfl|skip
   case ifc b=>right;cases c<;>simp only[C5,DV.enc,Eg,EE,Gw,Gu]
 | .nil q,y=>by
   cases y<;>first|exact .inl rfl|skip
   case nil q'=>
    simp only[C5]
    split
    . rename_i hq;have:=Mo hq;subst this;right;cases c<;>rfl
    . exact .inl rfl
   case sl q' r l=>
    simp only[C5]
    split
    . rename_i hq;have:=Mo hq;subst this;right
      cases c<;>simp only[DV.enc,Eg,EE,Gw,Gu,Mb]
    . exact .inl rfl
 | .sl q r l,y=>by
   cases y<;>first|exact .inl rfl|skip
   case nil q'=>
    simp only[C5]
    split
    . rename_i hq;have:=Mo hq;subst this;right
      cases c<;>simp only[DV.enc,Eg,EE,Gw,Gu,Mb]
    . exact .inl rfl
   case sl q' r' l'=>
    simp only[C5]
    split
    . rename_i hq;have:=Mo hq;subst this
      split
      . rename_i l2 hl
        right
        cases c<;>simp only[DV.enc,Eg,EE,Gw,Gu,(LW hl).2]
      . exact .inl rfl
    . exact .inl rfl
 | .box i o,y=>by
   cases y<;>first|exact .inl rfl|skip
   case box i' o'=>
    simp only[C5]
    split
    . rename_i h;simp only[Ai,A6] at h;obtain⟨rfl,rfl⟩:=h;right;cases c<;>rfl
    . exact .inl rfl
 | .ptr i o,y=>by
   cases y<;>first|exact .inl rfl|skip
   case ptr i' o'=>
    simp only[C5]
    split
    . rename_i h;simp only[Ai,A6] at h;obtain⟨rfl,rfl⟩:=h;right;cases c<;>rfl
    . exact .inl rfl
 | .agg a,y=>by
   cases y<;>first|exact .inl rfl|skip
   case agg b=>
    simp only[C5]
    split
    . rename_i h;simp only[Ai,A6] at h
      right
      have:=Xu c a b h.1 h.2
      cases c<;>simp only[DV.enc,this,Gw,Gu]
    . exact .inl rfl
 | .tup a,y=>by
   cases y<;>first|exact .inl rfl|skip
   case tup b=>
    simp only[C5]
    split
    . rename_i h;simp only[Ai,A6] at h
      right
      have:=Xu c a b h.1 h.2
      cases c<;>simp only[DV.enc,this,Gw,Gu]
    . exact .inl rfl
 |.any,y=>by cases y<;>exact .inl rfl
 |.ep _ _ _ _ _,y=>by cases y<;>exact .inl rfl
theorem Xu(c:Bool):∀ (x y:List DV),x.length=y.length->DV.okL (J7 c x y)=true->DV.encL (J7 c x y)=(bif c then DV.encL x else DV.encL y)
 |[],[],_,_=>by cases c<;>rfl
 |[],_::_,h,_=>by cases h
 |_::_,[],h,_=>by cases h
 | x :: a,y::b,h,hk=>by
   simp only[J7,DV.okL,Ai] at hk
   have h1:=Xu c a b (by simpa using h) hk.2
   rcases Uv c x y with h2|h2
   . rw[h2] at hk;cases hk.1
   . simp only[J7,DV.encL,h1,h2]
     cases c<;>rfl
end
theorem Zal{c:Bool}{x y:DV}{p:PV}(h:EV (bif c then x else y) p):EV (C5 c x y) p:=by
 rcases Uv c x y with h1|h1
 . exact .inl h1
 . cases c with
   | true=>
     rcases h with h|h
     . simp only[Gw] at h;subst h;exact .inl (by cases y<;>rfl)
     . exact .inr (by rw[h1];exact h)
   | false=>
     rcases h with h|h
     . simp only[Gu] at h;subst h;exact .inl (by cases x<;>rfl)
     . exact .inr (by rw[h1];exact h)
theorem XH{c:Bool}:∀ {b x y:List DC} {p:List PV},Chg b x->Chg b y->x.length=y.length->EL (bif c then x else y) p->EL (QH c x y) p
 |_,[],[],p,_,_,_,h=>by cases c<;>exact h
 |_,[],_::_,_,_,_,h,_=>by cases h
 |_,_::_,[],_,_,_,h,_=>by cases h
 |b,x::a,y::e,[],_,_,_,h=>by cases c<;>exact h.elim
 | b,x::a,y::e,q::p,h1,h2,hl,h=>by
   have hr:∃ b',Chg b' a/\Chg b' e/\((x.d=true\/y.d=true)\/x=y):=by
    cases b with
    |nil=>exact⟨[],h1.2,h2.2,.inl (.inl h1.1)⟩
    | cons b0 b=>
      refine⟨b,h1.2,h2.2,?_⟩;rcases h1.1 with e1|e1
      . exact .inl (.inl e1)
      . rcases h2.1 with e2|e2
        . exact .inl (.inr e2)
        . exact .inr (e1.trans e2.symm)
   obtain⟨b',h3,h4,h5⟩:=hr;have ih:=XH (c:=c) (p:=p) h3 h4 (by simpa using hl) (by cases c<;>exact h.2);refine⟨?_,ih⟩
   have hv:EV (bif c then x.v else y.v) q:=by cases c<;>exact h.1
   unfold U1;split
   . exact Zal hv
   . rename_i hd;rcases h5 with h5|h5
     . exfalso;apply hd;rcases h5 with h5|h5<;>simp[h5]
     . subst h5;cases c<;>exact hv
theorem XA{c:Bool}:∀ {b x y:List (List DC)} {p:List (List PV)},ChgB b x->ChgB b y->x.length=y.length->EB (bif c then x else y) p->EB (QO c x y) p
 |_,[],[],p,_,_,_,h=>by cases c<;>exact h
 |_,[],_::_,_,_,_,h,_=>by cases h
 |_,_::_,[],_,_,_,h,_=>by cases h
 |b,x::a,y::e,[],_,_,_,h=>by cases c<;>exact h.elim
 | b,x::a,y::e,q::p,h1,h2,hl,h=>by
   have hr:∃ b0 b',Chg b0 x/\Chg b0 y/\ChgB b' a/\ChgB b' e:=by
    cases b with
    |nil=>exact⟨[],[],h1.1,h2.1,h1.2,h2.2⟩
    |cons b0 b=>exact⟨b0,b,h1.1,h2.1,h1.2,h2.2⟩
   obtain⟨b0,b',h3,h4,h5,h6⟩:=hr;have ih:=XA (c:=c) (p:=p) h5 h6 (by simpa using hl) (by cases c<;>exact h.2);refine⟨?_,ih⟩
   have hv:EBx (bif c then x else y) q:=by cases c<;>exact h.1
   split
   . rename_i hxy
     have hxy:x.length=y.length:=by simpa using hxy
     rcases hv with hv|hv
     . cases c
       . simp only[Gu] at hv;subst hv;have:x=[]:=Dc hxy;subst this;exact .inl rfl
       . simp only[Gw] at hv;subst hv;have:y=[]:=Dc hxy.symm;subst this;exact .inl rfl
     . exact .inr (XH h3 h4 hxy hv)
   . exact .inl rfl
theorem ZbR{c:Bool}{b x y z:DS}{s:PS}(hx:ChgS b x)(hy:ChgS b y)(h:MJ c x y=some z)(hs:ES (bif c then x else y) s):ES z s:=by
 unfold MJ at h;split at h
 . rename_i hl;simp only[Ai,A6] at hl;simp only[Am] at h;subst h;exact⟨XH hx.sl hy.sl hl.1.1 (by cases c<;>exact hs.sl),XA hx.bx hy.bx hl.1.2 (by cases c<;>exact hs.bx),XA hx.hp hy.hp hl.2 (by cases c<;>exact hs.hp)⟩
 . cases h
theorem PH{c:Bool}:∀ {b x y:List DC},Chg b x->Chg b y->Chg b (QH c x y)
 |b,[],_,_,_=>by cases b<;>trivial
 |b,_::_,[],_,_=>by cases b<;>trivial
 |[],x::a,y::e,h,h'=>⟨by simp[U1,h.1],PH h.2 h'.2⟩
 | b::_,x::a,y::e,h,h'=>by
   refine⟨?_,PH h.2 h'.2⟩
   unfold U1
   split
   . exact .inl rfl
   . exact h.1
theorem Tl{c:Bool}:∀ {b x y:List (List DC)},ChgB b x->ChgB b y->ChgB b (QO c x y)
 |b,[],_,_,_=>by cases b<;>trivial
 |b,_::_,[],_,_=>by cases b<;>trivial
 | [],x::a,y::e,h,h'=>by
   refine⟨?_,Tl h.2 h'.2⟩
   split
   . exact PH h.1 h'.1
   . trivial
 | b::_,x::a,y::e,h,h'=>by
   refine⟨?_,Tl h.2 h'.2⟩
   split
   . exact PH h.1 h'.1
   . cases b<;>trivial
theorem zI{c:Bool}{b x y z:DS}(hx:ChgS b x)(hy:ChgS b y)(h:MJ c x y=some z):ChgS b z:=by
 unfold MJ at h;split at h
 . simp only[Am] at h;subst h;exact⟨PH hx.sl hy.sl,Tl hx.bx hy.bx,Tl hx.hp hy.hp⟩
 . cases h
theorem PX.land_den:∀ (a b:PX),(a.land b).den↔a.den/\b.den
 |.tt,b=>by simp[PX.land,PX.den]
 |.ff,b=>by simp[PX.land,PX.den]
 |.p h,b=>by cases b<;>simp[PX.land,PX.den]
 |.and x y,b=>by cases b<;>simp[PX.land,PX.den]
 |.ite c x y,b=>by cases b<;>simp[PX.land,PX.den]
theorem PX.if_den(c:Bool)(a b:PX):(PX.if' c a b).den↔(c=true->a.den)/\(c=false->b.den):=by
 cases a<;>cases b<;>simp[PX.if',PX.den]
def AExit.isN:AExit->Bool
 |.normal=>true
 |_=>false
def DT.lf:DT->Option (AExit×DS)
 |.leaf e st=>some (e,st)
 |.node c a b=>(match c with|true=>a.lf|false=>b.lf)
 |.chk _ t=>t.lf
 |.bad=>none
def DT.All(P:DS->Prop):DT->Prop
 |.leaf _ st=>P st
 |.node _ a b=>a.All P/\b.All P
 |.chk _ t=>t.All P
 |.bad=>True
theorem DT.All.imp{P Q:DS->Prop}(h:∀ st,P st->Q st):∀ {t:DT},t.All P->t.All Q
 |.leaf _ _,a=>h _ a
 |.node _ _ _,a=>⟨DT.All.imp h a.1,DT.All.imp h a.2⟩
 |.chk _ t,a=>DT.All.imp h (t:=t) a
 |.bad,_=>trivial
theorem DT.ok_lf:∀ {t:DT},t.ok.den->∃ e st,t.lf=some (e,st)
 |.leaf e st,_=>⟨e,st,rfl⟩
 | .node c a b,h=>by
   have h:=(PX.if_den c a.ok b.ok).mp h
   cases c
   . exact DT.ok_lf (t:=b) (h.2 rfl)
   . exact DT.ok_lf (t:=a) (h.1 rfl)
 |.chk g t,h=>DT.ok_lf (t:=t) ((PX.land_den g t.ok).mp h).2
 |.bad,h=>h.elim
theorem DT.All.lf{P:DS->Prop}:∀ {t:DT} {e:AExit} {st:DS},t.All P->t.lf=some (e,st)->P st
 |.leaf e st,_,_,h,hl=>by simp only[DT.lf,Am,Ao] at hl;obtain⟨_,rfl⟩:=hl;exact h
 | .node c a b,_,_,h,hl=>by
   cases c
   . exact DT.All.lf (t:=b) h.2 hl
   . exact DT.All.lf (t:=a) h.1 hl
 |.chk g t,_,_,h,hl=>DT.All.lf (t:=t) h hl
 |.bad,_,_,_,hl=>by cases hl
theorem DT.norm_chg{b:DS}:∀ {t:DT} {m:DS},t.All (ChgS b)->t.norm= .some m->ChgS b m
 | .leaf e st,m,h,hn=>by
   cases e<;>simp only[DT.norm,reduceCtorEq,NS.some.injEq] at hn
   subst hn;exact h
 | .node c x y,m,h,hn=>by
   simp only[DT.norm] at hn
   cases h1:x.norm with
   |none=>rw[h1] at hn;exact DT.norm_chg h.2 hn
   | fail=>
     rw[h1] at hn
     cases h2:y.norm<;>rw[h2] at hn<;>cases hn
   | some a=>
     rw[h1] at hn
     cases h2:y.norm with
     |none=>rw[h2] at hn;exact DT.norm_chg h.1 (h1.trans hn)
     |fail=>rw[h2] at hn;cases hn
     | some e=>
       rw[h2] at hn
       simp only at hn
       cases h3:MJ c a e with
       |none=>rw[h3] at hn;cases hn
       | some z=>
         rw[h3] at hn
         simp only[NS.some.injEq] at hn
         subst hn
         exact zI (DT.norm_chg h.1 h1) (DT.norm_chg h.2 h2) h3
 |.chk g t,m,h,hn=>DT.norm_chg (t:=t) h hn
 |.bad,m,h,hn=>by cases hn
theorem DT.norm_none:∀ {t:DT} {e:AExit} {st:DS},t.norm= .none->t.lf=some (e,st)->e.isN=false
 | .leaf e st,_,_,hn,hl=>by
   simp only[DT.lf,Am,Ao] at hl;obtain⟨rfl,_⟩:=hl
   cases e<;>first|rfl|cases hn
 | .node c x y,e,st,hn,hl=>by
   simp only[DT.norm] at hn
   have hxy:x.norm= .none/\y.norm= .none:=by
    cases h1:x.norm<;>rw[h1] at hn<;>cases h2:y.norm<;>rw[h2] at hn<;>first|exact⟨rfl,rfl⟩|(cases hn;done)|(simp only at hn;split at hn<;>cases hn)
   cases c
   . exact DT.norm_none hxy.2 hl
   . exact DT.norm_none hxy.1 hl
 |.chk g t,_,_,hn,hl=>DT.norm_none (t:=t) hn hl
 |.bad,_,_,_,hl=>by cases hl
theorem DT.norm_s{b:DS}:∀ {t:DT} {m st:DS} {s:PS},t.All (ChgS b)->t.norm= .some m->t.lf=some (.normal,st)->ES st s->ES m s
 | .leaf e st0,m,st,s,h,hn,hl,hs=>by
   simp only[DT.lf,Am,Ao] at hl
   obtain⟨rfl,rfl⟩:=hl
   simp only[DT.norm,NS.some.injEq] at hn
   subst hn;exact hs
 | .node c x y,m,st,s,h,hn,hl,hs=>by
   simp only[DT.norm] at hn
   cases h1:x.norm with
   | none=>
     rw[h1] at hn
     cases c with
     |true=>have:=DT.norm_none h1 hl;cases this
     |false=>exact DT.norm_s h.2 hn hl hs
   | fail=>
     rw[h1] at hn
     cases h2:y.norm<;>rw[h2] at hn<;>cases hn
   | some a=>
     rw[h1] at hn
     cases h2:y.norm with
     | none=>
       rw[h2] at hn
       cases c with
       |true=>exact DT.norm_s h.1 (h1.trans hn) hl hs
       |false=>have:=DT.norm_none h2 hl;cases this
     |fail=>rw[h2] at hn;cases hn
     | some e=>
       rw[h2] at hn
       simp only at hn
       cases h3:MJ c a e with
       |none=>rw[h3] at hn;cases hn
       | some z=>
         rw[h3] at hn
         simp only[NS.some.injEq] at hn
         subst hn
         refine ZbR (DT.norm_chg h.1 h1) (DT.norm_chg h.2 h2) h3 ?_
         cases c with
         |true=>exact DT.norm_s h.1 h1 hl hs
         |false=>exact DT.norm_s h.2 h2 hl hs
 |.chk g t,m,st,s,h,hn,hl,hs=>DT.norm_s (t:=t) h hn hl hs
 |.bad,m,st,s,h,hn,hl,hs=>by cases hl
theorem DT.cont_s:∀ {t:DT} {b:BX} {e:AExit} {st:DS},t.cont=some b->t.lf=some (e,st)->b.b=e.isN
 | .leaf e st0,b,e',st,hc,hl=>by
   simp only[DT.lf,Am,Ao] at hl;obtain⟨rfl,_⟩:=hl;cases e<;>simp only[DT.cont,Am] at hc<;>subst hc<;>rfl
 | .node c x y,b,e,st,hc,hl=>by
   have hno:∀ {t:DT},t.cont=none->t.lf=none:=by
    intro t
    induction t with
    |leaf e st=>intro h;cases e<;>cases h
    | node c x y ih1 ih2=>
      intro h;simp only[DT.cont] at h
      cases h1:x.cont<;>rw[h1] at h<;>cases h2:y.cont<;>rw[h2] at h<;>first|(cases h;done)|skip
      cases c
      . exact ih2 h2
      . exact ih1 h1
    |chk g t ih=>intro h;exact ih h
    |bad=>intro _;rfl
   simp only[DT.cont] at hc
   cases h1:x.cont with
   | none=>
     rw[h1] at hc
     cases c with
     |true=>simp only[DT.lf,hno h1] at hl;cases hl
     |false=>exact DT.cont_s hc hl
   | some p=>
     rw[h1] at hc
     cases h2:y.cont with
     | none=>
       rw[h2] at hc
       cases c with
       |true=>exact DT.cont_s (h1.trans hc) hl
       |false=>simp only[DT.lf,hno h2] at hl;cases hl
     | some q=>
       rw[h2] at hc;simp only[Am] at hc;subst hc;rw[gR]
       cases c with
       |true=>exact DT.cont_s h1 hl
       |false=>exact DT.cont_s h2 hl
 |.chk g t,b,e,st,hc,hl=>DT.cont_s (t:=t) hc hl
 |.bad,b,e,st,hc,hl=>by cases hl
theorem DT.cont_none:∀ {t:DT},t.cont=none->t.lf=none
 |.leaf e st,h=>by cases e<;>cases h
 | .node c x y,h=>by
   simp only[DT.cont] at h
   cases h1:x.cont<;>rw[h1] at h<;>cases h2:y.cont<;>rw[h2] at h<;>first|(cases h;done)|skip
   cases c
   . exact DT.cont_none (t:=y) h2
   . exact DT.cont_none (t:=x) h1
 |.chk g t,h=>DT.cont_none (t:=t) h
 |.bad,_=>rfl
theorem DT.drop_lf:∀ {t:DT} {e:AExit} {st:DS},t.lf=some (e,st)->e.isN=false->t.drop.lf=some (e,st)
 | .leaf e st0,e',st,hl,he=>by
   simp only[DT.lf,Am,Ao] at hl;obtain⟨rfl,rfl⟩:=hl
   cases e<;>first|rfl|cases he
 | .node c x y,e,st,hl,he=>by
   have hnb:∀ a b:DT,(DT.nodeB c a b).lf=some (e,st)\/(match c with|true=>a.lf|false=>b.lf)≠some (e,st):=by
    intro a b
    cases c with
    | true=>
      cases ha:a with
      |bad=>right;simp[DT.lf]
      | _=>
        rw[<- ha];by_cases h:a.lf=some (e,st)
        . left;cases hb:b<;>rw[ha] at h ⊢<;>exact h
        . right;exact h
    | false=>
      cases hb:b with
      |bad=>right;simp[DT.lf]
      | _=>
        rw[<- hb];by_cases h:b.lf=some (e,st)
        . left;cases ha:a<;>rw[hb] at h ⊢<;>exact h
        . right;exact h
   simp only[DT.drop];rcases hnb x.drop y.drop with h|h
   . exact h
   . exfalso;apply h
     cases c with
     |true=>exact DT.drop_lf (t:=x) hl he
     |false=>exact DT.drop_lf (t:=y) hl he
 |.chk g t,e,st,hl,he=>DT.drop_lf (t:=t) hl he
 |.bad,e,st,hl,he=>by cases hl
theorem DT.drop_all{P:DS->Prop}:∀ {t:DT},t.All P->t.drop.All P
 |.leaf e st,h=>by cases e<;>first|trivial|exact h
 | .node c x y,h=>by
   have h1:=DT.drop_all h.1
   have h2:=DT.drop_all h.2
   simp only[DT.drop]
   cases hx:x.drop<;>cases hy:y.drop<;>rw[hx] at h1<;>rw[hy] at h2<;>first|trivial|exact h1|exact h2|exact⟨h1,h2⟩
 |.chk g t,h=>DT.drop_all (t:=t) h
 |.bad,_=>trivial
theorem DT.map_lf(f:DS->DS):∀ (t:DT),(t.map f).lf=t.lf.map λ x=>(x.1,f x.2)
 |.leaf _ _=>rfl
 | .node c a b=>by
   cases c
   . exact DT.map_lf f b
   . exact DT.map_lf f a
 |.chk _ t=>DT.map_lf f t
 |.bad=>rfl
theorem DT.map_ok(f:DS->DS):∀ (t:DT),(t.map f).ok=t.ok
 |.leaf _ _=>rfl
 |.node c a b=>by simp only[DT.map,DT.ok,DT.map_ok f a,DT.map_ok f b]
 |.chk _ t=>by simp only[DT.map,DT.ok,DT.map_ok f t]
 |.bad=>rfl
theorem DT.map_all{P Q:DS->Prop}{f:DS->DS}(h:∀ st,P st->Q (f st)):∀ {t:DT},t.All P->(t.map f).All Q
 |.leaf _ _,a=>h _ a
 |.node _ _ _,a=>⟨DT.map_all h a.1,DT.map_all h a.2⟩
 |.chk _ t,a=>DT.map_all h (t:=t) a
 |.bad,_=>trivial
theorem DT.unexit_ok(i:Nat):∀ (t:DT),(t.unexit i).ok=t.ok
 | .leaf e st=>by
   cases e<;>first|rfl|skip
   simp only[DT.unexit];split<;>rfl
 |.node c a b=>by simp only[DT.unexit,DT.ok,DT.unexit_ok i a,DT.unexit_ok i b]
 |.chk _ t=>by simp only[DT.unexit,DT.ok,DT.unexit_ok i t]
 |.bad=>rfl
def AExit.un(i:Nat):AExit->AExit
 |.exit j=>if j=i then .normal else .exit j
 |e=>e
theorem DT.unexit_lf(i:Nat):∀ (t:DT),(t.unexit i).lf=t.lf.map λ x=>(x.1.un i,x.2)
 | .leaf e st=>by
   cases e<;>first|rfl|skip
   rename_i j
   simp only[DT.unexit,DT.lf,B5,AExit.un]
   by_cases h:j=i
   . rw[Ac (by simpa using h),Ac h];rfl
   . rw[Af (by simpa using h),Af h];rfl
 | .node c a b=>by
   cases c
   . exact DT.unexit_lf i b
   . exact DT.unexit_lf i a
 |.chk _ t=>DT.unexit_lf i t
 |.bad=>rfl
theorem DT.unexit_all{P:DS->Prop}(i:Nat):∀ {t:DT},t.All P->(t.unexit i).All P
 | .leaf e st,a=>by
   cases e<;>first|exact a|skip
   simp only[DT.unexit];split<;>exact a
 |.node _ _ _,a=>⟨DT.unexit_all i a.1,DT.unexit_all i a.2⟩
 |.chk _ t,a=>DT.unexit_all i (t:=t) a
 |.bad,_=>trivial
theorem DT.chk_ok(g:PX)(t:DT):(DT.chk' g t).ok.den↔g.den/\t.ok.den:=by
 cases g<;>simp only[DT.chk',DT.ok,PX.land_den,PX.den,Gp]
theorem DT.chk_lf(g:PX)(t:DT):(DT.chk' g t).lf=t.lf:=by cases g<;>rfl
theorem DT.chk_all{P:DS->Prop}(g:PX){t:DT}(h:t.All P):(DT.chk' g t).All P:=by cases g<;>exact h
theorem DT.bind_s{f:DS->DT}{h:DS->DS}:∀ {t:DT} {e:AExit} {st:DS},(t.bind f h).ok.den->(t.bind f h).lf=some (e,st) ->
 t.ok.den/\((∃ st0,t.lf=some (.normal,st0)/\(f st0).ok.den/\(f st0).lf=some (e,st))\/(e.isN=false/\∃ st0,t.lf=some (e,st0)/\st=h st0))
 | .leaf e0 st0,e,st,ho,hl=>by
   cases e0 with
   |normal=>exact⟨trivial,.inl ⟨st0,rfl,ho,hl⟩⟩
   | ret=>
     simp only[DT.bind,DT.lf,Am,Ao] at hl
     obtain⟨rfl,rfl⟩:=hl
     exact⟨trivial,.inr ⟨rfl,st0,rfl,rfl⟩⟩
   | exit i=>
     simp only[DT.bind,DT.lf,Am,Ao] at hl
     obtain⟨rfl,rfl⟩:=hl
     exact⟨trivial,.inr ⟨rfl,st0,rfl,rfl⟩⟩
 | .node c a b,e,st,ho,hl=>by
   have ho:=(PX.if_den c _ _).mp ho
   cases c with
   | true=>
     obtain⟨h1,h2⟩:=DT.bind_s (t:=a) (ho.1 rfl) hl
     exact⟨(PX.if_den _ _ _).mpr ⟨λ _=>h1,λ h=>by cases h⟩,h2⟩
   | false=>
     obtain⟨h1,h2⟩:=DT.bind_s (t:=b) (ho.2 rfl) hl
     exact⟨(PX.if_den _ _ _).mpr ⟨λ h=>(by cases h),λ _=>h1⟩,h2⟩
 | .chk g t,e,st,ho,hl=>by
   have ho:=(PX.land_den g _).mp ho
   obtain⟨h1,h2⟩:=DT.bind_s (t:=t) ho.2 hl
   exact⟨(PX.land_den _ _).mpr ⟨ho.1,h1⟩,h2⟩
 |.bad,e,st,ho,hl=>ho.elim
theorem DT.bind_all{P Q:DS->Prop}{f:DS->DT}{h:DS->DS}(hf:∀ st,P st->(f st).All Q)(hh:∀ st,P st->Q (h st)):∀ {t:DT},t.All P->(t.bind f h).All Q
 |.leaf e st,a=>by cases e<;>first|exact hf _ a|exact hh _ a
 |.node _ _ _,a=>⟨DT.bind_all hf hh a.1,DT.bind_all hf hh a.2⟩
 |.chk _ t,a=>DT.bind_all hf hh (t:=t) a
 |.bad,_=>trivial
theorem DT.then_s{b:DS}{f:DS->DT}{h:DS->DS}{t:DT}{e:AExit}{st:DS}(hb:t.All (ChgS b))(ho:(t.then f h).ok.den)(hl:(t.then f h).lf=some (e,st)) :
 t.ok.den/\((∃ st0 m,t.lf=some (.normal,st0)/\(∀ s,ES st0 s->ES m s)/\ChgS b m/\(f m).ok.den/\(f m).lf=some (e,st))\/(e.isN=false/\∃ st0,t.lf=some (e,st0)/\st=h st0)):=by
 have viaBind:(t.bind f h).ok.den->(t.bind f h).lf=some (e,st)->t.ok.den/\((∃ st0 m,t.lf=some (.normal,st0)/\(∀ s,ES st0 s->ES m s)/\ChgS b m/\(f m).ok.den/\(f m).lf=some (e,st))\/(e.isN=false/\∃ st0,t.lf=some (e,st0)/\st=h st0)):=λ ho hl=>by
  obtain⟨h1,h2⟩:=DT.bind_s ho hl;refine⟨h1,h2.imp ?_ id⟩;rintro⟨st0,h3,h4,h5⟩;exact⟨st0,st0,h3,λ _ h=>h,hb.lf h3,h4,h5⟩
 unfold DT.then at ho hl
 split at ho
 . rename_i hn
   rw[Ac hn] at hl;exact viaBind ho hl
 . rename_i hn
   rw[Af hn] at hl
   cases hm:t.norm with
   |none=>rw[hm] at ho hl;exact viaBind ho hl
   |fail=>rw[hm] at ho hl;exact viaBind ho hl
   | some m=>
     rw[hm] at ho hl;simp only[DT.chk_ok,DT.chk_lf] at ho hl;obtain⟨ho1,ho2⟩:=ho;refine⟨ho1,?_⟩;obtain⟨e0,st0,h0⟩:=DT.ok_lf ho1
     have nrm:e0.isN=true->(f m).ok.den->(f m).lf=some (e,st)->((∃ st0 m,t.lf=some (.normal,st0)/\(∀ s,ES st0 s->ES m s)/\ChgS b m/\(f m).ok.den/\(f m).lf=some (e,st))\/(e.isN=false/\∃ st0,t.lf=some (e,st0)/\st=h st0)):=λ he h1 h2=>by
      have he:e0= .normal:=by cases e0<;>first|rfl|cases he
      subst he;exact .inl ⟨st0,m,h0,λ s hs=>DT.norm_s hb hm h0 hs,DT.norm_chg hb hm,h1,h2⟩
     cases hc:t.cont with
     |none=>rw[hc] at ho2;exact ho2.elim
     | some c=>
       have hcs:=DT.cont_s hc h0
       cases c with
       | lit c=>
         cases c with
         |false=>rw[hc] at ho2;exact ho2.elim
         | true=>
           rw[hc] at ho2 hl;exact nrm hcs.symm ho2 hl
       | dyn c=>
         rw[hc] at ho2 hl;simp only[BX.b] at hcs;subst hcs;have ho2:=(PX.if_den _ _ _).mp ho2
         cases he:e0.isN with
         | true=>
           rw[he] at hl;exact nrm he (ho2.1 he) hl
         | false=>
           rw[he] at hl;simp only[DT.lf,DT.map_lf,DT.drop_lf h0 he,B5,Am,Ao] at hl;obtain⟨rfl,rfl⟩:=hl;exact .inr ⟨he,st0,h0,rfl⟩
theorem DT.then_all{b:DS}{Q:DS->Prop}{f:DS->DT}{h:DS->DS}{t:DT}(hb:t.All (ChgS b))(hf:∀ st,ChgS b st->(f st).All Q)(hh:∀ st,ChgS b st->Q (h st)):(t.then f h).All Q:=by
 unfold DT.then;split
 . exact DT.bind_all hf hh hb
 . cases hm:t.norm with
   |none=>exact DT.bind_all hf hh hb
   |fail=>exact DT.bind_all hf hh hb
   | some m=>
     have h1:=hf m (DT.norm_chg hb hm);refine DT.chk_all _ ?_
     cases hc:t.cont with
     |none=>trivial
     | some c=>
       cases c with
       |lit c=>cases c<;>first|trivial|exact h1
       |dyn c=>exact⟨h1,DT.map_all hh (DT.drop_all hb)⟩
theorem xa(v:DV):v.enc.isAgg=v.isAgg:=by cases v<;>rfl
theorem cO{v:DV}(h:v.flatc=true):v.enc.flatc=true/\∀ q es,v.enc≠.sl q es:=by cases v<;>first|(cases h;done)|exact⟨rfl,λ _ _ h=>(by cases h)⟩
theorem x7{s:PS}{hd:Hd}{c:Nat}{v:PV}{os as:List PV}(h:v.flatc=true)(hr:HB s hd (c+1) os as):HB s hd c (v::os) (v::as):=by
 cases v<;>first|exact⟨rfl,h,hr⟩|(cases h;done)
theorem KZ{d:DS}{s:PS}(hs:ES d s){hd:Hd}:∀ (vs:List DV) (c:Nat) {g:PX} {os:List DV},D9 d hd c vs=some (g,os)->g.den->HB s hd c (DV.encL os) (DV.encL vs)
 | [],c,g,os,h,_=>by
   simp only[D9,Am,Ao] at h;rw[<- h.2];trivial
 | v :: vs,c,g,os,h,hg=>by
   have flat:v.flatc=true->(match D9 d hd (c+1) vs with|some (g,os)=>some (g,v::os)|none=>none)=some (g,os)->HB s hd c (DV.encL os) (DV.encL (v::vs)):=by
    intro hf h
    cases h1:D9 d hd (c+1) vs with
    |none=>rw[h1] at h;cases h
    | some r=>
      obtain⟨g1,os1⟩:=r;rw[h1] at h;simp only[Am,Ao] at h;obtain⟨rfl,rfl⟩:=h;exact x7 (cO hf).1 (KZ hs vs (c+1) h1 hg)
   have flat':(if v.flatc=true then (match D9 d hd (c+1) vs with|some (g,os)=>some (g,v::os)|none=>none) else none)=some (g,os)->HB s hd c (DV.encL os) (DV.encL (v::vs)):=by
    intro h;split at h
    . exact flat (by assumption) h
    . cases h
   cases v with
   | sl q r l=>
     simp only[D9] at h;split at h
     . rename_i hq
       have hq:q= .bor hd [c] true:=by simpa [Dw] using hq
       subst hq
       cases h1:D9 d hd (c+1) vs with
       |none=>rw[h1] at h;split at h<;>simp_all
       | some r=>
         obtain⟨g1,os1⟩:=r;rw[h1] at h
         have hk:BN d hd [c]≠.any:=by intro e;rw[e] at h;cases h
         have ek:=Gm hs hd [c] hk;split at h
         . rename_i r' l' g2 os2 e1 e2;simp only[Am,Ao] at h e2;obtain⟨rfl,rfl⟩:=h;obtain⟨rfl,rfl⟩:=e2;have hg:=(PX.land_den _ _).mp hg;have hl:l.length=l'.length:=hg.1;refine⟨rfl,⟨.own,by rw[ek,e1];rfl,_,.inl ⟨rfl,rfl⟩,?_⟩,KZ hs vs (c+1) h1 hg.2⟩;rw[Ba,Ba];exact hl
         . rename_i g2 os2 e1 e2;simp only[Am,Ao] at h e2;obtain⟨rfl,rfl⟩:=h;obtain⟨rfl,rfl⟩:=e2;have hg:=(PX.land_den _ _).mp hg;have hl:l.length=0:=hg.1;refine⟨rfl,⟨.own,by rw[ek,e1];rfl,_,.inl ⟨rfl,rfl⟩,?_⟩,KZ hs vs (c+1) h1 hg.2⟩;rw[Ba];exact hl
         . cases h
     . split at h
       . rename_i hq
         have hq:q= .pre hd [c]:=by simpa [Dw] using hq
         subst hq
         cases h1:D9 d hd (c+1) vs with
         |none=>rw[h1] at h;split at h<;>simp_all
         | some r=>
           obtain⟨g1,os1⟩:=r;rw[h1] at h
           have hk:BN d hd [c]≠.any:=by intro e;rw[e] at h;cases h
           have ek:=Gm hs hd [c] hk;split at h
           . rename_i w r' l' g2 os2 e1 e2;simp only[Am,Ao] at h e2;obtain⟨rfl,rfl⟩:=h;obtain⟨rfl,rfl⟩:=e2;have hg:=(PX.land_den _ _).mp hg;have hl:l.length=l'.length:=hg.1;refine⟨rfl,⟨.ownw w,by rw[ek,e1];rfl,_,.inr ⟨⟨w,rfl⟩,rfl⟩,?_⟩,KZ hs vs (c+1) h1 hg.2⟩;rw[Ba,Ba];exact hl
           . cases h
       . cases h
   | nil q=>
     simp only[D9] at h;split at h
     . rename_i hq
       have hq:q= .bor hd [c] true:=by simpa [Dw] using hq
       subst hq
       cases h1:D9 d hd (c+1) vs with
       |none=>rw[h1] at h;split at h<;>simp_all
       | some r=>
         obtain⟨g1,os1⟩:=r;rw[h1] at h
         have hk:BN d hd [c]≠.any:=by intro e;rw[e] at h;cases h
         have ek:=Gm hs hd [c] hk;split at h
         . rename_i r' l' g2 os2 e1 e2;simp only[Am,Ao] at h e2;obtain⟨rfl,rfl⟩:=h;obtain⟨rfl,rfl⟩:=e2;have hg:=(PX.land_den _ _).mp hg;have hl:l'.length=0:=hg.1;refine⟨rfl,⟨.own,by rw[ek,e1];rfl,_,.inl ⟨rfl,rfl⟩,?_⟩,KZ hs vs (c+1) h1 hg.2⟩;rw[Ba];exact hl.symm
         . rename_i g2 os2 e1 e2;simp only[Am,Ao] at h e2;obtain⟨rfl,rfl⟩:=h;obtain⟨rfl,rfl⟩:=e2;exact⟨rfl,⟨.own,by rw[ek,e1];rfl,_,.inl ⟨rfl,rfl⟩,rfl⟩,KZ hs vs (c+1) h1 hg⟩
         . cases h
     . cases h
   |_=>exact flat' h
def DV.flag:List DV->Prop
 |[]=>True
 |.sl q _ _::r=>q= .own/\DV.flag r
 |_::r=>DV.flag r
theorem XR:∀ (r:RT) (x:r.D),r.pl=true->DV.flag (r.dv .own x)
 |.one t,x,h=>by cases t<;>first|trivial|(cases h;done)|exact⟨rfl,trivial⟩
 | .cons t r,x,h=>by
   rw[RT.pl,Ai] at h
   obtain⟨h,h2⟩:=h
   cases t<;>first|(cases h;done)|exact⟨rfl,XR r x.2 h2⟩|exact XR r x.2 h2
theorem Qv{hd:Hd}{D':DS}{K:PS->Prop}(hK:∀ s',ES D' s'->K s'):∀ (vs:List DV) (c:Nat) {d:DS} {s:PS},ES d s->HA hd c vs d=some D'->DV.flag vs->MG hd c (DV.encL vs) K s
 | [],c,d,s,hs,h,_=>by
   simp only[HA,Am] at h;subst h;exact hK _ hs
 | v :: vs,c,d,s,hs,h,hf=>by
   cases v with
   | sl q r l=>
     simp only[HA] at h
     have hk:BN d hd [c]≠.any:=by intro e;rw[e] at h;cases h
     have ek:=Gm hs hd [c] hk;obtain⟨rfl,hf⟩:=hf;split at h
     . rename_i e1;exact⟨.own,_,rfl,by rw[ek,e1];rfl,Qv hK vs (c+1) (Ku hs hd [c] (.sl .own r l) hk) h hf⟩
     . rename_i e1;exact⟨.own,_,rfl,by rw[ek,e1];rfl,Qv hK vs (c+1) (Ku hs hd [c] (.sl .own r l) hk) h hf⟩
     . rename_i w _ _ e1;exact⟨.ownw w,_,rfl,by rw[ek,e1];rfl,Qv hK vs (c+1) (Ku hs hd [c] (.sl (.ownw w) r l) hk) h hf⟩
     . cases h
   |nil q=>cases h
   |_=>exact Qv hK vs (c+1) hs h hf
theorem Xn:∀ (r:RT) (x y:r.D),r.pl=true->Ln (RT.enc r x) (RT.enc r y)
 |.one t,x,y,h=>by cases t<;>first|(cases h;done)|exact⟨⟨_,rfl⟩,trivial⟩|exact⟨λ _ _ h=>(by cases h),trivial⟩
 | .cons t r,x,y,h=>by
   rw[RT.pl,Ai] at h
   obtain⟨h,h2⟩:=h
   cases t<;>first|(cases h;done)|exact⟨⟨_,rfl⟩,Xn r x.2 y.2 h2⟩|exact⟨λ _ _ h=>(by cases h),Xn r x.2 y.2 h2⟩
theorem eR:∀ {vs:List DV} {c:Nat} {hd:Hd} {b:Nat},UP c vs=some (hd,b)->hd.sb=true
 |[],_,_,_,h=>by cases h
 | v :: vs,c,hd,b,h=>by
   unfold UP at h
   split at h
   . cases h
   . split at h
     . rename_i hc
       simp only[Ai] at hc
       simp only[Am,Ao] at h
       rw[<- h.1];exact hc.2
     . cases h
   . split at h
     . rename_i hc
       simp only[Ai] at hc
       simp only[Am,Ao] at h
       rw[<- h.1];exact hc.2
     . cases h
   . rename_i h1;cases h1;exact eR h
theorem Zbe {d d1:DS}{s:PS}(hs:ES d s){M:DMk}{x y:Opnd}{g:PX}{v:DV}(h:My M x y d=some (g,v,d1))(hg:g.den){dst:Option Nat}{k:PS->Prop}(hk:∀ s',ES d1 s'->k (s'.put dst v.enc)):YL M.P x y dst k s:=by
 unfold My at h;split at h
 . rename_i m hm;split at h
   . rename_i hc;simp only[Ai] at hc;obtain⟨hc,hpl⟩:=hc;split at h
     . rename_i hd b hh;split at h
       . rename_i g1 os ho;split at h
         . rename_i z hz;split at h
           . rename_i st' hS;simp only[Am,Ao] at h;obtain⟨rfl,rfl,rfl⟩:=h;have hg:=(PX.land_den _ _).mp hg
             have hy:y.pev s.sl= .fl (.int .i64 m):=by
              have:=y.dev_ev hs;rw[hm] at this;exact this.of (by simp)
             have hx:x.pev s.sl=(x.dev d.sl).enc:=(x.dev_ev hs).of (by intro e;rw[e] at hc;cases hc.2);refine⟨m,hd,b,M.r.enc z,hy,?_,eR hh,?_,?_,⟨z,rfl,hg.2,Xn _ _ _ hpl,?_⟩⟩
             . rw[hx,xa];exact eq_of_beq hc.1
             . rw[hx];exact Wy _ hc.2
             . rw[hx,KA,<- QL hz];exact KZ hs _ b ho hg.1
             . rw[<- Ym];have hP:M.P.vd=M.vd:=rfl;refine Qv (λ s' hs'=>?_) _ b hs hS (XR _ _ hpl);have h:=hk s' hs';rw[hP]
               cases hvd:M.vd with
               |true=>rw[hvd] at h;exact h
               |false=>rw[hvd] at h;exact h
           . cases h
         . cases h
       . cases h
     . cases h
   . cases h
 . cases h
theorem PW{hd:Hd}{D':DS}:∀ (vs:List DV) (c:Nat) {d:DS},HA hd c vs d=some D'->ChgS d D'
 | [],c,d,h=>by
   simp only[HA,Am] at h
   subst h;exact ChgS.refl _
 | v :: vs,c,d,h=>by
   cases v with
   | sl q r l=>
     simp only[HA] at h
     split at h
     . exact(ChgS.setK _ _ _ _).trans (PW vs _ h)
     . exact(ChgS.setK _ _ _ _).trans (PW vs _ h)
     . exact(ChgS.setK _ _ _ _).trans (PW vs _ h)
     . cases h
   |nil q=>cases h
   |_=>exact PW vs _ h
theorem yd{d d1:DS}{M:DMk}{x y:Opnd}{g:PX}{v:DV}(h:My M x y d=some (g,v,d1)):ChgS d d1:=by
 unfold My at h
 repeat' split at h
 all_goals first|(cases h;done)|skip
 all_goals
  simp only[Am,Ao] at h
  obtain⟨_,_,rfl⟩:=h
  exact PW _ _ (by assumption)
theorem gJ:∀ {t:CT} {v:DV} {x:t.D},t.ofA v=some x->v.enc.fz=(t.enc x).fz
 | .int k,.int k' n,x,h=>by
   have h:(if k=k' then some n else none)=some x:=h
   by_cases hk:k=k'
   . rw[Ac hk] at h;cases h;subst hk;rfl
   . rw[Af hk] at h;cases h
 |.bool,.bool b,x,h=>by cases h;rfl
 |.str,.str s,x,h=>by cases h;rfl
 |.ifc,.ifc b,x,h=>by cases h;rfl
 |.sl r,.nil q,x,h=>by cases h;rfl
 | .sl r,.sl q r' l,x,h=>by
   have h:GH (r':=r') (r:=r) l=some x:=h
   obtain⟨rfl,h⟩:=LW h
   show PV.sl .frz _=PV.sl .frz _
   rw[h]
 |.slf r,.nil q,x,h=>by cases h;rfl
 | .slf r,.sl q r' l,x,h=>by
   have h:GH (r':=r') (r:=r) l=some x:=h
   obtain⟨rfl,h⟩:=LW h
   show PV.sl .frz _=PV.sl .frz _
   rw[h]
theorem gq:∀ {r:RT} {vs:List DV} {x:r.D},r.ofA vs=some x->PV.fzL (DV.encL vs)=PV.fzL (RT.enc r x)
 |.one t,[v],x,h=>by simp only[DV.encL,RT.enc,PV.fzL,gJ (t:=t) h]
 | .cons t r,v::vs,x,h=>by
   have h':(match t.ofA v,r.ofA vs with|some x,some y=>some (x,y)|_,_=>none)=some x:=h
   split at h'
   . rename_i a b h1 h2
     cases h'
     simp only[DV.encL,RT.enc,PV.fzL,gJ h1,gq h2]
   . cases h'
theorem Zae{r:RT}{l:List r.D}{idx:List Nat}(h:∀ i∈idx,i<l.length):idx.map (Bb (l.map (RT.enc r)))=(idx.map λ i=>l.getD i r.dflt).map (RT.enc r):=by
 rw[List.map_map]
 exact List.map_congr_left λ i hi=>JL r l i (h i hi)
theorem Zb7{d d1:DS}{s:PS}(hs:ES d s){M:DTk}{x y:Opnd}{g:PX}{v:DV}(h:MW M x y d=some (g,v,d1))(hg:g.den){dst:Option Nat}{k:PS->Prop}(hk:∀ s',ES d1 s'->k (s'.put dst v.enc)):Zb M.P x y dst k s:=by
 unfold MW at h;split at h
 . rename_i t cs hx;split at h
   . rename_i l0 a hl ha;obtain⟨l,rfl⟩:∃ l:List M.row.D,l=l0:=⟨l0,rfl⟩;split at h
     . rename_i hc;simp only[Ai,BJ] at hc;simp only[Am,Ao] at h;obtain⟨rfl,rfl,rfl⟩:=h;obtain⟨⟨h1,h2⟩,h3⟩:=hc;have hok:M.ok a l:=hg;obtain⟨p1,p2,p3⟩:=M.law a l hok
       have ex:x.pev s.sl=(DV.agg cs).enc:=by
        have:=x.dev_ev hs;rw[hx] at this;exact this.of (by simp)
       have ey:Aa s.sl t= .sl .own (l.map (RT.enc M.row)):=by
        have h0:=(Opnd.t t).dev_ev hs
        have hn:Bf d.sl t≠.any:=by intro e;rw[e] at hl;cases hl
        rw[show Aa s.sl t=(Bf d.sl t).enc from h0.of hn,YG hl];rfl
       refine⟨t,_,rfl,ey,by rw[ex];exact Wy _ h1,by rw[ex,PC];exact h2,(He _ _).2 λ e he=>?_,CR h3,⟨a,l,?_,rfl,hok,⟨p1,λ i hi=>by rw[Ba];exact p2 i hi⟩,?_⟩⟩
       . obtain⟨z,_,rfl⟩:=List.mem_map.1 he;exact JW M.row z
       . rw[ex];show PV.nrm (.agg (PV.fzL (DV.encL cs)))=PV.nrm (.agg (PV.fzL (RT.enc M.ra a)));rw[gq ha]
       . have e1:(DV.sl .own M.row (M.val a l)).enc= .sl .own ((M.sel a l).map (Bb (l.map (RT.enc M.row)))):=by
          show PV.sl .own ((M.val a l).map (RT.enc M.row))=_;rw[Zae p2,p3]
         rw[<- e1];exact hk _ ⟨(hs.sl.put t (.inl rfl)).clr _,hs.bx,hs.hp⟩
     . cases h
   . cases h
 . cases h
theorem Zas{d d1:DS}{M:DTk}{x y:Opnd}{g:PX}{v:DV}(h:MW M x y d=some (g,v,d1)):ChgS d d1:=by
 unfold MW at h
 repeat' split at h
 all_goals first|(cases h;done)|skip
 simp only[Am,Ao] at h;obtain⟨_,_,rfl⟩:=h;exact⟨(Chg.put _ _ _).trans (Chg.clr _ _),ChgB.refl _,ChgB.refl _⟩
theorem ZaT{v:DV}{r:Hd×Nat}(h:v.hld=some r):v≠.any/\v.enc.hld=some r:=by
 cases v<;>first|(cases h;done)|exact⟨by simp,h⟩
theorem yR{a:DV}{n:Nat}{d d1:DS}{s:PS}{g:PX}{v:DV}(hs:ES d s)(h:Ms a n d=some (g,v,d1))(hg:g.den):∃ s1,UG a.enc n s=some s1/\ES d1 s1:=by
 unfold Ms at h;split at h
 . rename_i i o;obtain⟨s1,e1,e2⟩:=V1 (p:=.box i o) hs (.inr rfl) h;refine⟨s1,?_,e2⟩;show (Hi true i (some n) (.box i o) s).map (·.2)=some s1;rw[e1];rfl
 . rename_i i o;obtain⟨s1,e1,e2⟩:=V2 (p:=.ptr i o) hs (.inr rfl) h hg;refine⟨s1,?_,e2⟩;show (Hn true (some n) (.ptr i o) s).map (·.2)=some s1;rw[e1];rfl
 . cases h
theorem vV{a:DV}{n:Nat}{d d1:DS}{g:PX}{v:DV}(h:Ms a n d=some (g,v,d1)):ChgS d d1:=by
 unfold Ms at h;split at h
 . exact cf h
 . exact bO h
 . cases h
theorem L8{d:DS}{s:PS}(hs:ES d s){hd:Hd}:∀ (vs:List DV) (c:Nat) {ns:List DV},J1 d hd c vs=some ns->QD s hd c (DV.encL vs) (DV.encL ns)
 | [],c,ns,h=>by
   simp only[J1,Am] at h;subst h;trivial
 | v :: vs,c,ns,h=>by
   have flat:(if v.flatc then (match J1 d hd (c+1) vs with|some os=>some (v::os)|none=>none) else none)=some ns->QD s hd c (DV.encL (v::vs)) (DV.encL ns):=by
    intro h;split at h
    . rename_i hf;split at h
      . rename_i os h1;cases h;exact⟨.inl ⟨rfl,λ es e=>absurd e ((cO hf).2 _ _)⟩,L8 hs vs (c+1) h1⟩
      . cases h
    . cases h
   cases v with
   | sl q r l=>
     simp only[J1] at h
     have hk:BN d hd [c]≠.any:=by intro e;rw[e] at h;cases h
     have ek:=Gm hs hd [c] hk;split at h
     . rename_i e1 h1;cases h;exact⟨.inl ⟨rfl,λ _ _=>⟨_,by rw[ek,e1];rfl⟩⟩,L8 hs vs (c+1) h1⟩
     . rename_i e1 h1;cases h;exact⟨.inl ⟨rfl,λ _ _=>⟨_,by rw[ek,e1];rfl⟩⟩,L8 hs vs (c+1) h1⟩
     . rename_i w r' l' os e1 h1;split at h
       . rename_i hc;simp only[Ai] at hc;cases h
         have hq:q= .own:=by simpa [Dw] using hc.2
         subst hq
         obtain⟨i,rfl⟩:∃ i,hd= .b i:=by cases hd<;>first|exact⟨_,rfl⟩|cases hc.1
         exact⟨.inr ⟨w,_,i,⟨_,rfl⟩,by rw[ek,e1];rfl,rfl,rfl⟩,L8 hs vs (c+1) h1⟩
       . cases h
     . cases h
   | nil q=>
     simp only[J1] at h
     have hk:BN d hd [c]≠.any:=by intro e;rw[e] at h;cases h
     have ek:=Gm hs hd [c] hk;split at h
     . rename_i e1 h1;cases h;exact⟨.inl ⟨rfl,λ _ _=>⟨_,by rw[ek,e1];rfl⟩⟩,L8 hs vs (c+1) h1⟩
     . rename_i e1 h1;cases h;exact⟨.inl ⟨rfl,λ _ _=>⟨_,by rw[ek,e1];rfl⟩⟩,L8 hs vs (c+1) h1⟩
     . cases h
   |_=>exact flat h
theorem ZbG{a:Opnd}{t:Nat}{d d1:DS}{s:PS}{g:PX}(hs:ES d s)(h:MR a t d=some (g,d1))(hg:g.den){K:PS->Prop}(hk:∀ s',ES d1 s'->K s'):YW a t K s:=by
 unfold MR at h;split at h
 . rename_i hd b cs e1 e2;have ht:=hs.sl.get t;rw[e2] at ht;have ht:=ht.of (by simp);have ha:=a.dev_ev hs;obtain⟨hk1,hk2⟩:=ZaT e1;have ha:=ha.of hk1
   cases e3:D9 d hd b cs with
   |none=>rw[e3] at h;cases h
   | some r=>
     obtain⟨g1,os⟩:=r;rw[e3] at h;simp only at h
     cases e4:Ms (a.dev d.sl) os.length d with
     |none=>rw[e4] at h;cases h
     | some r=>
       obtain⟨g2,w,d2⟩:=r;rw[e4] at h;simp only at h;split at h
       . rename_i ns e5;simp only[Am,Ao] at h;obtain⟨rfl,rfl⟩:=h;have hg:=(PX.land_den _ _).mp hg;obtain⟨s1,k1,k2⟩:=yR hs e4 hg.2;refine⟨hd,b,DV.encL os,DV.encL ns,s1,by rw[ha];exact hk2,by rw[ht];rfl,?_,L8 hs os b e5,?_,hk _ (k2.put (some t) (.agg ns))⟩
         . rw[ht];exact KZ hs cs b e3 hg.1
         . rw[ha,Fg];exact k1
       . cases h
 . cases h
theorem zi{a:Opnd}{t:Nat}{d d1:DS}{g:PX}(h:MR a t d=some (g,d1)):ChgS d d1:=by
 unfold MR at h;split at h
 . rename_i hd b cs e1 e2
   cases e3:D9 d hd b cs with
   |none=>rw[e3] at h;cases h
   | some r=>
     obtain⟨g1,os⟩:=r;rw[e3] at h;simp only at h
     cases e4:Ms (a.dev d.sl) os.length d with
     |none=>rw[e4] at h;cases h
     | some r=>
       obtain⟨g2,w,d2⟩:=r;rw[e4] at h;simp only at h;split at h
       . simp only[Am,Ao] at h;obtain⟨_,rfl⟩:=h;exact(vV e4).trans (ChgS.put _ _ _)
       . cases h
 . cases h
theorem ZbE{a:DV}{p:PV}{d d1:DS}{s:PS}(hs:ES d s)(ha:EV a p)(h:Q4 a d=some d1):∃ s1,U0 p s=some s1/\ES d1 s1:=by cases h
theorem zb{a:DV}{d d1:DS}(h:Q4 a d=some d1):ChgS d d1:=by cases h
end
end Go.Ag
