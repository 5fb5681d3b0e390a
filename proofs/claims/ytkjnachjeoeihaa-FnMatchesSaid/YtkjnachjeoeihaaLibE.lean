/- Part 5 of what FnMatches needs. No conditions. -/
import Derived.WalkKit
import Derived.ProofKit
import Derived.OpenShut
import Derived.Carry
import Derived.ChangeSame
import Derived.KernelRfl
import Derived.Test.YtkjnachjeoeihaaLibD
namespace Go.Ag
set_option linter.unusedSimpArgs false
set_option linter.unusedVariables false
def TuX:List HT→Type
 |[]=>Unit
 |[a]=>a.D
 |a::r=>a.D×TuX r
def tuOf:(l:List HT)→List DV→Option (TuX l)
 |[],[]=>some ()
 |[a],[v]=>a.of v
 | a::b::r,v::vs=>(match a.of v,tuOf (b::r) vs with
   |some x,some y=>some (x,y)
   |_,_=>none)
 |_,_=>none
def tuDv:(l:List HT)→TuX l→List DV
 |[],_=>[]
 |[a],x=>[a.dv x]
 |a::b::r,x=>a.dv x.1::tuDv (b::r) x.2
inductive QT where
 |one (h:HT)|tup (l:List HT)
def QT.D:QT→Type
 |.one h=>h.D
 |.tup l=>TuX l
def QT.of:(q:QT)→DV→Option q.D
 |.one h,v=>h.of v
 |.tup l,.tup vs=>tuOf l vs
 |.tup _,_=>none
def QT.dv:(q:QT)→q.D→DV
 |.one h,x=>h.dv x
 |.tup l,x=>.tup (tuDv l x)
def QT.ofO(q:QT):Option DV→Option q.D
 |some v=>q.of v
 |none=>none
def agDflt:(l:List (Ql×CT))→AgX l
 |[]=>()
 |[a]=>a.2.dflt
 |a::b::r=>(a.2.dflt,agDflt (b::r))
def HT.dflt:(h:HT)→h.D
 |.one _ t=>t.dflt
 |.agg l=>agDflt l
def tuDflt:(l:List HT)→TuX l
 |[]=>()
 |[a]=>a.dflt
 |a::b::r=>(a.dflt,tuDflt (b::r))
def QT.dflt:(q:QT)→q.D
 |.one h=>h.dflt
 |.tup l=>tuDflt l
def HT.flt:HT→Bool
 |.one _ t=>t.flat
 |.agg l=>l.all fun a=>a.2.flat
def QT.flt:QT→Bool
 |.one h=>h.flt
 |.tup l=>l.all HT.flt
theorem tu_of:∀ {l:List HT} {vs:List DV} {x:TuX l},tuOf l vs=some x→DV.encL (tuDv l x)=DV.encL vs
 |[],[],_,_=>rfl
 | [a],[v],x,h=>by
   show [(a.dv x).enc]=[v.enc]
   rw[(ht_of (t:=a) h).1]
 | a :: b::r,v::vs,x,h=>by
   have h':(match a.of v,tuOf (b::r) vs with|some x,some y=>some (x,y)|_,_=>none)=some x:=h
   clear h
   cases h1:a.of v with
   |none=>rw[h1] at h';cases h'
   | some p=>
     cases h2:tuOf (b::r) vs with
     |none=>rw[h1,h2] at h';cases h'
     | some q=>
       rw[h1,h2] at h'
       have h':=Option.some.inj h'
       subst h'
       show (a.dv p).enc::DV.encL (tuDv (b::r) q)=v.enc::DV.encL vs
       rw[(ht_of h1).1,tu_of h2]
theorem qt_of{q:QT}{v:DV}{x:q.D}(h:q.of v=some x):(q.dv x).enc=v.enc∧v≠.any:=by
 cases q with
 |one t=>exact ht_of (t:=t) h
 | tup l=>
   cases v<;>try (cases h;done)
   rename_i cs
   refine⟨?_,by simp⟩
   show PV.tup _=PV.tup _
   rw[tu_of (l:=l) h]
theorem tuDv_len:∀ (l:List HT) (x:TuX l),(tuDv l x).length=l.length
 |[],_=>rfl
 |[_],_=>rfl
 | a::b::r,x=>by
   show (tuDv (b::r) x.2).length+1=(b::r).length+1
   rw[tuDv_len (b::r) x.2]
theorem ct_flt{q:Ql}{t:CT}{v:DV}{x:t.D}(hf:t.flat=true)(h:t.ofQ q v=some x):v.flt=true:=by
 cases t<;>first|(cases hf;done)|skip
 all_goals (cases v<;>first|rfl|(cases h;done))
theorem ag_flt:∀ {l:List (Ql×CT)} {vs:List DV} {x:AgX l},l.all (fun a=>a.2.flat)=true→agOf l vs=some x→DV.fltL vs=true
 |[],[],_,_,_=>rfl
 | [a],[v],x,hf,h=>by
   simp only[List.all_cons,List.all_nil,Bool.and_true] at hf
   simp only[DV.fltL,ct_flt (q:=a.1) hf h,Bool.and_self]
 | a :: b::r,v::vs,x,hf,h=>by
   have h':(match a.2.ofQ a.1 v,agOf (b::r) vs with|some x,some y=>some (x,y)|_,_=>none)=some x:=h
   clear h
   rw[List.all_cons,Bool.and_eq_true] at hf
   cases h1:a.2.ofQ a.1 v with
   |none=>rw[h1] at h';cases h'
   | some p=>
     cases h2:agOf (b::r) vs with
     |none=>rw[h1,h2] at h';cases h'
     |some q=>simp only[DV.fltL,ct_flt hf.1 h1,ag_flt hf.2 h2,Bool.and_self]
theorem ht_flt{t:HT}{v:DV}{x:t.D}(hf:t.flt=true)(h:t.of v=some x):v.flt=true:=by
 cases t with
 |one q t=>exact ct_flt (q:=q) (t:=t) hf h
 | agg l=>
   cases v<;>try (cases h;done)
   exact ag_flt (l:=l) hf h
theorem tu_flt:∀ {l:List HT} {vs:List DV} {x:TuX l},l.all HT.flt=true→tuOf l vs=some x→DV.fltL vs=true
 |[],[],_,_,_=>rfl
 | [a],[v],x,hf,h=>by
   simp only[List.all_cons,List.all_nil,Bool.and_true] at hf
   simp only[DV.fltL,ht_flt (t:=a) hf h,Bool.and_self]
 | a :: b::r,v::vs,x,hf,h=>by
   have h':(match a.of v,tuOf (b::r) vs with|some x,some y=>some (x,y)|_,_=>none)=some x:=h
   clear h
   rw[List.all_cons,Bool.and_eq_true] at hf
   cases h1:a.of v with
   |none=>rw[h1] at h';cases h'
   | some p=>
     cases h2:tuOf (b::r) vs with
     |none=>rw[h1,h2] at h';cases h'
     |some q=>simp only[DV.fltL,ht_flt hf.1 h1,tu_flt hf.2 h2,Bool.and_self]
theorem qt_flt{q:QT}{v:DV}{x:q.D}(hf:q.flt=true)(h:q.of v=some x):v.flt=true:=by
 cases q with
 |one t=>exact ht_flt (t:=t) hf h
 | tup l=>
   cases v<;>try (cases h;done)
   exact tu_flt (l:=l) hf h
def DSemOf(hs:List HT)(q:QT)(ok:TuX hs→Prop)(v:TuX hs→q.D):DSem:=fun args=>match tuOf hs args with
 |some x=>some (.p (ok x),q.dv (v x))
 |none=>none
noncomputable def DT.valQ(q:QT)(res:List ARes):DT→PX×Option q.D
 |.leaf (.exit _) _=>(.ff,none)
 | .leaf _ st=>(match dresV st res with
   | some v=>if v.ok&&!v.hasPtr then (match q.of v with
     |some y=>(.tt,some y)
     |none=>(.ff,none)) else (.ff,none)
   |none=>(.ff,none))
 | .node c a b=>(match a.valQ q res,b.valQ q res with
   |(g,none),(g',y)=>(PX.if' c g g',y)
   |(g,x),(g',none)=>(PX.if' c g g',x)
   |(g,some x),(g',some y)=>(PX.if' c g g',some (bSel c x y)))
 | .chk g t=>(match t.valQ q res with
   |(g',v)=>(g.land g',v))
 |.bad=>(.ff,none)
theorem valQ_none{q:QT}{res:List ARes}:∀ {t:DT} {g:PX},t.valQ q res=(g,none)→¬ g.den
 | .leaf e st,g,h=>by
   cases e<;>simp only[DT.valQ] at h<;>(repeat' split at h)<;>simp only[Prod.mk.injEq,reduceCtorEq,and_false,and_true] at h<;>subst h<;>exact id
 | .node c x y,g,h=>by
   intro hg
   simp only[DT.valQ] at h
   cases h1:x.valQ q res with
   | mk g1 v1=>
     cases h2:y.valQ q res with
     | mk g2 v2=>
       rw[h1,h2] at h
       cases v1 with
       | none=>
         simp only[Prod.mk.injEq] at h
         obtain⟨rfl,rfl⟩:=h
         have:=(PX.if_den _ _ _).mp hg
         cases c with
         |true=>exact valQ_none h1 (this.1 rfl)
         |false=>exact valQ_none h2 (this.2 rfl)
       |some v1=>cases v2<;>simp at h
 | .chk g0 t,g,h=>by
   intro hg
   simp only[DT.valQ] at h
   cases h1:t.valQ q res with
   | mk g1 v1=>
     rw[h1] at h
     simp only[Prod.mk.injEq] at h
     obtain⟨rfl,rfl⟩:=h
     exact valQ_none h1 ((PX.land_den _ _).mp hg).2
 | .bad,g,h=>by
   simp only[DT.valQ,Prod.mk.injEq,and_true] at h
   subst h;exact id
theorem valQ_s{q:QT}{res:List ARes}:∀ {t:DT} {g:PX} {y:q.D},t.valQ q res=(g,some y)→g.den →
 t.ok.den∧∃ e st v0,t.lf=some (e,st)∧(∀ i,e≠.exit i)∧dresV st res=some v0∧v0.ok=true∧q.of v0=some y
 | .leaf e st,g,y,h,hg=>by
   have gen:(match dresV st res with|some v=>if (v.ok&&!v.hasPtr)=true then (match q.of v with|some y=>(PX.tt,some y)|none=>(PX.ff,none)) else (PX.ff,none)|none=>(PX.ff,none))=(g,some y)→∃ v,dresV st res=some v∧v.ok=true∧q.of v=some y:=fun h=>by
    split at h
    · rename_i v hv
      split at h
      · rename_i hc
        simp only[Bool.and_eq_true] at hc
        split at h
        · rename_i y' hy
          simp only[Prod.mk.injEq,Option.some.injEq] at h
          obtain⟨_,rfl⟩:=h
          exact⟨v,hv,hc.1,hy⟩
        · simp at h
      · simp at h
    · simp at h
   cases e with
   |exit i=>simp[DT.valQ] at h
   |normal=>obtain⟨v,h1,h2,h3⟩:=gen h;exact⟨trivial,.normal,st,v,rfl,by simp,h1,h2,h3⟩
   |ret=>obtain⟨v,h1,h2,h3⟩:=gen h;exact⟨trivial,.ret,st,v,rfl,by simp,h1,h2,h3⟩
 | .node c a b,g,y,h,hg=>by
   simp only[DT.valQ] at h
   show (PX.if' c a.ok b.ok).den∧∃ e st v0,(DT.node c a b).lf=some (e,st)∧(∀ i,e≠.exit i)∧dresV st res=some v0∧v0.ok=true∧q.of v0=some y
   rw[PX.if_den]
   cases h1:a.valQ q res with
   | mk g1 v1=>
     cases h2:b.valQ q res with
     | mk g2 v2=>
       rw[h1,h2] at h
       have hgg:g=PX.if' c g1 g2:=by
        cases v1<;>cases v2<;>simp only[Prod.mk.injEq] at h<;>exact h.1.symm
       subst hgg
       have hg:=(PX.if_den _ _ _).mp hg
       cases c with
       | true=>
         have:v1=some y:=by
          cases v1 with
          |none=>exact absurd (hg.1 rfl) (valQ_none h1)
          |some v1=>cases v2<;>simp only[Prod.mk.injEq,bSel_t] at h<;>exact h.2
         subst this
         obtain⟨k1,k2⟩:=valQ_s h1 (hg.1 rfl)
         exact⟨⟨fun _=>k1,fun h=>by cases h⟩,k2⟩
       | false=>
         have:v2=some y:=by
          cases v2 with
          |none=>exact absurd (hg.2 rfl) (valQ_none h2)
          |some v2=>cases v1<;>simp only[Prod.mk.injEq,bSel_f] at h<;>exact h.2
         subst this
         obtain⟨k1,k2⟩:=valQ_s h2 (hg.2 rfl)
         exact⟨⟨fun h=>(by cases h),fun _=>k1⟩,k2⟩
 | .chk g0 t,g,y,h,hg=>by
   simp only[DT.valQ] at h
   cases h1:t.valQ q res with
   | mk g1 v1=>
     rw[h1] at h
     simp only[Prod.mk.injEq] at h
     obtain⟨rfl,rfl⟩:=h
     have hg:=(PX.land_den _ _).mp hg
     obtain⟨k1,k2⟩:=valQ_s h1 hg.2
     exact⟨(PX.land_den _ _).mpr ⟨hg.1,k1⟩,k2⟩
 |.bad,g,y,h,hg=>by simp[DT.valQ] at h
def QT.isB:QT→Bool
 |.one (.one _ .bool)=>true
 |_=>false
noncomputable def fnR(f:DFun)(hs:List HT)(q:QT)(x:TuX hs):PX×Option q.D:=
 if q.isB then ((dfun f (tuDv hs x)).1,q.ofO (dfun f (tuDv hs x)).2)
 else (dev f.body ⟨news (tuDv hs x)++dslots (f.nslots-f.nparams),dboxes f.nbox,[]⟩).valQ q f.res
noncomputable def fnV(f:DFun)(hs:List HT)(q:QT)(x:TuX hs):q.D:=(fnR f hs q x).2.getD q.dflt
noncomputable def fnOk(f:DFun)(hs:List HT)(q:QT)(x:TuX hs):Prop:=(fnR f hs q x).1.den
noncomputable def fnChk(f:DFun)(hs:List HT)(q:QT)(x:TuX hs):Bool:=(fnR f hs q x).2.isSome
def fnSt(f:DFun)(hs:List HT)(q:QT):Bool:=hs.length == f.nparams&&(!f.pure||q.flt)
theorem fn_sound {f:DFun} {hs:List HT} {q:QT} (ho:AllD f.body.obs) (hst:fnSt f hs q=true) (x:TuX hs) (hc:fnChk f hs q x=true) (hok:fnOk f hs q x)
 {Q:PV→List (List PV)→Prop} (hQ:∀ H,Q (q.dv (fnV f hs q x)).enc H):pfunSem f.er (DV.encL (tuDv hs x)) [] Q:=by
 simp only[fnSt,Bool.and_eq_true,beq_iff_eq,Bool.or_eq_true,Bool.not_eq_true'] at hst
 unfold fnChk at hc
 unfold fnV at hQ
 unfold fnOk at hok
 unfold fnR at hc hQ hok
 by_cases hb:q.isB=true
 · rw[if_pos hb] at hc hQ hok
   cases hd:dfun f (tuDv hs x) with
   | mk g o=>
     rw[hd] at hc hQ hok
     cases o with
     |none=>cases hc
     | some w=>
       obtain⟨y,hy⟩:=Option.isSome_iff_exists.mp hc
       rw[hy] at hQ
       have hy:q.of w=some y:=hy
       obtain⟨h1,h2⟩:=qt_of hy
       refine dfun_sound ho hd hok h2 (by rw[tuDv_len];exact hst.1) (fun hp=>qt_flt (by simpa [hp] using hst.2) hy) fun H=>?_
       have:=hQ H
       rw[Option.getD_some,h1] at this
       exact this
 · rw[if_neg hb] at hc hQ hok
   cases hd:(dev f.body ⟨news (tuDv hs x)++dslots (f.nslots-f.nparams),dboxes f.nbox,[]⟩).valQ q f.res with
   | mk g o=>
     rw[hd] at hc hQ hok
     cases o with
     |none=>cases hc
     | some y=>
       simp only[Option.getD_some] at hQ
       obtain⟨k1,e,st,v0,k2,k3,k4,k5,k6⟩:=valQ_s hd hok
       obtain⟨h1,h2⟩:=qt_of k6
       refine⟨by rw[encL_len,tuDv_len];exact hst.1,fun _=>rfl,?_⟩
       refine dev_s f.body ho (d:=⟨news (tuDv hs x)++dslots (f.nslots-f.nparams),dboxes f.nbox,[]⟩) ⟨(EL.news _).append (slots_EL _),boxes_EB _,trivial⟩ k1 k2 fun s' hs'=>?_
       obtain⟨s2,e2⟩:=dresV_s hs' k4 k5
       rw[← h1] at e2
       have fin:(match presV s' f.res with|some (v,st)=>if f.pure=true then v.flt=true∧Q v [] else Q v st.hp|none=>False):=by
        rw[e2]
        simp only
        split
        · rename_i hpu
          exact⟨by rw[h1];exact flt_enc _ (qt_flt (by simpa [hpu] using hst.2) k6),hQ _⟩
        · exact hQ _
       cases e with
       |normal=>exact fin
       |ret=>exact fin
       |exit i=>exact absurd rfl (k3 i)
theorem soundD_of{f:DFun}{hs:List HT}{q:QT}(ho:AllD f.body.obs)(hst:fnSt f hs q=true)(hc:∀ x,fnChk f hs q x=true){ok:TuX hs→Prop}{v:TuX hs→q.D}(hok:∀ x,ok x→fnOk f hs q x)(hv:∀ x,fnV f hs q x=v x) :
 SoundD (pfunSem f.er) (DSemOf hs q ok v):=by
 intro args g w Q h hg hQ
 unfold DSemOf at h
 cases hx:tuOf hs args with
 |none=>rw[hx] at h;cases h
 | some x=>
   rw[hx] at h
   simp only[Option.some.injEq,Prod.mk.injEq] at h
   obtain⟨rfl,rfl⟩:=h
   rw[← tu_of hx]
   exact fn_sound ho hst x (hc x) (hok x hg) fun H=>by rw[hv];exact hQ H
attribute [irreducible] fnR fnV fnOk fnChk fnSt
def outT:List (Ql×CT)→List (Ql×CT)
 |[]=>[]
 |(.frz,_)::r=>outT r
 |a::r=>a::outT r
def spr:List (Ql×CT)→List DV→List DV
 |[],_=>[]
 |(.frz,_)::r,vs=>.any::spr r vs
 |_::r,v::vs=>v::spr r vs
 |_::r,[]=>.any::spr r []
def pickO:List (Ql×CT)→List DC→Option (List DV)
 |[],[]=>some []
 |(.frz,_)::r,c::l=>if c.d then none else pickO r l
 | _::r,c::l=>(match pickO r l with
   |some vs=>some (c.v::vs)
   |none=>none)
 |_,_=>none
def olds:List DV→List DC
 |[]=>[]
 |v::r=>⟨false,v⟩::olds r
noncomputable def dresS(st:DS):List ARes→Option (DV×DS)
 |[r]=>dresOf st r
 | rs=>(match dresAll st rs with
   |some x=>some (.tup x.1,x.2)
   |none=>none)
noncomputable def rP(q:QT)(cs:List (Ql×CT))(res:List ARes)(st:DS):Option (q.D×AgX (outT cs)):=
 match dresS st res with
 | some (v,st')=>if v.ok&&!v.hasPtr then (match st'.hp with
   | [blk]=>(match pickO cs blk with
     | some vs=>(match q.of v,agOf (outT cs) vs with
       |some y,some b=>some (y,b)
       |_,_=>none)
     |none=>none)
   |_=>none) else none
 |none=>none
noncomputable def rN(cs:List (Ql×CT))(res:List ARes)(st:DS):Option (AgX cs):=
 match dresS st res with
 | some (v,st')=>if v.isP0 then (match st'.hp with
   |[blk]=>agOf cs (vals blk)
   |_=>none) else none
 |none=>none
noncomputable def DT.valR{α:Type}(R:DS→Option α):DT→PX×Option α
 |.leaf (.exit _) _=>(.ff,none)
 | .leaf _ st=>(match R st with
   |some y=>(.tt,some y)
   |none=>(.ff,none))
 | .node c a b=>(match a.valR R,b.valR R with
   |(g,none),(g',y)=>(PX.if' c g g',y)
   |(g,x),(g',none)=>(PX.if' c g g',x)
   |(g,some x),(g',some y)=>(PX.if' c g g',some (bSel c x y)))
 | .chk g t=>(match t.valR R with
   |(g',v)=>(g.land g',v))
 |.bad=>(.ff,none)
theorem valR_none{α:Type}{R:DS→Option α}:∀ {t:DT} {g:PX},t.valR R=(g,none)→¬ g.den
 | .leaf e st,g,h=>by
   cases e<;>simp only[DT.valR] at h<;>(repeat' split at h)<;>simp only[Prod.mk.injEq,reduceCtorEq,and_false,and_true] at h<;>subst h<;>exact id
 | .node c x y,g,h=>by
   intro hg
   simp only[DT.valR] at h
   cases h1:x.valR R with
   | mk g1 v1=>
     cases h2:y.valR R with
     | mk g2 v2=>
       rw[h1,h2] at h
       cases v1 with
       | none=>
         simp only[Prod.mk.injEq] at h
         obtain⟨rfl,rfl⟩:=h
         have:=(PX.if_den _ _ _).mp hg
         cases c with
         |true=>exact valR_none h1 (this.1 rfl)
         |false=>exact valR_none h2 (this.2 rfl)
       |some v1=>cases v2<;>simp at h
 | .chk g0 t,g,h=>by
   intro hg
   simp only[DT.valR] at h
   cases h1:t.valR R with
   | mk g1 v1=>
     rw[h1] at h
     simp only[Prod.mk.injEq] at h
     obtain⟨rfl,rfl⟩:=h
     exact valR_none h1 ((PX.land_den _ _).mp hg).2
 | .bad,g,h=>by
   simp only[DT.valR,Prod.mk.injEq,and_true] at h
   subst h;exact id
theorem valR_s{α:Type}{R:DS→Option α}:∀ {t:DT} {g:PX} {y:α},t.valR R=(g,some y)→g.den →
 t.ok.den∧∃ e st,t.lf=some (e,st)∧(∀ i,e≠.exit i)∧R st=some y
 | .leaf e st,g,y,h,hg=>by
   have gen:(match R st with|some y=>(PX.tt,some y)|none=>(PX.ff,none))=(g,some y)→R st=some y:=fun h=>by
    split at h
    · rename_i y' hy
      simp only[Prod.mk.injEq,Option.some.injEq] at h
      rw[hy,h.2]
    · simp at h
   cases e with
   |exit i=>simp[DT.valR] at h
   |normal=>exact⟨trivial,.normal,st,rfl,by simp,gen h⟩
   |ret=>exact⟨trivial,.ret,st,rfl,by simp,gen h⟩
 | .node c a b,g,y,h,hg=>by
   simp only[DT.valR] at h
   show (PX.if' c a.ok b.ok).den∧∃ e st,(DT.node c a b).lf=some (e,st)∧(∀ i,e≠.exit i)∧R st=some y
   rw[PX.if_den]
   cases h1:a.valR R with
   | mk g1 v1=>
     cases h2:b.valR R with
     | mk g2 v2=>
       rw[h1,h2] at h
       have hgg:g=PX.if' c g1 g2:=by
        cases v1<;>cases v2<;>simp only[Prod.mk.injEq] at h<;>exact h.1.symm
       subst hgg
       have hg:=(PX.if_den _ _ _).mp hg
       cases c with
       | true=>
         have:v1=some y:=by
          cases v1 with
          |none=>exact absurd (hg.1 rfl) (valR_none h1)
          |some v1=>cases v2<;>simp only[Prod.mk.injEq,bSel_t] at h<;>exact h.2
         subst this
         obtain⟨k1,k2⟩:=valR_s h1 (hg.1 rfl)
         exact⟨⟨fun _=>k1,fun h=>by cases h⟩,k2⟩
       | false=>
         have:v2=some y:=by
          cases v2 with
          |none=>exact absurd (hg.2 rfl) (valR_none h2)
          |some v2=>cases v1<;>simp only[Prod.mk.injEq,bSel_f] at h<;>exact h.2
         subst this
         obtain⟨k1,k2⟩:=valR_s h2 (hg.2 rfl)
         exact⟨⟨fun h=>(by cases h),fun _=>k1⟩,k2⟩
 | .chk g0 t,g,y,h,hg=>by
   simp only[DT.valR] at h
   cases h1:t.valR R with
   | mk g1 v1=>
     rw[h1] at h
     simp only[Prod.mk.injEq] at h
     obtain⟨rfl,rfl⟩:=h
     have hg:=(PX.land_den _ _).mp hg
     obtain⟨k1,k2⟩:=valR_s h1 hg.2
     exact⟨(PX.land_den _ _).mpr ⟨hg.1,k1⟩,k2⟩
 |.bad,g,y,h,hg=>by simp[DT.valR] at h
theorem all_lf{p:DS→Prop}:∀ {t:DT} {e:AExit} {st:DS},t.All p→t.lf=some (e,st)→p st
 | .leaf _ _,_,_,h,hl=>by
   simp only[DT.lf,Option.some.injEq,Prod.mk.injEq] at hl
   obtain⟨_,rfl⟩:=hl;exact h
 | .node c a b,_,_,h,hl=>by
   simp only[DT.lf] at hl
   cases c with
   |true=>exact all_lf h.1 hl
   |false=>exact all_lf h.2 hl
 |.chk _ t,_,_,h,hl=>all_lf (t:=t) h hl
 |.bad,_,_,_,hl=>by cases hl
theorem dresOf_chg{st st':DS}{r:ARes}{v:DV}(h:dresOf st r=some (v,st')):ChgS st st':=by
 cases r with
 | tmp t=>
   simp only[dresOf] at h
   split at h
   · simp only[Option.some.injEq] at h
     have:=ChgS.mvOut (.t t) st
     simp only[dmvOut,h] at this
     exact this
   · cases h
 | cell t n=>
   simp only[dresOf] at h
   split at h
   · split at h
     · simp only[Option.map_eq_some_iff] at h
       obtain⟨⟨g,r⟩,h1,h2⟩:=h
       simp only at h2
       subst h2
       exact dloadB_chg h1
     · cases h
   · split at h
     · simp only[Option.map_eq_some_iff] at h
       obtain⟨⟨g,r⟩,h1,h2⟩:=h
       simp only at h2
       subst h2
       exact dloadH_chg h1
     · cases h
   · cases h
theorem dresAll_chg:∀ {rs:List ARes} {st st':DS} {vs:List DV},dresAll st rs=some (vs,st')→ChgS st st'
 | [],st,st',vs,h=>by
   simp only[dresAll,Option.some.injEq,Prod.mk.injEq] at h
   rw[h.2];exact ChgS.refl _
 | r :: rs,st,st',vs,h=>by
   simp only[dresAll] at h
   split at h
   · rename_i v st1 h1
     split at h
     · rename_i vs1 st2 h2
       simp only[Option.some.injEq,Prod.mk.injEq] at h
       obtain⟨_,rfl⟩:=h
       exact(dresOf_chg h1).trans (dresAll_chg h2)
     · cases h
   · cases h
theorem dresS_s{res:List ARes}{st st':DS}{s:PS}{v:DV}(hs:ES st s)(h:dresS st res=some (v,st'))(hv:v.ok=true):(∃ s',presV s res=some (v.enc,s')∧ES st' s')∧ChgS st st':=by
 have gen:∀ {res:List ARes},(match dresAll st res with|some x=>some (DV.tup x.1,x.2)|none=>none)=some (v,st')→(∃ s',(presAll s res).map (fun(vs,st)=>(PV.tup vs,st))=some (v.enc,s')∧ES st' s')∧ChgS st st':=fun {res} h=>by
  split at h
  · rename_i x hx
    obtain⟨vs,st1⟩:=x
    simp only[Option.some.injEq,Prod.mk.injEq] at h
    obtain⟨rfl,rfl⟩:=h
    obtain⟨s',e1,e2⟩:=dresAll_s hs hx hv
    exact⟨⟨s',by rw[e1];rfl,e2⟩,dresAll_chg hx⟩
  · cases h
 cases res with
 |nil=>exact gen (res:=[]) h
 | cons r rs=>
   cases rs with
   |nil=>exact⟨dresOf_s hs h hv,dresOf_chg h⟩
   |cons r2 rs=>exact gen (res:=r::r2::rs) h
theorem agOf_known:∀ {l:List (Ql×CT)} {vs:List DV} {x:AgX l},agOf l vs=some x→(∀ v∈vs,v≠.any)∧∀ v∈agDv l x,v≠.any
 |[],[],_,_=>⟨by simp,by simp[agDv]⟩
 | [a],[v],x,h=>by
   obtain⟨h1,h2⟩:=ct_ofQ (q:=a.1) (t:=a.2) h
   refine⟨by simpa using h2,fun w hw=>?_⟩
   have hw:w∈[a.2.dv a.1 x]:=hw
   rw[List.mem_singleton] at hw
   subst hw
   exact dv_known _ _ _
 | a :: b::r,v::vs,x,h=>by
   have h':(match a.2.ofQ a.1 v,agOf (b::r) vs with|some x,some y=>some (x,y)|_,_=>none)=some x:=h
   clear h
   cases h1:a.2.ofQ a.1 v with
   |none=>rw[h1] at h';cases h'
   | some p=>
     cases h2:agOf (b::r) vs with
     |none=>rw[h1,h2] at h';cases h'
     | some q=>
       rw[h1,h2] at h'
       have h':=Option.some.inj h'
       subst h'
       obtain⟨k1,k2⟩:=agOf_known h2
       refine⟨fun w hw=>?_,fun w hw=>?_⟩
       · rcases List.mem_cons.mp hw with rfl|hw
         · exact(ct_ofQ h1).2
         · exact k1 w hw
       · have hw:w∈a.2.dv a.1 p::agDv (b::r) q:=hw
         rcases List.mem_cons.mp hw with rfl|hw
         · exact dv_known _ _ _
         · exact k2 w hw
  where dv_known (q:Ql) (t:CT) (x:t.D):t.dv q x≠.any:=by cases t<;>simp[CT.dv]
theorem agDv_known:∀ (l:List (Ql×CT)) (x:AgX l),(∀ v∈agDv l x,v≠.any)∧(agDv l x).length=l.length
 |[],_=>⟨by simp[agDv],rfl⟩
 |[a],x=>⟨fun w hw=>by
  have hw:w∈[a.2.dv a.1 x]:=hw
  rw[List.mem_singleton] at hw
  subst hw
  exact agOf_known.dv_known _ _ _,rfl⟩
 | a :: b::r,x=>by
   obtain⟨h1,h2⟩:=agDv_known (b::r) x.2
   refine⟨fun w hw=>?_,?_⟩
   · have hw:w∈a.2.dv a.1 x.1::agDv (b::r) x.2:=hw
     rcases List.mem_cons.mp hw with rfl|hw
     · exact agOf_known.dv_known _ _ _
     · exact h1 w hw
   · show (agDv (b::r) x.2).length+1=(b::r).length+1
     rw[h2]
theorem blk_back:∀ (cs:List (Ql×CT)) {blk:List DV} {blk':List DC} {p:List PV} {vs w:List DV},EL blk' p→Chg (olds blk) blk'→pickO cs blk'=some vs→DV.encL w=DV.encL vs→(∀ v∈vs,v≠.any)→(∀ v∈w,v≠.any) →
 blk.length=cs.length→(∀ v∈blk,v≠.any)→p=DV.encL (mixV blk (spr cs w))
 | [],blk,blk',p,vs,w,he,hc,hp,hw,hv,hvw,hl,hb=>by
   have:blk=[]:=List.eq_nil_of_length_eq_zero hl
   subst this
   cases blk' with
   | nil=>cases p with
     |nil=>rfl
     |cons=>exact he.elim
   |cons=>cases hp
 | (q, t)::r,blk,blk',p,vs,w,he,hc,hp,hw,hv,hvw,hl,hb=>by
   cases blk with
   |nil=>cases hl
   |cons v0 blk=>
   cases blk' with
   |nil=>cases q<;>cases hp
   |cons c l=>
   cases p with
   |nil=>exact he.elim
   |cons x p=>
   have hl':blk.length=r.length:=by simpa using hl
   have hb':∀ v∈blk,v≠.any:=fun v hv=>hb v (List.mem_cons_of_mem _ hv)
   by_cases hq:q= .frz
   · subst hq
     have hp:(if c.d then none else pickO r l)=some vs:=hp
     split at hp
     · cases hp
     · rename_i hd
       have hc1:c=⟨false,v0⟩:=hc.1.resolve_left hd
       have hx:x=v0.enc:=by
        rcases he.1 with h|h
        · rw[hc1] at h;exact absurd h (hb v0 (List.mem_cons_self ..))
        · rw[h,hc1]
       show x::p=v0.enc::DV.encL (mixV blk (spr r w))
       rw[hx,blk_back r he.2 hc.2 hp hw hv hvw hl' hb']
   · have hp':(match pickO r l with|some vs=>some (c.v::vs)|none=>none)=some vs:=by
      cases q<;>first|exact absurd rfl hq|exact hp
     cases hpr:pickO r l with
     |none=>rw[hpr] at hp';cases hp'
     | some vs1=>
       rw[hpr] at hp'
       have hp':=Option.some.inj hp'
       subst hp'
       cases w with
       |nil=>cases hw
       |cons w0 w=>
       simp only[DV.encL,List.cons.injEq] at hw
       have hx:x=w0.enc:=by
        rcases he.1 with h|h
        · exact absurd h (hv c.v (List.mem_cons_self ..))
        · rw[h,hw.1]
       have hw0:w0.isAny=false:=by
        have:=hvw w0 (List.mem_cons_self ..)
        cases w0<;>first|rfl|exact absurd rfl this
       have e:spr ((q,t)::r) (w0::w)=w0::spr r w:=by cases q<;>first|exact absurd rfl hq|rfl
       rw[e]
       simp only[mixV,hw0,Bool.false_eq_true,if_false,DV.encL]
       rw[hx,blk_back r he.2 hc.2 hpr hw.2 (fun v h=>hv v (List.mem_cons_of_mem _ h)) (fun v h=>hvw v (List.mem_cons_of_mem _ h)) hl' hb']
noncomputable def fnP(f:DFun)(hs:List HT)(cs:List (Ql×CT))(q:QT)(x:TuX (.agg cs::hs)):PX×Option (q.D×AgX (outT cs)):=
 match tuDv (.agg cs::hs) x with
 |.agg blk::r=>(dev f.body ⟨news (.ptr 0 0::r)++dslots (f.nslots-f.nparams),dboxes f.nbox,[olds blk]⟩).valR (rP q cs f.res)
 |_=>(.ff,none)
noncomputable def fnPV(f:DFun)(hs:List HT)(cs:List (Ql×CT))(q:QT)(x:TuX (.agg cs::hs)):q.D×AgX (outT cs):=(fnP f hs cs q x).2.getD (q.dflt,agDflt (outT cs))
noncomputable def fnPOk(f:DFun)(hs:List HT)(cs:List (Ql×CT))(q:QT)(x:TuX (.agg cs::hs)):Prop:=(fnP f hs cs q x).1.den
noncomputable def fnPChk(f:DFun)(hs:List HT)(cs:List (Ql×CT))(q:QT)(x:TuX (.agg cs::hs)):Bool:=(fnP f hs cs q x).2.isSome
def fnPSt(f:DFun)(hs:List HT)(cs:List (Ql×CT)):Bool:=hs.length+1 == f.nparams&&!f.pure&&Nat.blt 0 cs.length
def DSemOfP(hs:List HT)(cs:List (Ql×CT))(q:QT)(ok:TuX (.agg cs::hs)→Prop)(v:TuX (.agg cs::hs)→q.D×AgX (outT cs)):DSemP:=fun args b=>match args,b with
 | a::r,[blk]=>if a.isP0 then (match tuOf (.agg cs::hs) (.agg blk::r) with
   |some x=>some (.p (ok x),q.dv (v x).1,[spr cs (agDv (outT cs) (v x).2)])
   |none=>none) else none
 |_,_=>none
theorem tuDv_cons(cs:List (Ql×CT))(hs:List HT)(x:TuX (.agg cs::hs)):∃ r b,tuDv (.agg cs::hs) x= .agg (agDv cs b)::r:=by
 cases hs with
 |nil=>exact⟨[],x,rfl⟩
 |cons a r=>exact⟨tuDv (a::r) x.2,x.1,rfl⟩
theorem olds_EL:∀ (l:List DV),EL (olds l) (DV.encL l)
 |[]=>trivial
 |_::r=>⟨.inr rfl,olds_EL r⟩
theorem soundDP_of {f : DFun} {hs : List HT} {cs:List (Ql×CT)} {q:QT} (ho:AllD f.body.obs) (hst:fnPSt f hs cs=true) (hc:∀ x,fnPChk f hs cs q x=true) {ok:TuX (.agg cs::hs)→Prop} {v:TuX (.agg cs::hs)→q.D×AgX (outT cs)} (hok:∀ x,ok x→fnPOk f hs cs q x) (hv:∀ x,fnPV f hs cs q x=v x) :
 SoundDP (pfunSem f.er) (DSemOfP hs cs q ok v):=by
 intro args b g w H Q h hg hQ
 simp only[fnPSt,Bool.and_eq_true,beq_iff_eq,Bool.not_eq_true'] at hst
 unfold DSemOfP at h
 split at h
 · rename_i a r blk
   split at h
   · rename_i ha
     have ha:a= .ptr 0 0:=by unfold DV.isP0 at ha;split at ha<;>first|rfl|cases ha
     subst ha
     cases hx:tuOf (.agg cs::hs) (.agg blk::r) with
     |none=>rw[hx] at h;cases h
     | some x=>
       rw[hx] at h
       simp only[Option.some.injEq,Prod.mk.injEq] at h
       obtain⟨rfl,rfl,rfl⟩:=h
       have he:=tu_of hx
       obtain⟨r',b,hd⟩:=tuDv_cons cs hs x
       rw[hd] at he
       simp only[DV.encL,DV.enc,List.cons.injEq,PV.agg.injEq] at he
       have hlr:r'.length=hs.length:=by
        have:=tuDv_len (.agg cs::hs) x
        rw[hd] at this
        simpa using this
       have hc:=hc x
       have hok:=hok x hg
       unfold fnPChk at hc
       unfold fnPOk at hok
       have hvx:=hv x
       unfold fnPV at hvx
       unfold fnP at hc hok hvx
       rw[hd] at hc hok hvx
       simp only at hc hok hvx
       cases hdd:(dev f.body ⟨news (.ptr 0 0::r')++dslots (f.nslots-f.nparams),dboxes f.nbox,[olds (agDv cs b)]⟩).valR (rP q cs f.res) with
       | mk g o=>
         rw[hdd] at hc hok hvx
         cases o with
         |none=>cases hc
         | some y=>
           simp only[Option.getD_some] at hvx
           obtain⟨k1,e,st,k2,k3,k4⟩:=valR_s hdd hok
           have hchg:ChgS _ st:=all_lf (dev_all f.body _) k2
           show pfunSem f.er (PV.ptr 0 0::DV.encL r) [DV.encL blk] Q
           rw[← he.1,← he.2]
           refine⟨by simp only[List.length_cons,encL_len,hlr];exact hst.1.1,fun hp=>absurd hp (by simp[DFun.er,hst.1.2]),?_⟩
           refine dev_s f.body ho (d:=⟨news (.ptr 0 0::r')++dslots (f.nslots-f.nparams),dboxes f.nbox,[olds (agDv cs b)]⟩) (s:=⟨DV.encL (.ptr 0 0::r')++preps (f.nslots-f.nparams),prepb f.nbox,[DV.encL (agDv cs b)]⟩) ⟨(EL.news _).append (slots_EL _),boxes_EB _,.inr (olds_EL _),trivial⟩ k1 k2 fun s' hs'=>?_
           unfold rP at k4
           split at k4
           · rename_i v0 st' hr
             split at k4
             · rename_i hv0
               simp only[Bool.and_eq_true,Bool.not_eq_true'] at hv0
               split at k4
               · rename_i blk' hblk
                 split at k4
                 · rename_i vs hvs
                   split at k4
                   · rename_i y0 b0 hy0 hb0
                     simp only[Option.some.injEq] at k4
                     subst k4
                     obtain⟨⟨s2,e2,e3⟩,hch2⟩:=dresS_s hs' hr hv0.1
                     have hch:=(hchg.trans hch2).hp
                     have e4:=e3.hp
                     rw[hblk] at hch e4
                     cases hp2:s2.hp with
                     |nil=>rw[hp2] at e4;exact e4.elim
                     | cons p l=>
                       rw[hp2] at e4
                       have hl0:l=[]:=by cases l<;>first|rfl|exact e4.2.elim
                       subst hl0
                       have hne:0<blk'.length:=by
                        cases blk' with
                        | nil=>cases cs with
                          |nil=>exact absurd hst.2 (by decide)
                          |cons a cs=>obtain⟨q0,t0⟩:=a;cases q0<;>cases hvs
                        |cons=>simp
                       have hEL:=e4.1.to hne
                       obtain⟨kn1,kn2⟩:=agOf_known hb0
                       obtain⟨kb1,kb2⟩:=agDv_known cs b
                       have hpb:=blk_back cs hEL hch.1 hvs (ag_of hb0) kn1 kn2 kb2 kb1
                       obtain⟨h1,_⟩:=qt_of hy0
                       have hQ':Q (q.dv y0).enc (encLB (mixVB [blk] [spr cs (agDv (outT cs) b0)])):=by
                        have:=hQ
                        rw[← hvx] at this;exact this
                       have hmix : DV.encL (mixV (agDv cs b) (spr cs (agDv (outT cs) b0)))=DV.encL (mixV blk (spr cs (agDv (outT cs) b0))):=by
                        have:∀ (a c l:List DV),DV.encL a=DV.encL c→DV.encL (mixV a l)=DV.encL (mixV c l):=by
                         intro a
                         induction a with
                         | nil=>intro c l h;cases c with
                           |nil=>rfl
                           |cons=>cases h
                         | cons x a ih=>
                           intro c l h
                           cases c with
                           |nil=>cases h
                           | cons z c=>
                             simp only[DV.encL,List.cons.injEq] at h
                             cases l with
                             |nil=>simp only[mixV,DV.encL,h.1,h.2]
                             | cons w l=>
                               simp only[mixV,DV.encL,ih c l h.2]
                               by_cases hw:w.isAny=true
                               · rw[if_pos hw,if_pos hw,h.1]
                               · rw[if_neg hw,if_neg hw]
                        exact this _ _ _ he.1
                       have fin:(match presV s' f.res with|some (v,st)=>if f.pure=true then v.flt=true∧Q v [] else Q v st.hp|none=>False):=by
                        rw[e2]
                        simp only[hst.1.2,Bool.false_eq_true,if_false,hp2]
                        rw[← h1,hpb,hmix]
                        exact hQ'
                       cases e with
                       |normal=>exact fin
                       |ret=>exact fin
                       |exit i=>exact absurd rfl (k3 i)
                   · cases k4
                 · cases k4
               · cases k4
             · cases k4
           · cases k4
   · cases h
 · cases h
noncomputable def fnN(f:DFun)(hs:List HT)(cs:List (Ql×CT))(x:TuX hs):PX×Option (AgX cs):=
 (dev f.body ⟨news (tuDv hs x)++dslots (f.nslots-f.nparams),dboxes f.nbox,[]⟩).valR (rN cs f.res)
noncomputable def fnNV(f:DFun)(hs:List HT)(cs:List (Ql×CT))(x:TuX hs):AgX cs:=(fnN f hs cs x).2.getD (agDflt cs)
noncomputable def fnNOk(f:DFun)(hs:List HT)(cs:List (Ql×CT))(x:TuX hs):Prop:=(fnN f hs cs x).1.den
noncomputable def fnNChk(f:DFun)(hs:List HT)(cs:List (Ql×CT))(x:TuX hs):Bool:=(fnN f hs cs x).2.isSome
def fnNSt(f:DFun)(hs:List HT)(cs:List (Ql×CT)):Bool:=hs.length == f.nparams&&!f.pure&&Nat.blt 0 cs.length
def DSemOfN(hs:List HT)(cs:List (Ql×CT))(ok:TuX hs→Prop)(v:TuX hs→AgX cs):DSemP:=fun args b=>match b with
 | []=>(match tuOf hs args with
   |some x=>some (.p (ok x),.ptr 0 0,[agDv cs (v x)])
   |none=>none)
 |_=>none
theorem agOf_len:∀ {l:List (Ql×CT)} {vs:List DV} {x:AgX l},agOf l vs=some x→vs.length=l.length
 |[],[],_,_=>rfl
 |[a],[v],x,h=>rfl
 | a :: b::r,v::vs,x,h=>by
   have h':(match a.2.ofQ a.1 v,agOf (b::r) vs with|some x,some y=>some (x,y)|_,_=>none)=some x:=h
   cases h1:a.2.ofQ a.1 v with
   |none=>rw[h1] at h';cases h'
   | some p=>
     cases h2:agOf (b::r) vs with
     |none=>rw[h1,h2] at h';cases h'
     | some q=>
       have:=agOf_len h2
       simp only[List.length_cons] at this ⊢
       omega
theorem soundDN_of {f : DFun} {hs:List HT} {cs:List (Ql×CT)} (ho:AllD f.body.obs) (hst:fnNSt f hs cs=true) (hc:∀ x,fnNChk f hs cs x=true) {ok:TuX hs→Prop} {v:TuX hs→AgX cs} (hok:∀ x,ok x→fnNOk f hs cs x) (hv:∀ x,fnNV f hs cs x=v x) :
 SoundDP (pfunSem f.er) (DSemOfN hs cs ok v):=by
 intro args b g w H Q h hg hQ
 simp only[fnNSt,Bool.and_eq_true,beq_iff_eq,Bool.not_eq_true'] at hst
 unfold DSemOfN at h
 split at h
 · cases hx : tuOf hs args with
   |none=>rw[hx] at h;cases h
   | some x=>
     rw[hx] at h
     simp only[Option.some.injEq,Prod.mk.injEq] at h
     obtain⟨rfl,rfl,rfl⟩:=h
     have he:=tu_of hx
     have hc:=hc x
     have hok:=hok x hg
     have hvx:=hv x
     unfold fnNChk at hc
     unfold fnNOk at hok
     unfold fnNV at hvx
     unfold fnN at hc hok hvx
     cases hdd:(dev f.body ⟨news (tuDv hs x)++dslots (f.nslots-f.nparams),dboxes f.nbox,[]⟩).valR (rN cs f.res) with
     | mk g o=>
       rw[hdd] at hc hok hvx
       cases o with
       |none=>cases hc
       | some y=>
         simp only[Option.getD_some] at hvx
         obtain⟨k1,e,st,k2,k3,k4⟩:=valR_s hdd hok
         show pfunSem f.er (DV.encL args) [] Q
         rw[← he]
         refine⟨by rw[encL_len,tuDv_len];exact hst.1.1,fun hp=>absurd hp (by simp[DFun.er,hst.1.2]),?_⟩
         refine dev_s f.body ho (d:=⟨news (tuDv hs x)++dslots (f.nslots-f.nparams),dboxes f.nbox,[]⟩) ⟨(EL.news _).append (slots_EL _),boxes_EB _,trivial⟩ k1 k2 fun s' hs'=>?_
         unfold rN at k4
         split at k4
         · rename_i v0 st' hr
           split at k4
           · rename_i hv0
             have hv0:v0= .ptr 0 0:=by unfold DV.isP0 at hv0;split at hv0<;>first|rfl|cases hv0
             subst hv0
             split at k4
             · rename_i blk' hblk
               obtain⟨⟨s2,e2,e3⟩,_⟩:=dresS_s hs' hr rfl
               have e4:=e3.hp
               rw[hblk] at e4
               cases hp2:s2.hp with
               |nil=>rw[hp2] at e4;exact e4.elim
               | cons p l=>
                 rw[hp2] at e4
                 have hl0:l=[]:=by cases l<;>first|rfl|exact e4.2.elim
                 subst hl0
                 have hne:0<blk'.length:=by
                  have:=agOf_len k4
                  rw[vals_len] at this
                  have:=Nat.le_of_ble_eq_true hst.2
                  omega
                 have hEL:=e4.1.to hne
                 obtain⟨kn1,_⟩:=agOf_known k4
                 have hpe:p=DV.encL (vals blk'):=by
                  have:∀ {a:List DC} {b:List PV},EL a b→(∀ v∈vals a,v≠.any)→b=DV.encL (vals a):=by
                   intro a
                   induction a with
                   |nil=>intro b h _;cases b<;>first|rfl|exact h.elim
                   | cons c a ih=>
                     intro b h hk
                     cases b with
                     |nil=>exact h.elim
                     | cons x b=>
                       simp only[vals,DV.encL]
                       rcases h.1 with h1|h1
                       · exact absurd h1 (hk _ (List.mem_cons_self ..))
                       · rw[h1,ih h.2 fun v hv=>hk v (List.mem_cons_of_mem _ hv)]
                  exact this hEL kn1
                 have hQ':Q (.ptr 0 0) [DV.encL (agDv cs y)]:=by
                  have:=hQ
                  rw[← hvx] at this;exact this
                 have fin:(match presV s' f.res with|some (v,st)=>if f.pure=true then v.flt=true∧Q v [] else Q v st.hp|none=>False):=by
                  rw[e2]
                  simp only[hst.1.2,Bool.false_eq_true,if_false,hp2]
                  rw[hpe,← ag_of k4]
                  exact hQ'
                 cases e with
                 |normal=>exact fin
                 |ret=>exact fin
                 |exit i=>exact absurd rfl (k3 i)
             · cases k4
           · cases k4
         · cases k4
 · cases h
attribute [irreducible] fnP fnPV fnPOk fnPChk fnPSt fnN fnNV fnNOk fnNChk fnNSt
open Go.RowKit Go.WideShapes Go.ChangeShapes
inductive Ty where
 |int (k:IntKind)
 |bool
 |str
 |sl (t:Ty)
 |unit
 |pair (a b:Ty)
def Ty.w:Ty→Nat
 |.int _|.bool|.str|.sl _=>1
 |.unit=>0
 |.pair a b=>a.w+b.w
def tyFs(P:Program)(f:TypeId→Option Ty):List Field→Nat→Option Ty
 |[],_=>some .unit
 | g::r,off=>
   match f g.type with
   |some a=>if g.offset=off∧a.w=P.cellsOf g.type then (match tyFs P f r (off+a.w) with|some b=>some (.pair a b)|none=>none) else none
   |none=>none
def tyOf(P:Program):Nat→TypeId→Option Ty
 |0,_=>none
 | d+1,t=>
   match P.underlying t with
   |some (.int k)=>some (.int k)
   |some .bool=>some .bool
   |some .string=>some .str
   |some (.slice e)=>(match tyOf P d e with|some te=>if te.w=P.cellsOf e∧0<te.w then some (.sl te) else none|none=>none)
   |some (.struct fs)=>(match tyFs P (tyOf P d) fs.toList 0 with|some ty=>if ty.w=P.cellsOf t then some ty else none|none=>none)
   |_=>none
def Sh(σ:Heap):Ty→List V→Prop
 |.int k,cs=>∃ n,cs=[.int k n]∧(Lit.int k n).wf=true
 |.bool,cs=>∃ b,cs=[.bool b]
 |.str,cs=>∃ s,cs=[.str s]∧s.length≤maxLen
 |.sl t,cs=>cs=[.nils]∨∃ (l n:Nat) (bs:List V),cs=[.slice l 0 n]∧σ[l]?=some ⟨.ro,t.w,bs⟩∧bs.length=n*t.w∧n≤maxLen∧∀ i,i<n→Sh σ t ((bs.drop (i*t.w)).take t.w)
 |.unit,cs=>cs=[]
 |.pair a b,cs=>∃ xs ys,cs=xs++ys∧Sh σ a xs∧Sh σ b ys
theorem Sh.len{σ:Heap}:∀ {ty:Ty} {cs:List V},Sh σ ty cs→cs.length=ty.w
 |.int _,_,⟨_,h,_⟩=>by rw[h];rfl
 |.bool,_,⟨_,h⟩=>by rw[h];rfl
 |.str,_,⟨_,h,_⟩=>by rw[h];rfl
 |.sl _,_,h=>by rcases h with h|⟨_,_,_,h,_⟩<;>rw[h]<;>rfl
 |.unit,_,h=>by rw[h];rfl
 |.pair a b,_,⟨xs,ys,h,h1,h2⟩=>by rw[h,List.length_append,h1.len,h2.len];rfl
theorem Sh.mono{σ e:Heap}:∀ {ty:Ty} {cs:List V},Sh σ ty cs→Sh (σ++e) ty cs
 |.int _,_,h=>h
 |.bool,_,h=>h
 |.str,_,h=>h
 | .sl _,_,h=>by
   rcases h with h|⟨l,n,bs,h,h1,h2,h3,h4⟩
   · exact .inl h
   · exact .inr ⟨l,n,bs,h,by rw[List.getElem?_append_left (get_len h1)];exact h1,h2,h3,fun i hi=>(h4 i hi).mono⟩
 |.unit,_,h=>h
 |.pair _ _,_,⟨xs,ys,h,h1,h2⟩=>⟨xs,ys,h,h1.mono,h2.mono⟩
def AllRo(σ:Heap):Prop:=∀ (l:Nat) (b:Blk),σ[l]?=some b→b.k= .ro
def Built(ι:Inj)(σ:Heap)(W:World)(ty:Ty)(cs:List Value):Prop:=
 ∃ ι' e vs,HRel ι' (σ++e) W∧Keeps ι σ ι' (σ++e)∧AllRo (σ++e)∧Sh (σ++e) ty vs∧vs.length=cs.length∧∀ (i:Nat) v x,vs[i]?=some v→cs[i]?=some x→v.cell=true∧∀ β,Rel ι' (σ++e) β v x
theorem HRel.lay{ι:Inj}{σ:Heap}{W:World}(h:HRel ι σ W)(hro:AllRo σ){b off c:Nat}{wd:Nat}{bs:List V}(hb:b<W.heap.size)(hc:∀ (i:Nat) v,bs[i]?=some v→v.cell=true∧∃ x,W.cell? ⟨b,off+i,none⟩=some x∧∀ β,Rel ι σ β v x) :
 HRel (upd ι σ.length ⟨b,off,c⟩) (σ++[⟨.ro,wd,bs⟩]) W∧AllRo (σ++[⟨.ro,wd,bs⟩]):=by
 have K:=keeps_push ι σ ⟨b,off,c⟩ ⟨.ro,wd,bs⟩
 have hall:AllRo (σ++[⟨.ro,wd,bs⟩]):=by
  intro l blk hl
  rcases push_get hl with⟨_,hl⟩|⟨_,rfl⟩
  · exact hro l blk hl
  · rfl
 refine⟨⟨fun l blk hl hk i v hv=>?_,fun l blk hl hk=>?_,fun l l' blk blk' hne hl hl' hk hk'=>?_,fun l blk hl hk=>?_⟩,hall⟩
 · rcases push_get hl with⟨hlt,hl⟩|⟨rfl,rfl⟩
   · rw[upd_other _ _ _ _ (by omega)]
     obtain⟨a,x,b',c⟩:=h.cells l blk hl hk i v hv
     exact⟨a,x,b',fun β=>(c β).cellMono K a⟩
   · rw[upd_same]
     obtain⟨a,x,b',c⟩:=hc i v hv
     exact⟨a,x,b',fun β=>(c β).cellMono K a⟩
 · have:=hall l blk hl;rw[hk] at this;cases this
 · have:=hall l blk hl;rw[hk] at this;cases this
 · rcases push_get hl with⟨hlt,hl⟩|⟨rfl,rfl⟩
   · rw[upd_other _ _ _ _ (by omega)];exact h.there l blk hl hk
   · rw[upd_same];exact hb
theorem cell_block_lt{w:World}{a:Addr}{v:Value}(h:w.cell? a=some v):a.block<w.heap.size:=by
 unfold World.cell? at h
 rcases Nat.lt_or_ge a.block w.heap.size with h1|h1
 · exact h1
 · rw[Array.getElem?_eq_none h1] at h;cases h
theorem get_lt{α:Type}{l:List α}{i:Nat}{v:α}(h:l[i]?=some v):i<l.length:=by
 rcases Nat.lt_or_ge i l.length with h1|h1
 · exact h1
 · rw[List.getElem?_eq_none h1] at h;cases h
section
variable {H:Type} {enc:TypeId×Value→H} {P:Program} {W:World}
theorem built_fields(d:Nat)(ih:∀ (t:TypeId)(ty:Ty),tyOf P d t=some ty→∀ (fuel:Nat)(cs:List Value) x,DataW.trod enc P W 0 (fun _=>true) true fuel t cs=some x→∀ (ι:Inj)(σ:Heap),HRel ι σ W→AllRo σ→Built ι σ W ty cs) :
 ∀ (fs:List Field) (off:Nat) (ty:Ty),tyFs P (tyOf P d) fs off=some ty→∀ (fuel:Nat) (cs:List Value),(∀ g∈fs,∃ x,DataW.trod enc P W 0 (fun _=>true) true fuel g.type ((cs.drop g.offset).take (P.cellsOf g.type))=some x) →
   off+ty.w=cs.length→∀ (ι:Inj) (σ:Heap),HRel ι σ W→AllRo σ→Built ι σ W ty (cs.drop off)
 | [],off,ty,h,fuel,cs,_,hl,ι,σ,H,hro=>by
   simp only[tyFs,Option.some.injEq] at h
   subst h
   simp only[Ty.w,Nat.add_zero] at hl
   have:cs.drop off=[]:=by rw[hl];simp
   rw[this]
   exact⟨ι,[],[],by simpa using H,by simpa using Keeps.refl ι σ,by simpa using hro,rfl,rfl,by simp⟩
 | g :: r, off,ty,h,fuel,cs,hg,hl,ι,σ,H,hro=>by
   simp only[tyFs] at h
   split at h
   · rename_i a ha
     split at h
     · rename_i hc
       obtain⟨h1,h2⟩:=hc
       split at h
       · rename_i b hb
         cases h
         simp only[Ty.w] at hl
         obtain⟨x,hx⟩:=hg g (by simp)
         rw[h1] at hx
         obtain⟨ι1,e1,vs1,H1,K1,R1,S1,L1,C1⟩:=ih g.type a ha fuel _ x hx ι σ H hro
         obtain⟨ι2,e2,vs2,H2,K2,R2,S2,L2,C2⟩:=built_fields d ih r (off+a.w) b hb fuel cs (fun g' hg'=>hg g' (by simp[hg'])) (by omega) ι1 (σ++e1) H1 R1
         refine⟨ι2,e1++e2,vs1++vs2,by rw[← List.append_assoc];exact H2,by rw[← List.append_assoc];exact K1.trans K2,by rw[← List.append_assoc];exact R2,⟨vs1,vs2,rfl,by rw[← List.append_assoc];exact S1.mono,by rw[← List.append_assoc];exact S2⟩,?_,fun i v y hv hy=>?_⟩
         · rw[List.length_append,L1,L2]
           simp;omega
         · have hl1:vs1.length=a.w:=S1.len
           by_cases hi:i<vs1.length
           · rw[List.getElem?_append_left hi] at hv
             have hy':((cs.drop off).take (P.cellsOf g.type))[i]?=some y:=by
              rw[List.getElem?_take,if_pos (by omega)];exact hy
             obtain⟨q1,q2⟩:=C1 i v y hv hy'
             exact⟨q1,fun β=>by rw[← List.append_assoc];exact(q2 β).cellMono K2 q1⟩
           · rw[List.getElem?_append_right (by omega)] at hv
             have hy':(cs.drop (off+a.w))[i-vs1.length]?=some y:=by
              rw[List.getElem?_drop] at hy ⊢
              have:off+a.w+(i-vs1.length)=off+i:=by omega
              rw[this];exact hy
             obtain⟨q1,q2⟩:=C2 _ v y hv hy'
             exact⟨q1,fun β=>by rw[← List.append_assoc];exact q2 β⟩
       · cases h
     · cases h
   · cases h
theorem add_off{b o:Nat}(n:Nat):Addr.add ⟨b,o,none⟩ n=⟨b,o+n,none⟩:=by
 unfold Addr.add
 split
 · rename_i h;subst h;rfl
 · rfl
theorem built_elems {d:Nat} (ih:∀ (t:TypeId) (ty:Ty),tyOf P d t=some ty→∀ (fuel:Nat) (cs:List Value) x,DataW.trod enc P W 0 (fun _=>true) true fuel t cs=some x→∀ (ι:Inj) (σ:Heap),HRel ι σ W→AllRo σ→Built ι σ W ty cs)
 {e:TypeId} {te:Ty} (hte:tyOf P d e=some te) (hw:te.w=P.cellsOf e) {fuel b o:Nat} :
 ∀ (n:Nat),(∀ i,i<n→∃ cs x,W.cells? 0 ⟨b,o+i*te.w,none⟩ te.w=some cs∧DataW.trod enc P W 0 (fun _=>true) true fuel e cs=some x)→∀ (ι:Inj) (σ:Heap),HRel ι σ W→AllRo σ →
   ∃ (ι':Inj) (ext:Heap) (bs:List V),HRel ι' (σ++ext) W∧Keeps ι σ ι' (σ++ext)∧AllRo (σ++ext)∧bs.length=n*te.w∧(∀ i,i<n→Sh (σ++ext) te ((bs.drop (i*te.w)).take te.w)) ∧
     ∀ (j:Nat) v,bs[j]?=some v→v.cell=true∧∃ x,W.cell? ⟨b,o+j,none⟩=some x∧∀ β,Rel ι' (σ++ext) β v x
 |0,_,ι,σ,H0,hro=>⟨ι,[],[],by simpa using H0,by simpa using Keeps.refl ι σ,by simpa using hro,by simp,fun i hi=>absurd hi (Nat.not_lt_zero i),by simp⟩
 | n + 1,hn,ι,σ,H0,hro=>by
   obtain⟨ι1,e1,bs,H1,K1,R1,L1,S1,C1⟩:=built_elems ih hte hw n (fun i hi=>hn i (Nat.lt_succ_of_lt hi)) ι σ H0 hro
   obtain⟨cs,x,hc,hx⟩:=hn n (Nat.lt_succ_self n)
   obtain⟨ι2,e2,vs,H2,K2,R2,S2,L2,C2⟩:=ih e te hte fuel cs x hx ι1 (σ++e1) H1 R1
   obtain⟨_,hcl,hcg⟩:=World.cells?_some hc
   refine⟨ι2,e1++e2,bs++vs,by rw[← List.append_assoc];exact H2,by rw[← List.append_assoc];exact K1.trans K2,by rw[← List.append_assoc];exact R2,?_,fun i hi=>?_,fun j v hv=>?_⟩
   · rw[List.length_append,L1,L2,hcl,Nat.succ_mul]
   · rw[← List.append_assoc]
     by_cases h:i<n
     · have h1:(i+1)*te.w≤n*te.w:=Nat.mul_le_mul_right _ h
       rw[Nat.succ_mul] at h1
       have:((bs++vs).drop (i*te.w)).take te.w=(bs.drop (i*te.w)).take te.w:=by
        rw[List.drop_append_of_le_length (by omega),List.take_append_of_le_length (by rw[List.length_drop];omega)]
       rw[this]
       exact(S1 i h).mono
     · have:i=n:=by omega
       subst this
       have:((bs++vs).drop (i*te.w)).take te.w=vs:=by
        rw[← L1,List.drop_left,List.take_of_length_le (by omega)]
       rw[this]
       exact S2
   · by_cases h:j<bs.length
     · rw[List.getElem?_append_left h] at hv
       obtain⟨q1,y,q2,q3⟩:=C1 j v hv
       exact⟨q1,y,q2,fun β=>by rw[← List.append_assoc];exact(q3 β).cellMono K2 q1⟩
     · rw[List.getElem?_append_right (by omega)] at hv
       have hlt:=get_lt hv
       have hlt':j-bs.length<te.w:=by rw[← hcl,← L2];exact hlt
       have hg:=hcg (j-bs.length) hlt'
       rw[add_off] at hg
       have e0:o+n*te.w+(j-bs.length)=o+j:=by omega
       rw[e0] at hg
       obtain⟨y,hy⟩:∃ y,cs[j-bs.length]?=some y:=⟨_,List.getElem?_eq_getElem (by omega)⟩
       obtain⟨q1,q2⟩:=C2 _ v y hv hy
       exact⟨q1,y,hg.trans hy,fun β=>by rw[← List.append_assoc];exact q2 β⟩
theorem built_of_trod:∀ (d:Nat) (t:TypeId) (ty:Ty),tyOf P d t=some ty→∀ (fuel:Nat) (cs:List Value) x,DataW.trod enc P W 0 (fun _=>true) true fuel t cs=some x→∀ (ι:Inj) (σ:Heap),HRel ι σ W→AllRo σ→Built ι σ W ty cs
 |0,_,_,h=>by simp[tyOf] at h
 | d + 1, t, ty,h=>by
   intro fuel cs x hx ι σ H0 hro
   have one:∀ (v:V) (y:Value),cs=[y]→v.cell=true→(∀ β,Rel ι σ β v y)→Sh σ ty [v]→Built ι σ W ty cs:=by
    intro v y hc hv hr hs
    refine⟨ι,[],[v],by simpa using H0,by simpa using Keeps.refl ι σ,by simpa using hro,by simpa using hs,by rw[hc];rfl,fun i u z hu hz=>?_⟩
    rw[hc] at hz
    cases i with
    |zero=>simp at hu hz;subst hu;subst hz;exact⟨hv,by simpa using hr⟩
    |succ i=>simp at hu
   unfold tyOf at h
   split at h
   · rename_i k hu
     cases h
     obtain⟨n,hc,_,hwf⟩:=DataW.trod_int hu hx
     exact one (.int k n) _ hc rfl (fun β=>.int k n) ⟨n,rfl,hwf⟩
   · rename_i hu
     cases h
     obtain⟨b,hc,_⟩:=DataW.trod_bool hu hx
     exact one (.bool b) _ hc rfl (fun β=>.bool b) ⟨b,rfl⟩
   · rename_i hu
     cases h
     obtain⟨s,hc,_,hwf⟩:=DataW.trod_string hu hx
     exact one (.str s.data.toList) _ hc rfl (fun β=>by have:=Rel.str (ι:=ι) (σ:=σ) (β:=β) s.data.toList;simpa using this) ⟨s.data.toList,rfl,by simpa using hwf⟩
   · rename_i e hu
     split at h
     · rename_i te hte
       split at h
       · rename_i hw
         obtain⟨hw,hpos⟩:=hw
         cases h
         rcases DataW.trod_slice hu hx with⟨hc,_⟩|⟨a,len,cap,elems,rest,n,_,hc,_,_,hle,hcap,hel,hE,hR,_⟩
         · exact one .nils _ hc rfl (fun β=>.nils none) (.inl rfl)
         · obtain⟨hrl,hR⟩:=hR rfl
           have hcell:∀ i,i<cap→∃ cs' y,W.cells? 0 (a.add (i*P.cellsOf e)) (P.cellsOf e)=some cs'∧DataW.trod enc P W 0 (fun _=>true) true n e cs'=some y:=by
            intro i hi
            by_cases h:i<len
            · have h1:=hE i h
              obtain⟨y,hy⟩:∃ y,elems[i]?=some y:=⟨_,List.getElem?_eq_getElem (by omega)⟩
              rw[hy,Option.bind_eq_some_iff] at h1
              obtain⟨cs',h1,h2⟩:=h1
              exact⟨cs',y,h1,h2⟩
            · have h1:=hR (i-len) (by omega)
              obtain⟨y,hy⟩:∃ y,rest[i-len]?=some y:=⟨_,List.getElem?_eq_getElem (by omega)⟩
              rw[hy,Option.bind_eq_some_iff] at h1
              obtain⟨cs',h1,h2⟩:=h1
              rw[show len+(i-len)=i by omega] at h1
              exact⟨cs',y,h1,h2⟩
           by_cases hc0:cap=0
           · subst hc0
             have:len=0:=by omega
             subst this
             exact one .nils _ hc rfl (fun β=>.nils (some a)) (.inl rfl)
           · have hsp:a.spot=none∧a.block<W.heap.size:=by
              obtain⟨cs',y,h1,_⟩:=hcell 0 (by omega)
              obtain⟨_,h2,h3⟩:=World.cells?_some h1
              have h4:=h3 0 (by omega)
              obtain⟨z,hz⟩:∃ z,cs'[0]?=some z:=⟨_,List.getElem?_eq_getElem (by omega)⟩
              rw[hz] at h4
              have h5:W.cell? a=some z:=by simpa [Addr.add] using h4
              exact⟨World.cell?_spot h5,cell_block_lt h5⟩
             obtain⟨ab,ao,asp⟩:=a
             obtain⟨hsp,hlt⟩:=hsp
             simp only at hsp hlt
             subst hsp
             have hcell':∀ i,i<len→∃ cs' y,W.cells? 0 ⟨ab,ao+i*te.w,none⟩ te.w=some cs'∧DataW.trod enc P W 0 (fun _=>true) true n e cs'=some y:=by
              intro i hi
              have:=hcell i (by omega)
              rw[add_off,← hw] at this
              exact this
             obtain⟨ι1,e1,bs,H1,K1,R1,L1,S1,C1⟩:=built_elems (built_of_trod d) hte hw len hcell' ι σ H0 hro
             obtain⟨H2,R2⟩:=H1.lay R1 (c:=cap*te.w) (wd:=te.w) hlt C1
             have K2:=keeps_push ι1 (σ++e1) ⟨ab,ao,cap*te.w⟩ ⟨.ro,te.w,bs⟩
             have hg:((σ++e1)++[(⟨.ro,te.w,bs⟩:Blk)])[(σ++e1).length]?=some ⟨.ro,te.w,bs⟩:=by simp
             refine⟨_,e1++[⟨.ro,te.w,bs⟩],[.slice (σ++e1).length 0 len],by rw[← List.append_assoc];exact H2,by rw[← List.append_assoc];exact K1.trans K2,by rw[← List.append_assoc];exact R2,.inr ⟨_,len,bs,rfl,by rw[← List.append_assoc];exact hg,L1,by omega,fun i hi=>by rw[← List.append_assoc];exact(S1 i hi).mono⟩,by rw[hc];rfl,fun i u z hu hz=>?_⟩
             rw[hc] at hz
             cases i with
             | zero=>
               simp at hu hz;subst hu;subst hz
               refine⟨rfl,fun β=>?_⟩
               have:=Rel.slice (ι:=upd ι1 (σ++e1).length ⟨ab,ao,cap*te.w⟩) (σ:=(σ++e1)++[⟨.ro,te.w,bs⟩]) (β:=β) (σ++e1).length 0 len cap ⟨.ro,te.w,bs⟩ hg hle (by rw[upd_same];simp) (by first|assumption|(simp only;omega))
               rw[upd_same] at this
               simpa using this
             |succ i=>simp at hu
       · cases h
     · cases h
   · rename_i fs hu
     split at h
     · rename_i ty' hty
       split at h
       · rename_i hw
         cases h
         obtain⟨xs,n,_,_,hl,hxl,hf⟩:=DataW.trod_struct hu hx
         have:=built_fields (enc:=enc) d (built_of_trod d) fs.toList 0 _ hty n cs (fun g hg=>by
          obtain⟨i,hi⟩:=List.getElem?_of_mem hg
          have h1:=hf i g (by simpa using hi)
          have:i<xs.length:=by rw[hxl];have:=get_lt hi;simpa using this
          exact⟨_,h1.trans (List.getElem?_eq_getElem this)⟩) (by omega) ι σ H0 hro
         simpa using this
       · cases h
     · cases h
   · cases h
end
open Go.RowKit Go.WideShapes Go.ChangeShapes
def argTy(P:Program)(d:Nat)(t:TypeId):Option (Ty×Bool):=
 match tyOf P d t with
 | some ty=>(match P.underlying t with
   |some (.struct _)=>some (ty,true)
   |some (.int _)|some .bool|some .string|some (.slice _)=>some (ty,false)
   |_=>none)
 |none=>none
def argTys(P:Program)(d:Nat):List TypeId→Option (List (Ty×Bool))
 |[]=>some []
 | t::r=>match argTy P d t,argTys P d r with
   |some a,some b=>some (a::b)
   |_,_=>none
def ArgOk(σ:Heap):Ty×Bool→V→Prop
 |(ty,true),v=>∃ cs,v= .agg cs∧Sh σ ty cs∧cs.all V.cell=true
 |(ty,false),v=>Sh σ ty [v]∧v.cell=true
def ArgsOk(σ:Heap):List (Ty×Bool)→List V→Prop
 |[],[]=>True
 |a::r,v::s=>ArgOk σ a v∧ArgsOk σ r s
 |_,_=>False
theorem ArgOk.mono{σ e:Heap}{a:Ty×Bool}{v:V}(h:ArgOk σ a v):ArgOk (σ++e) a v:=by
 obtain⟨ty,b⟩:=a
 cases b with
 |true=>obtain⟨cs,h1,h2,h3⟩:=h;exact⟨cs,h1,h2.mono,h3⟩
 |false=>exact⟨h.1.mono,h.2⟩
theorem ArgOk.noBox{σ:Heap}{a:Ty×Bool}{v:V}(h:ArgOk σ a v):∀ i o,v≠.box i o:=by
 obtain⟨ty,b⟩:=a
 intro i o e
 subst e
 cases b with
 |true=>obtain⟨cs,h1,_⟩:=h;cases h1
 |false=>have:=h.2;cases this
section
variable {H:Type} {enc:TypeId×Value→H} {P:Program} {W:World} {r:Reach} {base:Nat}
theorem built_arg {d:Nat} {t:TypeId} {a:Ty×Bool} (ha:argTy P d t=some a) {v:Value} {dd:DataW H} {ps:List MemPlace} (h:DataW.Trod enc P W 0 (fun _=>true) true t v dd ps) (hok:Value.okWide P W r base t v)
 (ι:Inj) (σ:Heap) (H0:HRel ι σ W) (hro:AllRo σ) :
 ∃ ι' e u,HRel ι' (σ++e) W∧Keeps ι σ ι' (σ++e)∧AllRo (σ++e)∧ArgOk (σ++e) a u∧∀ β,Rel ι' (σ++e) β u v:=by
 unfold argTy at ha
 split at ha
 · rename_i ty hty
   obtain⟨fuel,hx⟩:=h
   obtain⟨ι',e,vs,h1,h2,h3,h4,h5,h6⟩:=built_of_trod d t ty hty fuel _ _ hx ι σ H0 hro
   have one:∀ (hc:v.cells=#[v]),a=(ty,false)→∃ ι' e u,HRel ι' (σ++e) W∧Keeps ι σ ι' (σ++e)∧AllRo (σ++e)∧ArgOk (σ++e) a u∧∀ β,Rel ι' (σ++e) β u v:=by
    intro hc ea
    rw[hc] at h5 h6
    match vs,h5,h4,h6 with
    | [u],_,h4,h6=>
      obtain⟨c1,c2⟩:=h6 0 u v rfl rfl
      exact⟨ι',e,u,h1,h2,h3,by rw[ea];exact⟨h4,c1⟩,c2⟩
   split at ha
   · rename_i fs hu
     cases ha
     obtain⟨cs,rfl,_⟩:=okWide_struct hu hok
     replace h5:vs.length=cs.toList.length:=h5
     refine⟨ι',e,.agg vs,h1,h2,h3,⟨vs,rfl,h4,?_⟩,fun β=>?_⟩
     · rw[List.all_eq_true]
       intro u hu'
       obtain⟨i,hi⟩:=List.getElem?_of_mem hu'
       have:i<cs.toList.length:=by rw[← h5];exact get_lt hi
       exact(h6 i u _ hi (List.getElem?_eq_getElem this)).1
     · have:=Rel.agg (ι:=ι') (σ:=σ++e) (β:=β) vs cs.toList h5 (fun u hu'=>by
        obtain⟨i,hi⟩:=List.getElem?_of_mem hu'
        have:i<cs.toList.length:=by rw[← h5];exact get_lt hi
        exact(h6 i u _ hi (List.getElem?_eq_getElem this)).1) (fun i u w hi hw=>(h6 i u w hi hw).2 β)
       simpa using this
   · rename_i k hu
     cases ha
     obtain⟨n,rfl⟩:=okWide_int hu hok
     exact one rfl rfl
   · rename_i hu
     cases ha
     obtain⟨n,rfl⟩:=okWide_bool hu hok
     exact one rfl rfl
   · rename_i hu
     cases ha
     obtain⟨n,rfl⟩:=okWide_string hu hok
     exact one rfl rfl
   · rename_i el hu
     cases ha
     obtain⟨x,y,z,rfl⟩:=okWide_slice hu hok
     exact one rfl rfl
   · cases ha
 · cases ha
theorem built_args{d:Nat}:∀ {ts:List TypeId} {tys:List (Ty×Bool)},argTys P d ts=some tys→∀ {vs:List Value} {ds:List (DataW H)} {ps:List MemPlace},DataW.TrodAll enc P W 0 (fun _=>true) true ts vs ds ps →
 (∀ (j:Nat) t v,ts[j]?=some t→vs[j]?=some v→Value.okWide P W r base t v)→∀ (ι:Inj) (σ:Heap),HRel ι σ W→AllRo σ →
 ∃ ι' e us,HRel ι' (σ++e) W∧Keeps ι σ ι' (σ++e)∧AllRo (σ++e)∧ArgsOk (σ++e) tys us∧us.length=vs.length∧∀ (i:Nat) u v,us[i]?=some u→vs[i]?=some v→(∀ j o,u≠.box j o)∧∀ β,Rel ι' (σ++e) β u v
 | [],tys,h,vs,ds,ps,hd,_,ι,σ,H0,hro=>by
   obtain⟨rfl,_,_⟩:=trodAll_nil hd
   cases h
   exact⟨ι,[],[],by simpa using H0,by simpa using Keeps.refl ι σ,by simpa using hro,trivial,rfl,by simp⟩
 | t :: ts,tys,h,vs,ds,ps,hd,hok,ι,σ,H0,hro=>by
   obtain⟨v,vs',x,ds',p,q,rfl,rfl,rfl,h1,h2⟩:=trodAll_cons hd
   unfold argTys at h
   split at h
   · rename_i a b ha hb
     cases h
     obtain⟨ι1,e1,u,H1,K1,R1,A1,C1⟩:=built_arg ha h1 (hok 0 t v rfl rfl) ι σ H0 hro
     obtain⟨ι2,e2,us,H2,K2,R2,A2,L2,C2⟩:=built_args hb h2 (fun j t' v' hj hv=>hok (j+1) t' v' hj hv) ι1 (σ++e1) H1 R1
     refine⟨ι2,e1++e2,u::us,by rw[← List.append_assoc];exact H2,by rw[← List.append_assoc];exact K1.trans K2,by rw[← List.append_assoc];exact R2,by rw[← List.append_assoc];exact⟨A1.mono,A2⟩,by simp[L2],fun i u' v' hu hv=>?_⟩
     rw[← List.append_assoc]
     cases i with
     | zero=>
       simp at hu hv;subst hu;subst hv
       exact⟨A1.noBox,fun β=>(C1 β).mono K2 (fun j o e=>absurd e (A1.noBox j o))⟩
     |succ i=>exact C2 i u' v' (by simpa using hu) (by simpa using hv)
   · cases h
end
def rowsOk(P:Program)(ts:List TypeId):Bool:=ts.all fun t=>P.readableRec t&&decide (t<P.types.size)
theorem trodAll_stays{H:Type}{enc:TypeId×Value→H}{P:Program}(hl:laidOutB P=true){W W':World}{sp':Nat→Bool}:∀ {ts:List TypeId} {vs:List Value} {ds:List (DataW H)} {ps:List MemPlace},rowsOk P ts=true →
 DataW.TrodAll enc P W 0 (fun _=>true) true ts vs ds ps→(∀ p∈ps,W.sameAt W' p)→(∀ p∈ps,sp' p.block=true)→DataW.TrodAll enc P W' 0 sp' true ts vs ds ps
 | [],vs,ds,ps,_,h,_,_=>by
   obtain⟨rfl,rfl,rfl⟩:=trodAll_nil h
   rfl
 | t::ts,vs,ds,ps,hr,h,h1,h2=>by
   obtain⟨v,vs',x,ds',p,q,rfl,rfl,rfl,g1,g2⟩:=trodAll_cons h
   unfold rowsOk at hr
   rw[List.all_cons,Bool.and_eq_true,Bool.and_eq_true,decide_eq_true_eq] at hr
   exact⟨p,q,WideElems.Trod_stays hl hr.1.1 hr.1.2 g1 (fun y hy=>h1 y (by simp[hy])) (fun y hy=>h2 y (by simp[hy])),trodAll_stays hl hr.2 g2 (fun y hy=>h1 y (by simp[hy])) (fun y hy=>h2 y (by simp[hy])),rfl⟩
theorem post_of_under {H:Type} {enc:TypeId×Value→H} {P:Program} {f:Func} {s:ChangeSpec} {apart fresh handsOn again:Bool} {W W':World} {args:Array Value} {v:Value} {ds gs:List (DataW H)} {before pa pv:List MemPlace}
 (hW:DataW.Whole enc P f.params.toList s.vars apart W args.toList ds gs before)
 (hres:∀ (b:Nat) (sp:Nat→Bool) (hd:Bool),DataW.TrodAll enc P W' b sp hd f.resultTypes.toList (v.resultList f.resultTypes.size) (s.fn H (ds++gs)).results [])
 (hargs:∀ sp:Nat→Bool,(∀ p∈before,sp p.block=true)→DataW.TrodAll enc P W' 0 sp true f.params.toList args.toList (s.fn H (ds++gs)).args pa)
 (hvars:∀ sp:Nat→Bool,(∀ p∈before,sp p.block=true)→DataW.TrodVars enc P W' sp s.vars (s.fn H (ds++gs)).vars pv)
 (hps:before=pa++pv) (hb:Below W.heap.size W W')
 (hok:∀ (j:Nat) (t:TypeId) (r:Value),f.resultTypes[j]?=some t→(v.resultList f.resultTypes.size)[j]?=some r→Value.okWide P W' .any 0 t r) :
 s.post enc P f apart fresh handsOn again W args v W':=by
 have hlt:∀ p∈before,p.block<W.heap.size:=fun p hp=>hW.lt p hp
 have hold:∀ p∈before,(fun b=>decide (b<W.heap.size)) p.block=true:=fun p hp=>by simpa using hlt p hp
 refine⟨ds,gs,before,[],pa,pv,hW,hres _ _ _,hargs _ hold,hvars _ hold,World.keptBut_mono (fun p hp=>⟨hp,?_⟩) (hb.frame (·∈before)),fun _=>?_⟩
 · rw[hps,List.mem_append] at hp
   exact Or.inr hp
 · obtain⟨_,_,_,_,_,hz,hn⟩:=hW
   refine⟨hok,_,_,([]++pa)++pv,⟨[]++pa,pv,trodAll_append (hargs _ (fun _ _=>rfl)) (hres _ _ _),hvars _ (fun _ _=>rfl),rfl,?_,?_⟩,?_⟩
   · intro b off hp
     have hin:MemPlace.cell b off∈before:=by rw[hps];simpa using hp
     rw[hb.frozen (hlt _ hin)]
     exact hz b off hin
   · intro ha
     have:=hn ha
     rw[hps] at this
     simpa using this
   · intro p hp _
     rw[hps]
     simpa using hp
theorem law_contract {H:Type} {enc:TypeId×Value→H} {P:Program} {f:FuncId} {fn:Func} {s:ChangeSpec} {apart fresh handsOn again:Bool} {sem:CallSem} {tys:List (Ty×Bool)} {d:Nat} {tb:TypeId}
 (hs:SoundCall P f sem) (has:argTys P d fn.params.toList=some tys) (hrows:rowsOk P fn.params.toList=true) (hl:laidOutB P=true)
 (hres:fn.resultTypes=#[tb]) (htb:P.underlying tb=some .bool) (hvars:s.vars=[])
 (hspec:∀ ds:List (DataW H),ds.length=tys.length→s.fn H ds={ results:=[.lit (.bool true)],args:=ds })
 (law:∀ (σ:Heap) (us:List V),AllRo σ→ArgsOk σ tys us→sem us σ fun r _=>r= .bool true)
 {W:World} {base:Nat} {args:Array Value} {ds gs:List (DataW H)} {before:List MemPlace}
 (hval:∀ (j:Nat) t v,fn.params[j]?=some t→args[j]?=some v→Value.okWide P W .any base t v)
 (hW:DataW.Whole enc P fn.params.toList s.vars apart W args.toList ds gs before) :
 Calls P f args W fun e W'=>∃ v,e= .returned v∧s.post enc P fn apart fresh handsOn again W args v W':=by
 have hW':=hW
 obtain⟨p,q,hA,hV,rfl,hfz,hnd⟩:=hW
 rw[hvars] at hV
 obtain⟨rfl,rfl⟩:=trodVars_none hV
 rw[List.append_nil] at hW'
 obtain⟨ι,e,us,H1,_,R1,A1,L1,C1⟩:=built_args (d:=d) has hA (fun j t v hj hv=>hval j t v (by simpa using hj) (by simpa using hv)) (fun _=>⟨0,0,0⟩) [] ⟨by simp,by simp,by simp,by simp⟩ (fun l b h=>by simp at h)
 simp only[List.nil_append] at H1 R1 A1 C1
 have hc:=hs Phm.no ι e W us args.toList _ (.no e) (by rw[kill_no];exact H1) (by rw[kill_no];exact⟨L1,fun i u v hu hv=>(C1 i u v hu hv).2⟩) (law e us R1 A1)
 have hlen:ds.length=tys.length:=by
  have h1:∀ {ts:List TypeId} {tys:List (Ty×Bool)},argTys P d ts=some tys→tys.length=ts.length:=by
   intro ts
   induction ts with
   |nil=>intro tys h;cases h;rfl
   | cons t ts ih=>
     intro tys h
     unfold argTys at h
     split at h
     · rename_i a b _ hb
       cases h
       simp[ih hb]
     · cases h
  have h2:∀ {ts:List TypeId} {vs:List Value} {ds:List (DataW H)} {ps:List MemPlace},DataW.TrodAll enc P W 0 (fun _=>true) true ts vs ds ps→ds.length=ts.length:=by
   intro ts
   induction ts with
   |nil=>intro vs ds ps h;obtain⟨_,rfl,_⟩:=trodAll_nil h;rfl
   | cons t ts ih=>
     intro vs ds ps h
     obtain⟨v,vs',x,ds',p,q,rfl,rfl,rfl,_,g2⟩:=trodAll_cons h
     simp[ih g2]
  rw[h1 has,h2 hA]
 refine(Calls.mono (by simpa using hc) fun en W' hd=>?_:Calls P f args W _)
 obtain⟨x,r,σ',ι',rfl,rfl,_,hx,_,hstep⟩:=hd
 rw[kill_no,kill_no] at hstep
 have hx':=hx (fun _=>0)
 cases hx'
 have hb:Below W.heap.size W W':=⟨hstep.os,hstep.tape,hstep.output,hstep.size,fun k hk=>hstep.frame k hk fun l blk hl hk'=>by have:=R1 l blk hl;rw[hk'] at this;cases this⟩
 have hfn:=hspec (ds++[]) (by simpa using hlen)
 have hlt:∀ x∈p,x.block<W.heap.size:=fun x hx=>hW'.lt x hx
 refine⟨_,rfl,post_of_under (pa:=p) (pv:=[]) hW' (fun _ _ _=>?_) (fun sp hsp=>?_) (fun sp _=>?_) (by simp) hb (ok_one hres rfl (okWide_bool_mk htb true))⟩
 · rw[hfn,hres]
   exact trodAll_cons_mk (shut_bool htb true) trodAll_mk0
 · rw[hfn]
   simp only[List.append_nil]
   exact trodAll_stays hl hrows hA (fun x hx=>hb.same (hlt x hx)) hsp
 · rw[hfn,hvars]
   rfl
open Go.ChangeShapes
mutual
def CT.wf:(t:CT)→t.D→Prop
 |.int k,n=>(Lit.int k n).wf=true
 |.bool,_=>True
 |.str,s=>s.length≤maxLen
 |.ifc,_=>True
 |.sl r,l=>@List.length r.D l≤maxLen∧∀ x:r.D,@Membership.mem r.D (List r.D) inferInstance l x→RT.wf r x
def RT.wf:(r:RT)→r.D→Prop
 |.one t,x=>CT.wf t x
 |.cons t r,x=>CT.wf t x.1∧RT.wf r x.2
end
def AgX.wf:(l:List (Ql×CT))→AgX l→Prop
 |[],_=>True
 |[a],x=>a.2.wf x
 |a::b::r,x=>a.2.wf x.1∧AgX.wf (b::r) x.2
def HT.wf:(h:HT)→h.D→Prop
 |.one _ t,x=>t.wf x
 |.agg l,x=>AgX.wf l x
def TuX.wf:(l:List HT)→TuX l→Prop
 |[],_=>True
 |[a],x=>a.wf x
 |a::b::r,x=>a.wf x.1∧TuX.wf (b::r) x.2
def rtOf:List CT→RT
 |[]=>.one .bool
 |[a]=>.one a
 |a::b::r=>.cons a (rtOf (b::r))
def Ty.cts:Ty→List CT
 |.int k=>[.int k]
 |.bool=>[.bool]
 |.str=>[.str]
 |.sl t=>[.sl (rtOf t.cts)]
 |.unit=>[]
 |.pair a b=>a.cts++b.cts
def Ty.good:Ty→Bool
 |.sl t=>Nat.blt 0 t.w&&t.good
 |.pair a b=>a.good&&b.good
 |_=>true
def htOf:Ty×Bool→HT
 |(ty,true)=>.agg (ty.cts.map fun t=>(.frz,t))
 |(ty,false)=>match ty.cts with|[c]=>.one .frz c|_=>.agg []
def argGood:Ty×Bool→Bool
 |(ty,true)=>ty.good
 |(ty,false)=>ty.good&&ty.cts.length == 1
def DL:List CT→Type
 |[]=>Unit
 |a::r=>a.D×DL r
def DL.wf:(l:List CT)→DL l→Prop
 |[],_=>True
 |a::r,x=>a.wf x.1∧DL.wf r x.2
def DL.enc:(l:List CT)→DL l→List PV
 |[],_=>[]
 |a::r,x=>CT.enc a x.1::DL.enc r x.2
def DL.encF:(l:List CT)→DL l→List PV
 |[],_=>[]
 |a::r,x=>(CT.dv .frz a x.1).enc::DL.encF r x.2
def DL.app:(l m:List CT)→DL l→DL m→DL (l++m)
 |[],_,_,y=>y
 |_::l,m,x,y=>(x.1,DL.app l m x.2 y)
theorem DL.app_enc:∀ (l m:List CT) (x:DL l) (y:DL m),DL.enc (l++m) (DL.app l m x y)=DL.enc l x++DL.enc m y
 |[],_,_,_=>rfl
 | a::l,m,x,y=>by
   show CT.enc a x.1::DL.enc (l++m) (DL.app l m x.2 y)=CT.enc a x.1::(DL.enc l x.2++DL.enc m y)
   rw[DL.app_enc l m x.2 y]
theorem DL.app_encF:∀ (l m:List CT) (x:DL l) (y:DL m),DL.encF (l++m) (DL.app l m x y)=DL.encF l x++DL.encF m y
 |[],_,_,_=>rfl
 | a::l,m,x,y=>by
   show (CT.dv .frz a x.1).enc::DL.encF (l++m) (DL.app l m x.2 y)=(CT.dv .frz a x.1).enc::(DL.encF l x.2++DL.encF m y)
   rw[DL.app_encF l m x.2 y]
theorem DL.app_wf:∀ (l m:List CT) (x:DL l) (y:DL m),DL.wf l x→DL.wf m y→DL.wf (l++m) (DL.app l m x y)
 |[],_,_,_,_,h=>h
 |_::l,m,x,y,h,h'=>⟨h.1,DL.app_wf l m x.2 y h.2 h'⟩
theorem DL.len:∀ (l:List CT) (x:DL l),(DL.enc l x).length=l.length
 |[],_=>rfl
 |_::l,x=>by show _+1=_+1;rw[DL.len l x.2]
theorem DL.lenF:∀ (l:List CT) (x:DL l),(DL.encF l x).length=l.length
 |[],_=>rfl
 |_::l,x=>by show _+1=_+1;rw[DL.lenF l x.2]
def DL.rt:(l:List CT)→DL l→(rtOf l).D
 |[],_=>false
 |[_],x=>x.1
 |_::b::r,x=>(x.1,DL.rt (b::r) x.2)
theorem DL.rt_enc:∀ (l:List CT) (x:DL l),l≠[]→RT.enc (rtOf l) (DL.rt l x)=DL.enc l x
 |[],_,h=>absurd rfl h
 |[_],_,_=>rfl
 | a::b::r,x,_=>by
   show CT.enc a x.1::RT.enc (rtOf (b::r)) (DL.rt (b::r) x.2)=CT.enc a x.1::DL.enc (b::r) x.2
   rw[DL.rt_enc (b::r) x.2 (by simp)]
theorem DL.rt_wf:∀ (l:List CT) (x:DL l),l≠[]→DL.wf l x→RT.wf (rtOf l) (DL.rt l x)
 |[],_,h,_=>absurd rfl h
 |[_],_,_,h=>h.1
 |a::b::r,x,_,h=>⟨h.1,DL.rt_wf (b::r) x.2 (by simp) h.2⟩
def DL.ag:(l:List CT)→DL l→AgX (l.map fun t=>(Ql.frz,t))
 |[],_=>()
 |[_],x=>x.1
 |_::b::r,x=>(x.1,DL.ag (b::r) x.2)
theorem DL.ag_enc:∀ (l:List CT) (x:DL l),DV.encL (agDv (l.map fun t=>(Ql.frz,t)) (DL.ag l x))=DL.encF l x
 |[],_=>rfl
 |[_],_=>rfl
 | a::b::r,x=>by
   show (CT.dv .frz a x.1).enc::DV.encL (agDv ((b::r).map fun t=>(Ql.frz,t)) (DL.ag (b::r) x.2))=(CT.dv .frz a x.1).enc::DL.encF (b::r) x.2
   rw[DL.ag_enc (b::r) x.2]
theorem DL.ag_wf:∀ (l:List CT) (x:DL l),DL.wf l x→AgX.wf (l.map fun t=>(Ql.frz,t)) (DL.ag l x)
 |[],_,_=>trivial
 |[_],_,h=>h.1
 |a::b::r,x,h=>⟨h.1,DL.ag_wf (b::r) x.2 h.2⟩
theorem cts_len:∀ (t:Ty),t.cts.length=t.w
 |.int _|.bool|.str|.sl _|.unit=>rfl
 |.pair a b=>by simp only[Ty.cts,Ty.w,List.length_append,cts_len a,cts_len b]
def ωro(σ:Heap):Nat→W:=fun l=>if l<σ.length then .frz else .none
theorem ωro_frz{σ:Heap}{l:Nat}{b:Blk}(h:σ[l]?=some b):ωro σ l= .frz:=by
 unfold ωro;rw[if_pos (get_len h)]
theorem pget_app_left:∀ (a b:List PV) (i:Nat),i<a.length→pget (a++b) i=pget a i
 |[],_,_,h=>by cases h
 |_::_,_,0,_=>rfl
 |_::a,b,i+1,h=>pget_app_left a b i (by simpa using h)
theorem pget_app_right:∀ (a b:List PV) (i:Nat),pget (a++b) (a.length+i)=pget b i
 |[],_,_=>by simp
 | _::a,b,i=>by
   have:=pget_app_right a b i
   simp only[List.cons_append,List.length_cons,Nat.add_right_comm]
   exact this
theorem get_app_left:∀ (a b:List V) (i:Nat),i<a.length→get (a++b) i=get a i
 |[],_,_,h=>by cases h
 |_::_,_,0,_=>rfl
 |_::a,b,i+1,h=>get_app_left a b i (by simpa using h)
theorem get_app_right:∀ (a b:List V) (i:Nat),get (a++b) (a.length+i)=get b i
 |[],_,_=>by simp
 | _::a,b,i=>by
   have:=get_app_right a b i
   simp only[List.cons_append,List.length_cons,Nat.add_right_comm]
   exact this
theorem get_drop_take:∀ (l:List V) (o n i:Nat),i<n→get ((l.drop o).take n) i=get l (o+i)
 |[],o,n,i,_=>by simp[get]
 |c::r,0,0,i,h=>by cases h
 |c::r,0,n+1,0,_=>rfl
 | c::r,0,n+1,i+1,h=>by
   have:=get_drop_take r 0 n i (by omega)
   simp only[Nat.zero_add] at this
   simp only[List.drop_zero,List.take_succ_cons,get,Nat.zero_add]
   simpa using this
 | c::r,o+1,n,i,h=>by
   have:=get_drop_take r o n i h
   rw[List.drop_succ_cons,this,Nat.add_right_comm]
   rfl
theorem pget_flat{w:Nat}:∀ (es:List (List PV)) (i j:Nat),(∀ e∈es,e.length=w)→j<w→i<es.length→pget es.flatten (i*w+j)=pget (elt es i) j
 |[],i,_,_,_,h=>by cases h
 | e::r,0,j,hw,hj,_=>by
   have he:=hw e (List.mem_cons_self ..)
   rw[Nat.zero_mul,Nat.zero_add,List.flatten_cons,pget_app_left _ _ _ (by omega)]
   rfl
 | e::r,i+1,j,hw,hj,h=>by
   have he:=hw e (List.mem_cons_self ..)
   rw[List.flatten_cons,show (i+1)*w+j=e.length+(i*w+j) by rw[he,Nat.succ_mul];omega,pget_app_right]
   exact pget_flat r i j (fun e h=>hw e (List.mem_cons_of_mem _ h)) hj (by simpa using h)
theorem elt_map' {α:Type}(f:α→List PV):∀ (l:List α) (i:Nat) (h:i<l.length),elt (l.map f) i=f l[i]
 |[],_,h=>by cases h
 |_::_,0,_=>rfl
 |_::l,i+1,h=>elt_map' f l i (by simpa using h)
theorem sh_data{σ:Heap}:∀ (ty:Ty) {cs:List V},ty.good=true→Sh σ ty cs→∃ x:DL ty.cts,DL.wf ty.cts x ∧
 (∀ i,RC σ (ωro σ) .fz (pget (DL.enc ty.cts x) i) (get cs i))∧∀ i hd p,RC σ (ωro σ) (.at hd p) (pget (DL.encF ty.cts x) i) (get cs i)
 | .int k,cs,_,⟨n,h,hw⟩=>by
   subst h
   exact⟨(n,()),⟨hw,trivial⟩,fun i=>by cases i<;>first|exact .v _ _ rfl|exact .undef _ _,fun i hd p=>by cases i<;>first|exact .v _ _ rfl|exact .undef _ _⟩
 | .bool,cs,_,⟨b,h⟩=>by
   subst h
   exact⟨(b,()),⟨trivial,trivial⟩,fun i=>by cases i<;>first|exact .v _ _ rfl|exact .undef _ _,fun i hd p=>by cases i<;>first|exact .v _ _ rfl|exact .undef _ _⟩
 | .str,cs,_,⟨s,h,hl⟩=>by
   subst h
   exact⟨(s,()),⟨hl,trivial⟩,fun i=>by cases i<;>first|exact .v _ _ rfl|exact .undef _ _,fun i hd p=>by cases i<;>first|exact .v _ _ rfl|exact .undef _ _⟩
 | .unit,cs,_,h=>by
   have h:cs=[]:=h
   subst h
   exact⟨(),trivial,fun i=>.undef _ _,fun i hd p=>.undef _ _⟩
 | .pair a b,cs,hg,⟨xs,ys,h,h1,h2⟩=>by
   simp only[Ty.good,Bool.and_eq_true] at hg
   obtain⟨x,x1,x2,x3⟩:=sh_data a hg.1 h1
   obtain⟨y,y1,y2,y3⟩:=sh_data b hg.2 h2
   have hl:=h1.len
   subst h
   refine⟨DL.app _ _ x y,DL.app_wf _ _ x y x1 y1,fun i=>?_,fun i hd p=>?_⟩
   · simp only[Ty.cts]
     rw[DL.app_enc]
     by_cases hi:i<a.w
     · rw[pget_app_left _ _ _ (by rw[DL.len,cts_len];exact hi),get_app_left _ _ _ (by rw[hl];exact hi)]
       exact x2 i
     · obtain⟨j,rfl⟩:=Nat.exists_eq_add_of_le (Nat.le_of_not_lt hi)
       have e1:=pget_app_right (DL.enc a.cts x) (DL.enc b.cts y) j
       have e2:=get_app_right xs ys j
       rw[DL.len,cts_len] at e1
       rw[hl] at e2
       rw[e1,e2]
       exact y2 j
   · simp only[Ty.cts]
     rw[DL.app_encF]
     by_cases hi:i<a.w
     · rw[pget_app_left _ _ _ (by rw[DL.lenF,cts_len];exact hi),get_app_left _ _ _ (by rw[hl];exact hi)]
       exact x3 i hd p
     · obtain⟨j,rfl⟩:=Nat.exists_eq_add_of_le (Nat.le_of_not_lt hi)
       have e1:=pget_app_right (DL.encF a.cts x) (DL.encF b.cts y) j
       have e2:=get_app_right xs ys j
       rw[DL.lenF,cts_len] at e1
       rw[hl] at e2
       rw[e1,e2]
       exact y3 j hd p
 | .sl t,cs,hg,h=>by
   simp only[Ty.good,Bool.and_eq_true] at hg
   have hw0:0<t.w:=Nat.le_of_ble_eq_true hg.1
   have hne:t.cts≠[]:=by intro e;have:=cts_len t;rw[e] at this;simp only[List.length_nil] at this;omega
   rcases h with h|⟨l,n,bs,h,hb,hbl,hn,he⟩
   · subst h
     refine⟨(([]:List (rtOf t.cts).D),()),⟨⟨Nat.zero_le _,fun x hx=>by cases hx⟩,trivial⟩,fun i=>?_,fun i hd p=>?_⟩
     · cases i<;>first|exact .nil _ _|exact .undef _ _
     · cases i<;>first|exact .nil _ _|exact .undef _ _
   · subst h
     have ex:∀ i,∃ x:DL t.cts,i<n→DL.wf t.cts x∧(∀ k,RC σ (ωro σ) .fz (pget (DL.enc t.cts x) k) (get ((bs.drop (i*t.w)).take t.w) k)):=by
      intro i
      by_cases hi:i<n
      · obtain⟨x,h1,h2,_⟩:=sh_data t hg.2 (he i hi)
        exact⟨x,fun _=>⟨h1,h2⟩⟩
      · have h0:∀ l:List CT,Nonempty (DL l):=by
         intro l
         induction l with
         |nil=>exact⟨()⟩
         |cons a r ih=>obtain⟨y⟩:=ih;exact⟨(a.dflt,y)⟩
        obtain⟨y⟩:=h0 t.cts
        exact⟨y,fun h=>absurd h hi⟩
     let f:Nat→DL t.cts:=fun i=>Classical.choose (ex i)
     have hf:∀ i,i<n→DL.wf t.cts (f i)∧∀ k,RC σ (ωro σ) .fz (pget (DL.enc t.cts (f i)) k) (get ((bs.drop (i*t.w)).take t.w) k):=fun i hi=>Classical.choose_spec (ex i) hi
     let L:List (rtOf t.cts).D:=(List.range n).map fun i=>DL.rt t.cts (f i)
     have hL:L.length=n:=by simp[L]
     have hLw:∀ e∈L.map (RT.enc (rtOf t.cts)),e.length=t.w:=by
      intro e he
      obtain⟨y,hy,rfl⟩:=List.mem_map.mp he
      obtain⟨i,_,rfl⟩:=List.mem_map.mp hy
      rw[DL.rt_enc _ _ hne,DL.len,cts_len]
     have hcell:∀ k,k<L.length*t.w→RC σ (ωro σ) .fz (pget (L.map (RT.enc (rtOf t.cts))).flatten k) (get bs (0+k)):=by
      intro k hk
      have hdm:k / t.w*t.w+k % t.w=k:=by rw[Nat.mul_comm];exact Nat.div_add_mod k t.w
      have hmod:=Nat.mod_lt k hw0
      have hdiv:k / t.w<n:=by rw[hL] at hk;exact(Nat.div_lt_iff_lt_mul hw0).2 hk
      have e1:=pget_flat (L.map (RT.enc (rtOf t.cts))) (k / t.w) (k % t.w) hLw hmod (by rw[List.length_map,hL];exact hdiv)
      rw[hdm] at e1
      rw[e1,elt_map' _ _ _ (by rw[hL];exact hdiv),Nat.zero_add]
      have e2:=get_drop_take bs (k / t.w*t.w) t.w (k % t.w) hmod
      rw[hdm] at e2
      have e3:L[k / t.w]'(by rw[hL];exact hdiv)=DL.rt t.cts (f (k / t.w)):=by simp[L]
      rw[e3,DL.rt_enc _ _ hne,← e2]
      exact(hf _ hdiv).2 _
     have hwf:∀ x∈L,RT.wf (rtOf t.cts) x:=by
      intro x hx
      obtain⟨i,hi,rfl⟩:=List.mem_map.mp hx
      exact DL.rt_wf _ _ hne (hf i (List.mem_range.mp hi)).1
     have hle:0+(L.map (RT.enc (rtOf t.cts))).length*t.w≤bs.length:=by rw[List.length_map,hL,hbl];omega
     refine⟨(L,()),⟨⟨by rw[hL];exact hn,hwf⟩,trivial⟩,fun i=>?_,fun i hd p=>?_⟩
     · cases i with
       |succ i=>exact .undef _ _
       |zero=>exact .sl _ _ _ _ _ _ _ hb (by simp) (ωro_frz hb) (fun e=>by cases e) (by rw[List.length_map,hL]) hLw hle fun k hk=>hcell k (by rw[List.length_map] at hk;exact hk)
     · cases i with
       |succ i=>exact .undef _ _
       |zero=>exact .sl _ _ _ _ _ _ _ hb (by simp) (ωro_frz hb) (fun _ e=>by rcases e with e|⟨_,_,e⟩<;>cases e) (by rw[List.length_map,hL]) hLw hle fun k hk=>hcell k (by rw[List.length_map] at hk;exact hk)
structure ArgD (σ:Heap) (v:PV) (u:V):Prop where
 rc:∀ hd p c,RC σ (ωro σ) (.at hd p) (v.fcell c) (u.fcell c)
 sh:Shp v u
 nx:∀ c i pb tp,(v.fcell c).q≠some (.bor (.x i) pb tp)
theorem cell_sc{v:V}(h:v.cell=true):(∀ us,v≠.agg us)∧∀ us,v≠.tup us:=by
 constructor<;>rintro us rfl<;>cases h
theorem frz_q:∀ (l:List CT) (x:DL l) (i:Nat) (a:Hd) (pb:List Nat) (tp:Bool),(pget (DL.encF l x) i).q≠some (.bor a pb tp)
 |[],_,_,_,_,_=>by simp[DL.encF,pget,PV.q]
 |c::r,x,0,a,pb,tp=>by cases c<;>simp[DL.encF,pget,CT.dv,DV.enc,PV.q]
 |_::r,x,i+1,a,pb,tp=>frz_q r x.2 i a pb tp
theorem arg_data{σ:Heap}{a:Ty×Bool}{u:V}(hg:argGood a=true)(h:ArgOk σ a u):∃ x:(htOf a).D,(htOf a).wf x∧ArgD σ ((htOf a).dv x).enc u:=by
 obtain⟨ty,b⟩:=a
 cases b with
 | true=>
   obtain⟨cs,rfl,hs,hc⟩:=h
   obtain⟨x,h1,_,h3⟩:=sh_data ty hg hs
   have hle:=hs.len
   refine⟨DL.ag ty.cts x,DL.ag_wf _ _ h1,?_⟩
   have he:((htOf (ty,true)).dv (DL.ag ty.cts x)).enc= .agg (DL.encF ty.cts x):=by
    show PV.agg _=PV.agg _
    rw[DL.ag_enc]
   rw[he]
   refine⟨fun hd p c=>?_,⟨cs,rfl,by rw[hle,DL.lenF,cts_len]⟩,fun c i pb tp=>?_⟩
   · match c with
     |[]=>exact .undef _ _
     |[c]=>exact h3 c hd p
     |_::_::_=>exact .undef _ _
   · match c with
     |[]=>simp[PV.fcell,PV.q]
     |[c]=>exact frz_q _ _ _ _ _ _
     |_::_::_=>simp[PV.fcell,PV.q]
 | false =>
   obtain⟨hs,hc⟩:=h
   simp only[argGood,Bool.and_eq_true,beq_iff_eq] at hg
   obtain⟨x,h1,_,h3⟩:=sh_data ty hg.1 hs
   have key:∀ (l:List CT) (x:DL l),l.length=1→DL.wf l x→(∀ i hd p,RC σ (ωro σ) (.at hd p) (pget (DL.encF l x) i) (get [u] i)) →
    ∃ y:(match l with|[c]=>HT.one .frz c|_=>HT.agg []).D,(match l with|[c]=>HT.one .frz c|_=>HT.agg []).wf y∧ArgD σ ((match l with|[c]=>HT.one .frz c|_=>HT.agg []).dv y).enc u:=by
    intro l x hl hwf h3
    match l,x,hl,hwf,h3 with
    | [c],x,_,hwf,h3=>
      have hsc:=cell_sc hc
      have hnf:∀ p,p≠[0]→((CT.dv .frz c x.1).enc).fcell p= .fl .undef:=by
       intro p hp
       cases c<;>(match p with|[]=>rfl|[0]=>exact absurd rfl hp|(_+1)::_=>rfl|0::_::_=>rfl)
      have hf0:((CT.dv .frz c x.1).enc).fcell [0]=(CT.dv .frz c x.1).enc:=by cases c<;>rfl
      have hu0:u.fcell [0]=u:=by cases u<;>first|rfl|exact absurd rfl (hsc.1 _)|exact absurd rfl (hsc.2 _)
      refine⟨x.1,hwf.1,⟨fun hd p q=>?_,?_,fun q i pb tp=>?_⟩⟩
      · by_cases hq:q=[0]
        · subst hq
          show RC σ (ωro σ) (.at hd p) (((CT.dv .frz c x.1).enc).fcell [0]) (u.fcell [0])
          rw[hf0,hu0];exact h3 0 hd p
        · show RC σ (ωro σ) (.at hd p) (((CT.dv .frz c x.1).enc).fcell q) (u.fcell q)
          rw[hnf q hq];exact .undef _ _
      · show Shp ((CT.dv .frz c x.1).enc) u
        cases c<;>exact hsc
      · show (((CT.dv .frz c x.1).enc).fcell q).q≠_
        by_cases hq:q=[0]
        · subst hq
          rw[hf0];exact frz_q [c] x 0 _ _ _
        · rw[hnf q hq];simp[PV.q]
   exact key ty.cts x hg.2 h1 h3
theorem args_data{σ:Heap}:∀ {tys:List (Ty×Bool)} {us:List V},tys.all argGood=true→ArgsOk σ tys us→∃ x:TuX (tys.map htOf),TuX.wf _ x∧us.length=tys.length ∧
 ∀ t,ArgD σ (pget (DV.encL (tuDv (tys.map htOf) x)) t) (get us t)
 |[],[],_,_=>⟨(),trivial,rfl,fun t=>⟨fun hd p c=>by
  have:(PV.fl V.undef).fcell c= .fl .undef:=by match c with|[]=>rfl|[0]=>rfl|(_+1)::_=>rfl|0::_::_=>rfl
  show RC σ (ωro σ) (.at hd p) ((PV.fl V.undef).fcell c) _
  rw[this];exact .undef _ _,trivial,fun c i pb tp=>by
  have:(PV.fl V.undef).fcell c= .fl .undef:=by match c with|[]=>rfl|[0]=>rfl|(_+1)::_=>rfl|0::_::_=>rfl
  show ((PV.fl V.undef).fcell c).q≠_
  rw[this];simp[PV.q]⟩⟩
 | [a],[u],hg,h=>by
   simp only[List.all_cons,List.all_nil,Bool.and_true] at hg
   obtain⟨x,h1,h2⟩:=arg_data hg h.1
   obtain⟨_,_,_,h4⟩:=args_data (σ:=σ) (tys:=[]) (us:=[]) rfl trivial
   refine⟨x,h1,rfl,fun t=>?_⟩
   cases t with
   |zero=>exact h2
   |succ t=>exact h4 t
 | a::b::r,u::us,hg,h=>by
   rw[List.all_cons,Bool.and_eq_true] at hg
   obtain⟨x,h1,h2⟩:=arg_data hg.1 h.1
   obtain⟨y,h3,h4,h5⟩:=args_data (tys:=b::r) (us:=us) hg.2 h.2
   refine⟨(x,y),⟨h1,h3⟩,by simp[h4],fun t=>?_⟩
   cases t with
   |zero=>exact h2
   |succ t=>exact h5 t
 |[_],_::_::_,_,h=>h.2.elim
 |[_],[],_,h=>h.elim
 |_::_::_,[],_,h=>h.elim
 |[],_::_,_,h=>h.elim
theorem entry{σ:Heap}{as:List PV}{us:List V}(hl:as.length=us.length)(h:∀ t,ArgD σ (pget as t) (get us t)):RS σ (ωro σ) (ωro σ) (fun _=>0) ⟨as,[],[]⟩ ⟨us,[],σ⟩ X0:=by
 have no:∀ l hd p,ωro σ l≠.own hd p:=by intro l hd p e;unfold ωro at e;split at e<;>cases e
 have nop:∀ l i,ωro σ l≠.ptr i:=by intro l i e;unfold ωro at e;split at e<;>cases e
 have hund:∀ c,(PV.fl V.undef).fcell c= .fl .undef:=by
  intro c;match c with|[]=>rfl|[0]=>rfl|(_+1)::_=>rfl|0::_::_=>rfl
 have cat:∀ (c:List Nat) (l:List V),(cellAt [] l c).1= .fl .undef:=by
  intro c l;match c with|[]=>rfl|[_]=>rfl|_::_::_=>rfl
 refine⟨⟨fun hd p=>?_,fun l l' hd p e=>absurd e (no l hd p),fun l l' i e=>absurd e (nop l i),fun l e=>?_,fun l e=>?_⟩,fun t=>(h t).sh,fun i=>trivial,hl,rfl,fun i=>rfl,fun i c=>rfl,fun i c=>rfl,fun i hi=>(by cases hi),fun l i e=>absurd e (nop l i),fun l i p e=>absurd e (no l _ p),⟨Nat.le_refl _,fun l _ _=>⟨rfl,rfl⟩,fun l hlt e=>(by rw[e];simp),fun l i e=>e⟩,fun hd p i pb tp=>?_⟩
 · cases hd with
   |s t=>exact(h t).rc _ _ _
   |b i=>show RC σ (ωro σ) _ (cellAt [] (getB [] i) p).1 _;rw[cat];exact .undef _ _
   |h i=>show RC σ (ωro σ) _ (cellAt [] _ p).1 _;rw[cat];exact .undef _ _
   |x i=>show RC σ (ωro σ) _ ((PV.fl V.undef).fcell p) _;rw[hund];exact .undef _ _
 · rcases e with⟨hd,p,e⟩|⟨i,e⟩
   · exact absurd e (no l hd p)
   · exact absurd e (nop l i)
 · unfold ωro at e;split at e
   · assumption
   · cases e
 · cases hd with
   |s t=>exact(h t).nx p i pb tp
   |b j=>show (cellAt [] (getB [] j) p).1.q≠_;rw[cat];simp[PV.q]
   |h j=>show (cellAt [] _ p).1.q≠_;rw[cat];simp[PV.q]
   |x j=>show ((PV.fl V.undef).fcell p).q≠_;rw[hund];simp[PV.q]
theorem law_of {f:DFun} {tys:List (Ty×Bool)} {hs:List HT} {s:CallSem} (hsp:SoundP s (pfunSem f.er)) (hhs:tys.map htOf=hs) (hg:tys.all argGood=true) (ho:AllD f.body.obs)
 (hst:fnSt f hs (.one (.one .own .bool))=true) (hc:∀ x,fnChk f hs (.one (.one .own .bool)) x=true)
 (law:∀ x:TuX hs,TuX.wf hs x→fnOk f hs (.one (.one .own .bool)) x∧fnV f hs (.one (.one .own .bool)) x=true) (σ:Heap) (us:List V) (hro:AllRo σ) (ha:ArgsOk σ tys us):s us σ fun r _=>r= .bool true:=by
 subst hhs
 obtain⟨x,h1,h2,h3⟩:=args_data hg ha
 obtain⟨l1,l2⟩:=law x h1
 have hlen:(DV.encL (tuDv (tys.map htOf) x)).length=us.length:=by rw[encL_len,tuDv_len,List.length_map,h2]
 refine hsp σ (ωro σ) (fun _=>0) _ us [] (fun r _=>r= .fl (.bool true)) _ (entry hlen h3) (fun l hd p e=>?_) ?_ fun u h' r H' ω' ρ' hQ R' _=>?_
 · exfalso;unfold ωro at e;split at e<;>cases e
 · refine fn_sound ho hst x (hc x) l1 fun H=>?_
   rw[l2]
   rfl
 · subst hQ
   have r:=R'.core.rc (.x 0) [0]
   have hs:=R'.shx 0
   have r:RC h' ω' (.at (.x 0) [0]) (.fl (.bool true)) (u.fcell [0]):=r
   have hu:u.fcell [0]=u:=by
    have hs:Shp (.fl (.bool true)) u:=hs
    cases u<;>first|rfl|exact absurd rfl (hs.1 _)|exact absurd rfl (hs.2 _)
   rw[hu] at r
   cases r
   rfl
theorem bNot_eq(a:Bool):bNot a=!a:=by simp only[bNot_u]
theorem bAnd_eq(a b:Bool):bAnd a b=(a&&b):=by simp only[bAnd_u]
theorem bOr_eq(a b:Bool):bOr a b=(a||b):=by simp only[bOr_u]
theorem bIff_eq(a b:Bool):bIff a b=(a == b):=by simp only[bIff_u]
theorem bSel_eq{α:Type}(c:Bool)(x y:α):bSel c x y=if c=true then x else y:=by cases c<;>simp[bSel_t,bSel_f]
theorem iEq_eq(a b:Int):iEq a b=decide (a=b):=by
 rw[iEq_u];by_cases h:a=b<;>simp[h]
theorem iNe_eq(a b:Int):iNe a b=!decide (a=b):=by
 rw[iNe_u];by_cases h:a=b<;>simp[h]
theorem iLt_eq(a b:Int):iLt a b=decide (a<b):=by simp only[iLt_u]
theorem iLe_eq(a b:Int):iLe a b=decide (a≤b):=by simp only[iLe_u]
theorem iGt_eq(a b:Int):iGt a b=decide (b<a):=by simp only[iGt_u]
theorem iGe_eq(a b:Int):iGe a b=decide (b≤a):=by simp only[iGe_u]
section
variable {α:Type}
theorem lLen_eq(l:List α):lLen l=(l.length:Int):=by simp only[lLen_u]
theorem lN_eq(l:List α):lN l=l.length:=by simp only[lN_u]
theorem lGet_eq(l:List α)(j:Nat)(d:α):lGet l j d=l.getD j d:=by simp only[lGet_u]
theorem lSet_eq(l:List α)(j:Nat)(x:α):lSet l j x=l.set j x:=by simp only[lSet_u]
theorem lSub_eq(l:List α)(a b:Nat):lSub l a b=(l.drop a).take (b-a):=by simp only[lSub_u]
theorem lApp_eq(l m:List α):lApp l m=l++m:=by simp only[lApp_u]
theorem iNat_eq(a:Int):iNat a=a.toNat:=by simp only[iNat_u]
end
def In64(n:Int):Prop:=-9223372036854775808≤n∧n≤9223372036854775807
theorem wrap_i64{n:Int}(h:In64 n):IntKind.i64.wrap n=n:=by
 obtain⟨h1,h2⟩:=h
 show (if decide (n % 18446744073709551616≥9223372036854775808)=true then n % 18446744073709551616-18446744073709551616 else n % 18446744073709551616)=n
 simp only[decide_eq_true_eq]
 split<;>omega
theorem iAdd_i64{a b:Int}(h:In64 (a+b)):iAdd .i64 a b=a+b:=by rw[iAdd_u];exact wrap_i64 h
theorem iSub_i64{a b:Int}(h:In64 (a-b)):iSub .i64 a b=a-b:=by rw[iSub_u];exact wrap_i64 h
theorem iMul_i64{a b:Int}(h:In64 (a*b)):iMul .i64 a b=a*b:=by rw[iMul_u];exact wrap_i64 h
theorem iConv_i64{a:Int}(h:In64 a):iConv .i64 a=a:=by rw[iConv_u];exact wrap_i64 h
theorem iRem_nn{a b:Int}(ha:0≤a):iRem a b=a % b:=by rw[iRem_u];exact Int.tmod_eq_emod_of_nonneg ha
section
variable {X:Type} {c:X→Bool} {f:X→X} {p:X→Prop}
theorem loop_inv(I:X→Prop)(m:X→Nat)(h:∀ x,I x→p x∧(c x=true→I (f x)∧m (f x)<m x)){x0:X}(h0:I x0) :
 LoopOk c f p x0∧I (loopV c f x0)∧c (loopV c f x0)=false:=by
 have go:∀ (n:Nat) (x:X),m x<n→I x→∃ y,LoopTo c f p x y∧I y∧c y=false:=by
  intro n
  induction n with
  |zero=>intro x hm;exact absurd hm (Nat.not_lt_zero _)
  | succ n ih=>
    intro x hm hI
    obtain⟨h1,h2⟩:=h x hI
    cases hc:c x with
    |false=>exact⟨x,.stop h1 hc,hI,hc⟩
    | true=>
      obtain⟨h3,h4⟩:=h2 hc
      obtain⟨y,h5,h6,h7⟩:=ih (f x) (by omega) h3
      exact⟨y,.go h1 hc h5,h6,h7⟩
 obtain⟨y,h1,h2,h3⟩:=go _ x0 (Nat.lt_succ_self _) h0
 rw[h1.val]
 exact⟨⟨y,h1⟩,h2,h3⟩
theorem loop_inv_v(I:X→Prop)(m:X→Nat)(h:∀ x,I x→c x=true→I (f x)∧m (f x)<m x){x0:X}(h0:I x0):I (loopV c f x0)∧c (loopV c f x0)=false:=
 (loop_inv (p:=fun _=>True) I m (fun x hx=>⟨trivial,h x hx⟩) h0).2
theorem loop_for(n:Nat)(st:Nat→X){x0:X}(h0:st 0=x0)(hs:∀ k,k<n→p (st k)∧c (st k)=true∧f (st k)=st (k+1))(he:p (st n)∧c (st n)=false):LoopOk c f p x0∧loopV c f x0=st n:=by
 have go:∀ k,k≤n→LoopTo c f p (st (n-k)) (st n):=by
  intro k
  induction k with
  |zero=>intro _;exact .stop he.1 he.2
  | succ k ih=>
    intro hk
    obtain⟨h1,h2,h3⟩:=hs (n-(k+1)) (by omega)
    refine .go h1 h2 ?_
    rw[h3,show n-(k+1)+1=n-k by omega]
    exact ih (by omega)
 have:=go n (Nat.le_refl _)
 rw[Nat.sub_self,h0] at this
 exact⟨⟨_,this⟩,this.val⟩
end
def firstAt(t:Nat→Bool):Nat→Nat→Nat
 |0,i=>i
 |k+1,i=>if t i then i else firstAt t k (i+1)
theorem firstAt_le(t:Nat→Bool):∀ k i,i≤firstAt t k i∧firstAt t k i≤i+k
 |0,i=>⟨Nat.le_refl _,Nat.le_refl _⟩
 | k+1,i=>by
   unfold firstAt
   split
   · omega
   · have:=firstAt_le t k (i+1);omega
theorem firstAt_lt(t:Nat→Bool):∀ k i,firstAt t k i<i+k→t (firstAt t k i)=true
 |0,i,h=>by unfold firstAt at h;omega
 | k + 1,i,h=>by
   unfold firstAt at h ⊢
   split
   · rename_i ht;exact ht
   · rename_i ht
     rw[if_neg ht] at h
     exact firstAt_lt t k (i+1) (by omega)
theorem firstAt_no(t:Nat→Bool):∀ k i j,i≤j→j<firstAt t k i→t j=false
 |0,i,j,h,h'=>by unfold firstAt at h';omega
 | k + 1,i,j,h,h'=>by
   unfold firstAt at h'
   split at h'
   · omega
   · rename_i ht
     by_cases hj:j=i
     · subst hj;simpa using ht
     · exact firstAt_no t k (i+1) j (by omega) h'
theorem firstAt_all{t:Nat→Bool}{n:Nat}:firstAt t n 0=n↔∀ i,i<n→t i=false:=by
 constructor
 · intro h i hi;exact firstAt_no t n 0 i (by omega) (by omega)
 · intro h
   have hle:=firstAt_le t n 0
   rcases Nat.lt_or_ge (firstAt t n 0) n with h1|h1
   · have:=firstAt_lt t n 0 (by omega);rw[h _ h1] at this;cases this
   · omega
theorem getD_mem{α:Type}(x:List α)(i:Nat)(d:α)(h:i<x.length):x.getD i d∈x:=by
 rw[List.getD_eq_getElem?_getD,List.getElem?_eq_getElem h];exact List.getElem_mem h
theorem cnt_ok{X:Type}{c:X→Bool}{f:X→X}{p:X→Prop}(ix:X→Int)(n:Int)(hn:n≤9223372036854775806)(hc:∀ x,0≤ix x→ix x≤n→c x=true→ix x<n)(hf:∀ x,ix (f x)=iAdd .i64 (ix x) 1)(hp:∀ x,0≤ix x→ix x≤n→p x){x0:X}(h0:0≤ix x0)(h1:ix x0≤n):LoopOk c f p x0:=by
 refine(loop_inv (fun x=>0≤ix x∧ix x≤n) (fun x=>(n-ix x).toNat) (fun x hI=>⟨hp x hI.1 hI.2,fun hcc=>?_⟩) ⟨h0,h1⟩).1
 have:=hc x hI.1 hI.2 hcc
 obtain⟨k1,k2⟩:=hI
 have e:=hf x
 rw[iAdd_i64 (by unfold In64;omega)] at e
 refine⟨by omega,by omega⟩
section
set_option maxRecDepth 8000
noncomputable def dc_spec_l1In:DCode:=
 (.seq [2,1,0] (.region [oa 0 6 (.mv (.c (.bool false)))])
 (.seq [6] (.region [om 0 7 0,
 om 1 8 1,
 oa 2 9 (.bin .geq (.t 7) (.t 8)),
 om 3 10 9,
 og 4 11 (.mv (.t 0)) 10 true,
 og 5 12 (.mv (.t 2)) 10 true,
 og 6 13 (.bin .leq (.t 11) (.t 12)) 10 true,
 oa 7 14 (.pick (.t 10) (.t 13) (.c (.bool false))),
 om 8 6 14])
  .ret))
noncomputable def df_spec_l1In:DFun:=⟨3,15,0,true,[.tmp 6],dc_spec_l1In⟩
noncomputable def pf_spec_l1In:PFun:=df_spec_l1In.er
noncomputable def f_spec_l1In:AFun:=pf_spec_l1In.er
@[irreducible] noncomputable def s_spec_l1In:CallSem:=funSem f_spec_l1In
@[irreducible] noncomputable def p_spec_l1In:PSem:=pfunSem pf_spec_l1In
theorem sp_spec_l1In:SoundP s_spec_l1In p_spec_l1In:=by unfold s_spec_l1In p_spec_l1In;exact pfun_sound (f:=pf_spec_l1In) trivial
def h_spec_l1In:List HT:=[.one .frz (.int .i64),.one .frz (.int .i64),.one .frz (.int .i64)]
def q_spec_l1In:QT:=.one (.one .own (.bool))
@[irreducible] noncomputable def v_spec_l1In(x:Int×Int×Int):Bool:=(shut fun x=>fnV df_spec_l1In h_spec_l1In q_spec_l1In x).1 x
@[irreducible] noncomputable def ok_spec_l1In(x:Int×Int×Int):Prop:=(shut fun x=>fnOk df_spec_l1In h_spec_l1In q_spec_l1In x).1 x
theorem vu_spec_l1In (x):v_spec_l1In x=fnV df_spec_l1In h_spec_l1In q_spec_l1In x:=by unfold v_spec_l1In;exact congrFun (shut _).2 x
theorem ou_spec_l1In (x):ok_spec_l1In x=fnOk df_spec_l1In h_spec_l1In q_spec_l1In x:=by unfold ok_spec_l1In;exact congrFun (shut _).2 x
noncomputable def D_spec_l1In:DSem:=DSemOf h_spec_l1In q_spec_l1In ok_spec_l1In v_spec_l1In
theorem ck_spec_l1In(x:Int×Int×Int):fnChk df_spec_l1In h_spec_l1In q_spec_l1In x=true:=by kernel_rfl
theorem ob_spec_l1In:AllD df_spec_l1In.body.obs:=trivial
theorem st_spec_l1In:fnSt df_spec_l1In h_spec_l1In q_spec_l1In=true:=by kernel_rfl
theorem sd_spec_l1In:SoundD p_spec_l1In D_spec_l1In:=by unfold p_spec_l1In;exact soundD_of (f:=df_spec_l1In) (hs:=h_spec_l1In) (q:=q_spec_l1In) ob_spec_l1In st_spec_l1In ck_spec_l1In (fun x h=>Eq.mp (ou_spec_l1In x) h) (fun x=>(vu_spec_l1In x).symm)
end
section
set_option maxRecDepth 100000
theorem ve_spec_l1In (x):v_spec_l1In x=(bAnd (iGe x.1 x.2.1) (iLe x.1 x.2.2)):=(vu_spec_l1In x).trans (by kernel_rfl)
theorem oe_spec_l1In (x):ok_spec_l1In x=True:=(ou_spec_l1In x).trans (by kernel_rfl)
end
theorem l1In_eq(a b c:Int):v_spec_l1In (a,b,c)=(decide (b≤a)&&decide (a≤c)):=by rw[ve_spec_l1In];simp only[bAnd_eq,iGe_eq,iLe_eq]
theorem ok_l1In (x):ok_spec_l1In x:=by rw[oe_spec_l1In];trivial
section
set_option maxRecDepth 8000
noncomputable def dc_spec_IsEvent:DCode:=
 (.seq [1] (.region [oa 0 1 (.boxB 0 3 (.t 0)),
 oa 1 2 (.mv (.c (.bool false)))])
  (.seq [2] (.region [oa 0 3 (.fieldA 0 (.t 1)),
 oa 1 4 (.loadB 0 none (.t 3)),
 oc 2 5 s_spec_l1In p_spec_l1In D_spec_l1In [(.t 4),(.c (.int .i64 0)),(.c (.int .i64 1000000))],
 om 3 6 5,
 og 4 7 (.fieldA 1 (.t 1)) 6 true,
 og 5 8 (.loadB 0 none (.t 7)) 6 true,
 ⟨6,some 9,.call false s_spec_l1In p_spec_l1In D_spec_l1In [(.t 8),(.c (.int .i64 0)),(.c (.int .i64 31))],(some (6,true)),[]⟩,
 oa 7 10 (.pick (.t 6) (.t 9) (.c (.bool false))),
 om 8 2 10])
  .ret))
noncomputable def df_spec_IsEvent:DFun:=⟨1,11,1,true,[.tmp 2],dc_spec_IsEvent⟩
noncomputable def pf_spec_IsEvent:PFun:=df_spec_IsEvent.er
noncomputable def f_spec_IsEvent:AFun:=pf_spec_IsEvent.er
@[irreducible] noncomputable def s_spec_IsEvent:CallSem:=funSem f_spec_IsEvent
@[irreducible] noncomputable def p_spec_IsEvent:PSem:=pfunSem pf_spec_IsEvent
theorem sp_spec_IsEvent:SoundP s_spec_IsEvent p_spec_IsEvent:=by unfold s_spec_IsEvent p_spec_IsEvent;exact pfun_sound (f:=pf_spec_IsEvent) ⟨sp_spec_l1In,sp_spec_l1In,trivial⟩
def h_spec_IsEvent:List HT:=[.agg [(.frz,.int .i64),(.frz,.int .i64),(.frz,.bool)]]
def q_spec_IsEvent:QT:=.one (.one .own (.bool))
@[irreducible] noncomputable def v_spec_IsEvent(x:Int×Int×Bool):Bool:=(shut fun x=>fnV df_spec_IsEvent h_spec_IsEvent q_spec_IsEvent x).1 x
@[irreducible] noncomputable def ok_spec_IsEvent(x:Int×Int×Bool):Prop:=(shut fun x=>fnOk df_spec_IsEvent h_spec_IsEvent q_spec_IsEvent x).1 x
theorem vu_spec_IsEvent (x):v_spec_IsEvent x=fnV df_spec_IsEvent h_spec_IsEvent q_spec_IsEvent x:=by unfold v_spec_IsEvent;exact congrFun (shut _).2 x
theorem ou_spec_IsEvent (x):ok_spec_IsEvent x=fnOk df_spec_IsEvent h_spec_IsEvent q_spec_IsEvent x:=by unfold ok_spec_IsEvent;exact congrFun (shut _).2 x
noncomputable def D_spec_IsEvent:DSem:=DSemOf h_spec_IsEvent q_spec_IsEvent ok_spec_IsEvent v_spec_IsEvent
theorem ck_spec_IsEvent(x:Int×Int×Bool):fnChk df_spec_IsEvent h_spec_IsEvent q_spec_IsEvent x=true:=by kernel_rfl
theorem ob_spec_IsEvent:AllD df_spec_IsEvent.body.obs:=⟨sd_spec_l1In,sd_spec_l1In,trivial⟩
theorem st_spec_IsEvent:fnSt df_spec_IsEvent h_spec_IsEvent q_spec_IsEvent=true:=by kernel_rfl
theorem sd_spec_IsEvent:SoundD p_spec_IsEvent D_spec_IsEvent:=by unfold p_spec_IsEvent;exact soundD_of (f:=df_spec_IsEvent) (hs:=h_spec_IsEvent) (q:=q_spec_IsEvent) ob_spec_IsEvent st_spec_IsEvent ck_spec_IsEvent (fun x h=>Eq.mp (ou_spec_IsEvent x) h) (fun x=>(vu_spec_IsEvent x).symm)
noncomputable def dc_impl_IsEvent:DCode:=
 (.seq [1] (.region [oa 0 1 (.boxB 0 3 (.t 0)),
 oa 1 2 (.mv (.c (.bool false)))])
  (.seq [2] (.region [oa 0 3 (.fieldA 0 (.t 1)),
 oa 1 4 (.loadB 0 none (.t 3)),
 oa 2 5 (.bin .geq (.t 4) (.c (.int .i64 0))),
 om 3 6 5,
 og 4 7 (.fieldA 0 (.t 1)) 6 true,
 og 5 8 (.loadB 0 none (.t 7)) 6 true,
 og 6 9 (.bin .leq (.t 8) (.c (.int .i64 1000000))) 6 true,
 oa 7 10 (.pick (.t 6) (.t 9) (.c (.bool false))),
 om 8 11 10,
 og 9 12 (.fieldA 1 (.t 1)) 11 true,
 og 10 13 (.loadB 0 none (.t 12)) 11 true,
 og 11 14 (.bin .geq (.t 13) (.c (.int .i64 0))) 11 true,
 oa 12 15 (.pick (.t 11) (.t 14) (.c (.bool false))),
 om 13 16 15,
 og 14 17 (.fieldA 1 (.t 1)) 16 true,
 og 15 18 (.loadB 0 none (.t 17)) 16 true,
 og 16 19 (.bin .leq (.t 18) (.c (.int .i64 31))) 16 true,
 oa 17 20 (.pick (.t 16) (.t 19) (.c (.bool false))),
 om 18 2 20])
  .ret))
noncomputable def df_impl_IsEvent:DFun:=⟨1,21,1,true,[.tmp 2],dc_impl_IsEvent⟩
noncomputable def pf_impl_IsEvent:PFun:=df_impl_IsEvent.er
noncomputable def f_impl_IsEvent:AFun:=pf_impl_IsEvent.er
@[irreducible] noncomputable def s_impl_IsEvent:CallSem:=funSem f_impl_IsEvent
@[irreducible] noncomputable def p_impl_IsEvent:PSem:=pfunSem pf_impl_IsEvent
theorem sp_impl_IsEvent:SoundP s_impl_IsEvent p_impl_IsEvent:=by unfold s_impl_IsEvent p_impl_IsEvent;exact pfun_sound (f:=pf_impl_IsEvent) trivial
def h_impl_IsEvent:List HT:=[.agg [(.frz,.int .i64),(.frz,.int .i64),(.frz,.bool)]]
def q_impl_IsEvent:QT:=.one (.one .own (.bool))
@[irreducible] noncomputable def v_impl_IsEvent(x:Int×Int×Bool):Bool:=(shut fun x=>fnV df_impl_IsEvent h_impl_IsEvent q_impl_IsEvent x).1 x
@[irreducible] noncomputable def ok_impl_IsEvent(x:Int×Int×Bool):Prop:=(shut fun x=>fnOk df_impl_IsEvent h_impl_IsEvent q_impl_IsEvent x).1 x
theorem vu_impl_IsEvent (x):v_impl_IsEvent x=fnV df_impl_IsEvent h_impl_IsEvent q_impl_IsEvent x:=by unfold v_impl_IsEvent;exact congrFun (shut _).2 x
theorem ou_impl_IsEvent (x):ok_impl_IsEvent x=fnOk df_impl_IsEvent h_impl_IsEvent q_impl_IsEvent x:=by unfold ok_impl_IsEvent;exact congrFun (shut _).2 x
noncomputable def D_impl_IsEvent:DSem:=DSemOf h_impl_IsEvent q_impl_IsEvent ok_impl_IsEvent v_impl_IsEvent
theorem ck_impl_IsEvent(x:Int×Int×Bool):fnChk df_impl_IsEvent h_impl_IsEvent q_impl_IsEvent x=true:=by kernel_rfl
theorem ob_impl_IsEvent:AllD df_impl_IsEvent.body.obs:=trivial
theorem st_impl_IsEvent:fnSt df_impl_IsEvent h_impl_IsEvent q_impl_IsEvent=true:=by kernel_rfl
theorem sd_impl_IsEvent:SoundD p_impl_IsEvent D_impl_IsEvent:=by unfold p_impl_IsEvent;exact soundD_of (f:=df_impl_IsEvent) (hs:=h_impl_IsEvent) (q:=q_impl_IsEvent) ob_impl_IsEvent st_impl_IsEvent ck_impl_IsEvent (fun x h=>Eq.mp (ou_impl_IsEvent x) h) (fun x=>(vu_impl_IsEvent x).symm)
end
section
set_option maxRecDepth 100000
theorem ve_spec_IsEvent (x):v_spec_IsEvent x=(bAnd (v_spec_l1In (x.1,0,1000000)) (v_spec_l1In (x.2.1,0,31))):=(vu_spec_IsEvent x).trans (by kernel_rfl)
theorem oe_spec_IsEvent (x):ok_spec_IsEvent x=((ok_spec_l1In (x.1,0,1000000))∧(((v_spec_l1In (x.1,0,1000000))=true→(ok_spec_l1In (x.2.1,0,31)))∧((v_spec_l1In (x.1,0,1000000))=false→True))):=(ou_spec_IsEvent x).trans (by kernel_rfl)
theorem ve_impl_IsEvent (x):v_impl_IsEvent x=(bAnd (iGe x.1 0) (bAnd (iLe x.1 1000000) (bAnd (iGe x.2.1 0) (iLe x.2.1 31)))):=(vu_impl_IsEvent x).trans (by kernel_rfl)
theorem oe_impl_IsEvent (x):ok_impl_IsEvent x=True:=(ou_impl_IsEvent x).trans (by kernel_rfl)
end
theorem isEvent_eq(x:Int×Int×Bool):v_spec_IsEvent x=v_impl_IsEvent x:=by
 rw[ve_spec_IsEvent,ve_impl_IsEvent];simp only[ve_spec_l1In,bAnd_eq,Bool.and_assoc]
theorem ok_isEvent(x:Int×Int×Bool):ok_spec_IsEvent x∧ok_impl_IsEvent x:=by
 rw[oe_spec_IsEvent,oe_impl_IsEvent];simp[oe_spec_l1In]
theorem isEvent_key{x:Int×Int×Bool}(h:v_impl_IsEvent x=true):0≤x.2.1:=by
 rw[ve_impl_IsEvent] at h
 simp only[bAnd_eq,iGe_eq,iLe_eq,Bool.and_eq_true,decide_eq_true_eq] at h
 exact h.2.2.1
theorem sel_same{α:Type}(c:Bool)(x:α):bSel c x x=x:=by rw[bSel_eq];split<;>rfl
section
set_option maxRecDepth 8000
noncomputable def dc_spec_l11Count:DCode:=
 (.seq [0] (.region [oi 0 2 0])
 (.seq [3,0] (.region [oi 0 3 0])
 (.seq [3] (.seq [4,3,0] (.region [oi 0 4 0])
 (.block 0 (.loop [0,3,4] 1 (.seq [4,3,0] (.seq [6,4,3,0] (.region [om 0 5 4,
 oa 1 6 (.bin .leq (.t 5) (.c (.int .i64 31)))])
  (.cond (.t 6) .skip (.exit 0)))
  (.seq [4,3,0] (.block 1 (.region [om 0 9 3,
 om 1 10 0,
 om 2 11 4,
 oa 3 12 (.bin .shr (.t 10) (.t 11)),
 oa 4 13 (.bin .and (.t 12) (.c (.int .i64 1))),
 oa 5 14 (.bin .add (.t 9) (.t 13)),
 om 6 3 14]))
  (.region [om 0 7 4,
 oa 1 8 (.bin .add (.t 7) (.c (.int .i64 1))),
 om 2 4 8]))))))
  (.seq [2] (.region [om 0 15 3,
 om 1 2 15])
  .ret))))
noncomputable def df_spec_l11Count:DFun:=⟨1,16,0,true,[.tmp 2],dc_spec_l11Count⟩
noncomputable def pf_spec_l11Count:PFun:=df_spec_l11Count.er
noncomputable def f_spec_l11Count:AFun:=pf_spec_l11Count.er
@[irreducible] noncomputable def s_spec_l11Count:CallSem:=funSem f_spec_l11Count
@[irreducible] noncomputable def p_spec_l11Count:PSem:=pfunSem pf_spec_l11Count
theorem sp_spec_l11Count:SoundP s_spec_l11Count p_spec_l11Count:=by unfold s_spec_l11Count p_spec_l11Count;exact pfun_sound (f:=pf_spec_l11Count) trivial
def h_spec_l11Count:List HT:=[.one .frz (.int .i64)]
def q_spec_l11Count:QT:=.one (.one .own (.int .i64))
@[irreducible] noncomputable def v_spec_l11Count(x:Int):Int:=(shut fun x=>fnV df_spec_l11Count h_spec_l11Count q_spec_l11Count x).1 x
@[irreducible] noncomputable def ok_spec_l11Count(x:Int):Prop:=(shut fun x=>fnOk df_spec_l11Count h_spec_l11Count q_spec_l11Count x).1 x
theorem vu_spec_l11Count (x):v_spec_l11Count x=fnV df_spec_l11Count h_spec_l11Count q_spec_l11Count x:=by unfold v_spec_l11Count;exact congrFun (shut _).2 x
theorem ou_spec_l11Count (x):ok_spec_l11Count x=fnOk df_spec_l11Count h_spec_l11Count q_spec_l11Count x:=by unfold ok_spec_l11Count;exact congrFun (shut _).2 x
noncomputable def D_spec_l11Count:DSem:=DSemOf h_spec_l11Count q_spec_l11Count ok_spec_l11Count v_spec_l11Count
theorem ck_spec_l11Count(x:Int):fnChk df_spec_l11Count h_spec_l11Count q_spec_l11Count x=true:=by kernel_rfl
theorem ob_spec_l11Count:AllD df_spec_l11Count.body.obs:=trivial
theorem st_spec_l11Count:fnSt df_spec_l11Count h_spec_l11Count q_spec_l11Count=true:=by kernel_rfl
theorem sd_spec_l11Count:SoundD p_spec_l11Count D_spec_l11Count:=by unfold p_spec_l11Count;exact soundD_of (f:=df_spec_l11Count) (hs:=h_spec_l11Count) (q:=q_spec_l11Count) ob_spec_l11Count st_spec_l11Count ck_spec_l11Count (fun x h=>Eq.mp (ou_spec_l11Count x) h) (fun x=>(vu_spec_l11Count x).symm)
noncomputable def dc_spec_IsCombos:DCode:=
 (.seq [0] (.region [oa 0 2 (.mv (.c (.bool false)))])
 (.seq [0] (.seq [3,0] (.region [oi 0 3 0])
 (.block 0 (.loop [0,3] 1 (.seq [3,0] (.seq [8,3,0] (.region [om 0 5 3,
 on 1 6 0,
 oa 2 7 (.len (.t 6)),
 oa 3 8 (.bin .lss (.t 5) (.t 7))])
  (.cond (.t 8) .skip (.exit 0)))
  (.seq [3,0] (.block 1 (.seq [3,0] (.seq [36,3,0] (.region [on 0 11 0,
 om 1 12 3,
 oa 2 13 (.indexA 2 (.t 11) (.t 12)),
 oa 3 14 (.fieldA 0 (.t 13)),
 oa 4 15 (.loadH none (.t 14)),
 oc 5 16 s_spec_l1In p_spec_l1In D_spec_l1In [(.t 15),(.c (.int .i64 0)),(.c (.int .i64 16777215))],
 oa 6 17 (.un .not (.t 16)),
 om 7 18 17,
 ⟨8,some 19,.a true (.mv (.t 0)) none,(some (18,false)),[]⟩,
 og 9 20 (.mv (.t 3)) 18 false,
 og 10 21 (.indexA 2 (.t 19) (.t 20)) 18 false,
 og 11 22 (.fieldA 0 (.t 21)) 18 false,
 og 12 23 (.loadH none (.t 22)) 18 false,
 ⟨13,some 24,.call false s_spec_l11Count p_spec_l11Count D_spec_l11Count [(.t 23)],(some (18,false)),[]⟩,
 ⟨14,some 25,.call false s_spec_l1In p_spec_l1In D_spec_l1In [(.t 24),(.c (.int .i64 2)),(.c (.int .i64 4))],(some (18,false)),[]⟩,
 og 15 26 (.un .not (.t 25)) 18 false,
 oa 16 27 (.pick (.t 18) (.c (.bool true)) (.t 26)),
 om 17 28 27,
 ⟨18,some 29,.a true (.mv (.t 0)) none,(some (28,false)),[]⟩,
 og 19 30 (.mv (.t 3)) 28 false,
 og 20 31 (.indexA 2 (.t 29) (.t 30)) 28 false,
 og 21 32 (.fieldA 1 (.t 31)) 28 false,
 og 22 33 (.loadH none (.t 32)) 28 false,
 ⟨23,some 34,.call false s_spec_l1In p_spec_l1In D_spec_l1In [(.t 33),(.c (.int .i64 24)),(.c (.int .i64 31))],(some (28,false)),[]⟩,
 og 24 35 (.un .not (.t 34)) 28 false,
 oa 25 36 (.pick (.t 28) (.c (.bool true)) (.t 35))])
  (.cond (.t 36) (.seq [2] (.region [oa 0 2 (.mv (.c (.bool false)))])
  .ret) .skip))
  (.seq [4,3,0] (.region [oi 0 4 0])
  (.block 2 (.loop [0,3,4] 1 (.seq [4,3,0] (.seq [39,4,3,0] (.region [om 0 37 4,
 om 1 38 3,
 oa 2 39 (.bin .lss (.t 37) (.t 38))])
  (.cond (.t 39) .skip (.exit 2)))
  (.seq [4,3,0] (.block 3 (.seq [65,4,3,0] (.region [on 0 42 0,
 om 1 43 4,
 xA 2 44 (.indexA 2 (.t 42) (.t 43)) (rg 2),
 xA 3 45 (.fieldA 0 (.t 44)) (rg 3),
 xA 4 46 (.loadH none (.t 45)) (rg 4),
 on 5 47 0,
 om 6 48 3,
 xA 7 49 (.indexA 2 (.t 47) (.t 48)) [5,6],
 xA 8 50 (.fieldA 0 (.t 49)) [5,6,7],
 xA 9 51 (.loadH none (.t 50)) [5,6,7,8],
 xA 10 52 (.bin .eql (.t 46) (.t 51)) (rg 10),
 xA 11 53 (.mv (.t 52)) (rg 11),
 ⟨12,some 54,.a true (.mv (.t 0)) none,(some (53,false)),[0,1,2,3,4,5,6,7,8,9,10,11]⟩,
 ⟨13,some 55,.a false (.mv (.t 4)) none,(some (53,false)),[0,1,2,3,4,5,6,7,8,9,10,11]⟩,
 ⟨14,some 56,.a false (.indexA 2 (.t 54) (.t 55)) none,(some (53,false)),[0,1,2,3,4,5,6,7,8,9,10,11,12,13]⟩,
 ⟨15,some 57,.a false (.fieldA 1 (.t 56)) none,(some (53,false)),[0,1,2,3,4,5,6,7,8,9,10,11,12,13,14]⟩,
 ⟨16,some 58,.a false (.loadH none (.t 57)) none,(some (53,false)),[0,1,2,3,4,5,6,7,8,9,10,11,12,13,14,15]⟩,
 ⟨17,some 59,.a true (.mv (.t 0)) none,(some (53,false)),[0,1,2,3,4,5,6,7,8,9,10,11]⟩,
 ⟨18,some 60,.a false (.mv (.t 3)) none,(some (53,false)),[0,1,2,3,4,5,6,7,8,9,10,11]⟩,
 ⟨19,some 61,.a false (.indexA 2 (.t 59) (.t 60)) none,(some (53,false)),[0,1,2,3,4,5,6,7,8,9,10,11,17,18]⟩,
 ⟨20,some 62,.a false (.fieldA 1 (.t 61)) none,(some (53,false)),[0,1,2,3,4,5,6,7,8,9,10,11,17,18,19]⟩,
 ⟨21,some 63,.a false (.loadH none (.t 62)) none,(some (53,false)),[0,1,2,3,4,5,6,7,8,9,10,11,17,18,19,20]⟩,
 ⟨22,some 64,.a false (.bin .eql (.t 58) (.t 63)) none,(some (53,false)),[0,1,2,3,4,5,6,7,8,9,10,11,12,13,14,15,16,17,18,19,20,21]⟩,
 xA 23 65 (.pick (.t 53) (.c (.bool true)) (.t 64)) (rg 23)])
  (.cond (.t 65) (.seq [2] (.region [oa 0 2 (.mv (.c (.bool false)))])
  .ret) .skip)))
  (.region [om 0 40 4,
 oa 1 41 (.bin .add (.t 40) (.c (.int .i64 1))),
 om 2 4 41]))))))))
  (.region [om 0 9 3,
 oa 1 10 (.bin .add (.t 9) (.c (.int .i64 1))),
 om 2 3 10]))))))
  (.seq [2] (.region [on 0 66 0,
 oa 1 67 (.len (.t 66)),
 oa 2 68 (.bin .leq (.t 67) (.c (.int .i64 8))),
 om 3 2 68])
  .ret)))
noncomputable def df_spec_IsCombos:DFun:=⟨1,69,0,true,[.tmp 2],dc_spec_IsCombos⟩
noncomputable def pf_spec_IsCombos:PFun:=df_spec_IsCombos.er
noncomputable def f_spec_IsCombos:AFun:=pf_spec_IsCombos.er
@[irreducible] noncomputable def s_spec_IsCombos:CallSem:=funSem f_spec_IsCombos
@[irreducible] noncomputable def p_spec_IsCombos:PSem:=pfunSem pf_spec_IsCombos
theorem sp_spec_IsCombos:SoundP s_spec_IsCombos p_spec_IsCombos:=by unfold s_spec_IsCombos p_spec_IsCombos;exact pfun_sound (f:=pf_spec_IsCombos) ⟨sp_spec_l1In,sp_spec_l11Count,sp_spec_l1In,sp_spec_l1In,trivial⟩
def h_spec_IsCombos:List HT:=[.one .frz (.sl (.cons (.int .i64) (.one (.int .i64))))]
def q_spec_IsCombos:QT:=.one (.one .own (.bool))
@[irreducible] noncomputable def v_spec_IsCombos(x:List (Int×Int)):Bool:=(shut fun x=>fnV df_spec_IsCombos h_spec_IsCombos q_spec_IsCombos x).1 x
@[irreducible] noncomputable def ok_spec_IsCombos(x:List (Int×Int)):Prop:=(shut fun x=>fnOk df_spec_IsCombos h_spec_IsCombos q_spec_IsCombos x).1 x
theorem vu_spec_IsCombos (x):v_spec_IsCombos x=fnV df_spec_IsCombos h_spec_IsCombos q_spec_IsCombos x:=by unfold v_spec_IsCombos;exact congrFun (shut _).2 x
theorem ou_spec_IsCombos (x):ok_spec_IsCombos x=fnOk df_spec_IsCombos h_spec_IsCombos q_spec_IsCombos x:=by unfold ok_spec_IsCombos;exact congrFun (shut _).2 x
noncomputable def D_spec_IsCombos:DSem:=DSemOf h_spec_IsCombos q_spec_IsCombos ok_spec_IsCombos v_spec_IsCombos
theorem ck_spec_IsCombos(x:List (Int×Int)):fnChk df_spec_IsCombos h_spec_IsCombos q_spec_IsCombos x=true:=by kernel_rfl
theorem ob_spec_IsCombos:AllD df_spec_IsCombos.body.obs:=⟨sd_spec_l1In,sd_spec_l11Count,sd_spec_l1In,sd_spec_l1In,trivial⟩
theorem st_spec_IsCombos:fnSt df_spec_IsCombos h_spec_IsCombos q_spec_IsCombos=true:=by kernel_rfl
theorem sd_spec_IsCombos:SoundD p_spec_IsCombos D_spec_IsCombos:=by unfold p_spec_IsCombos;exact soundD_of (f:=df_spec_IsCombos) (hs:=h_spec_IsCombos) (q:=q_spec_IsCombos) ob_spec_IsCombos st_spec_IsCombos ck_spec_IsCombos (fun x h=>Eq.mp (ou_spec_IsCombos x) h) (fun x=>(vu_spec_IsCombos x).symm)
noncomputable def dc_math_bits_OnesCount32:DCode:=
 (.seq [0] (.region [oi 0 2 0])
 (.seq [2] (.region [om 0 3 0,
 xA 1 4 (.bin .shr (.t 3) (.c (.int .u64 24))) (rg 1),
 xA 2 5 (.index (.c (.str [0,1,1,2,1,2,2,3,1,2,2,3,2,3,3,4,1,2,2,3,2,3,3,4,2,3,3,4,3,4,4,5,1,2,2,3,2,3,3,4,2,3,3,4,3,4,4,5,2,3,3,4,3,4,4,5,3,4,4,5,4,5,5,6,1,2,2,3,2,3,3,4,2,3,3,4,3,4,4,5,2,3,3,4,3,4,4,5,3,4,4,5,4,5,5,6,2,3,3,4,3,4,4,5,3,4,4,5,4,5,5,6,3,4,4,5,4,5,5,6,4,5,5,6,5,6,6,7,1,2,2,3,2,3,3,4,2,3,3,4,3,4,4,5,2,3,3,4,3,4,4,5,3,4,4,5,4,5,5,6,2,3,3,4,3,4,4,5,3,4,4,5,4,5,5,6,3,4,4,5,4,5,5,6,4,5,5,6,5,6,6,7,2,3,3,4,3,4,4,5,3,4,4,5,4,5,5,6,3,4,4,5,4,5,5,6,4,5,5,6,5,6,6,7,3,4,4,5,4,5,5,6,4,5,5,6,5,6,6,7,4,5,5,6,5,6,6,7,5,6,6,7,6,7,7,8])) (.t 4)) (rg 2),
 om 3 6 0,
 xA 4 7 (.bin .shr (.t 6) (.c (.int .u64 16))) [3],
 xA 5 8 (.bin .and (.t 7) (.c (.int .u32 255))) [3,4],
 xA 6 9 (.index (.c (.str [0,1,1,2,1,2,2,3,1,2,2,3,2,3,3,4,1,2,2,3,2,3,3,4,2,3,3,4,3,4,4,5,1,2,2,3,2,3,3,4,2,3,3,4,3,4,4,5,2,3,3,4,3,4,4,5,3,4,4,5,4,5,5,6,1,2,2,3,2,3,3,4,2,3,3,4,3,4,4,5,2,3,3,4,3,4,4,5,3,4,4,5,4,5,5,6,2,3,3,4,3,4,4,5,3,4,4,5,4,5,5,6,3,4,4,5,4,5,5,6,4,5,5,6,5,6,6,7,1,2,2,3,2,3,3,4,2,3,3,4,3,4,4,5,2,3,3,4,3,4,4,5,3,4,4,5,4,5,5,6,2,3,3,4,3,4,4,5,3,4,4,5,4,5,5,6,3,4,4,5,4,5,5,6,4,5,5,6,5,6,6,7,2,3,3,4,3,4,4,5,3,4,4,5,4,5,5,6,3,4,4,5,4,5,5,6,4,5,5,6,5,6,6,7,3,4,4,5,4,5,5,6,4,5,5,6,5,6,6,7,4,5,5,6,5,6,6,7,5,6,6,7,6,7,7,8])) (.t 8)) [3,4,5],
 xA 7 10 (.bin .add (.t 5) (.t 9)) (rg 7),
 om 8 11 0,
 xA 9 12 (.bin .shr (.t 11) (.c (.int .u64 8))) [8],
 xA 10 13 (.bin .and (.t 12) (.c (.int .u32 255))) [8,9],
 xA 11 14 (.index (.c (.str [0,1,1,2,1,2,2,3,1,2,2,3,2,3,3,4,1,2,2,3,2,3,3,4,2,3,3,4,3,4,4,5,1,2,2,3,2,3,3,4,2,3,3,4,3,4,4,5,2,3,3,4,3,4,4,5,3,4,4,5,4,5,5,6,1,2,2,3,2,3,3,4,2,3,3,4,3,4,4,5,2,3,3,4,3,4,4,5,3,4,4,5,4,5,5,6,2,3,3,4,3,4,4,5,3,4,4,5,4,5,5,6,3,4,4,5,4,5,5,6,4,5,5,6,5,6,6,7,1,2,2,3,2,3,3,4,2,3,3,4,3,4,4,5,2,3,3,4,3,4,4,5,3,4,4,5,4,5,5,6,2,3,3,4,3,4,4,5,3,4,4,5,4,5,5,6,3,4,4,5,4,5,5,6,4,5,5,6,5,6,6,7,2,3,3,4,3,4,4,5,3,4,4,5,4,5,5,6,3,4,4,5,4,5,5,6,4,5,5,6,5,6,6,7,3,4,4,5,4,5,5,6,4,5,5,6,5,6,6,7,4,5,5,6,5,6,6,7,5,6,6,7,6,7,7,8])) (.t 13)) [8,9,10],
 xA 12 15 (.bin .add (.t 10) (.t 14)) (rg 12),
 om 13 16 0,
 xA 14 17 (.bin .and (.t 16) (.c (.int .u32 255))) [13],
 xA 15 18 (.index (.c (.str [0,1,1,2,1,2,2,3,1,2,2,3,2,3,3,4,1,2,2,3,2,3,3,4,2,3,3,4,3,4,4,5,1,2,2,3,2,3,3,4,2,3,3,4,3,4,4,5,2,3,3,4,3,4,4,5,3,4,4,5,4,5,5,6,1,2,2,3,2,3,3,4,2,3,3,4,3,4,4,5,2,3,3,4,3,4,4,5,3,4,4,5,4,5,5,6,2,3,3,4,3,4,4,5,3,4,4,5,4,5,5,6,3,4,4,5,4,5,5,6,4,5,5,6,5,6,6,7,1,2,2,3,2,3,3,4,2,3,3,4,3,4,4,5,2,3,3,4,3,4,4,5,3,4,4,5,4,5,5,6,2,3,3,4,3,4,4,5,3,4,4,5,4,5,5,6,3,4,4,5,4,5,5,6,4,5,5,6,5,6,6,7,2,3,3,4,3,4,4,5,3,4,4,5,4,5,5,6,3,4,4,5,4,5,5,6,4,5,5,6,5,6,6,7,3,4,4,5,4,5,5,6,4,5,5,6,5,6,6,7,4,5,5,6,5,6,6,7,5,6,6,7,6,7,7,8])) (.t 17)) [13,14],
 xA 16 19 (.bin .add (.t 15) (.t 18)) (rg 16),
 xA 17 20 (.conv .i64 (.t 19)) (rg 17),
 xA 18 2 (.mv (.t 20)) (rg 18)])
  .ret))
noncomputable def df_math_bits_OnesCount32:DFun:=⟨1,21,0,true,[.tmp 2],dc_math_bits_OnesCount32⟩
noncomputable def pf_math_bits_OnesCount32:PFun:=df_math_bits_OnesCount32.er
noncomputable def f_math_bits_OnesCount32:AFun:=pf_math_bits_OnesCount32.er
@[irreducible] noncomputable def s_math_bits_OnesCount32:CallSem:=funSem f_math_bits_OnesCount32
@[irreducible] noncomputable def p_math_bits_OnesCount32:PSem:=pfunSem pf_math_bits_OnesCount32
theorem sp_math_bits_OnesCount32:SoundP s_math_bits_OnesCount32 p_math_bits_OnesCount32:=by unfold s_math_bits_OnesCount32 p_math_bits_OnesCount32;exact pfun_sound (f:=pf_math_bits_OnesCount32) trivial
def h_math_bits_OnesCount32:List HT:=[.one .frz (.int .u32)]
def q_math_bits_OnesCount32:QT:=.one (.one .own (.int .i64))
@[irreducible] noncomputable def v_math_bits_OnesCount32(x:Int):Int:=(shut fun x=>fnV df_math_bits_OnesCount32 h_math_bits_OnesCount32 q_math_bits_OnesCount32 x).1 x
@[irreducible] noncomputable def ok_math_bits_OnesCount32(x:Int):Prop:=(shut fun x=>fnOk df_math_bits_OnesCount32 h_math_bits_OnesCount32 q_math_bits_OnesCount32 x).1 x
theorem vu_math_bits_OnesCount32 (x):v_math_bits_OnesCount32 x=fnV df_math_bits_OnesCount32 h_math_bits_OnesCount32 q_math_bits_OnesCount32 x:=by unfold v_math_bits_OnesCount32;exact congrFun (shut _).2 x
theorem ou_math_bits_OnesCount32 (x):ok_math_bits_OnesCount32 x=fnOk df_math_bits_OnesCount32 h_math_bits_OnesCount32 q_math_bits_OnesCount32 x:=by unfold ok_math_bits_OnesCount32;exact congrFun (shut _).2 x
noncomputable def D_math_bits_OnesCount32:DSem:=DSemOf h_math_bits_OnesCount32 q_math_bits_OnesCount32 ok_math_bits_OnesCount32 v_math_bits_OnesCount32
theorem ck_math_bits_OnesCount32(x:Int):fnChk df_math_bits_OnesCount32 h_math_bits_OnesCount32 q_math_bits_OnesCount32 x=true:=by kernel_rfl
theorem ob_math_bits_OnesCount32:AllD df_math_bits_OnesCount32.body.obs:=trivial
theorem st_math_bits_OnesCount32:fnSt df_math_bits_OnesCount32 h_math_bits_OnesCount32 q_math_bits_OnesCount32=true:=by kernel_rfl
theorem sd_math_bits_OnesCount32:SoundD p_math_bits_OnesCount32 D_math_bits_OnesCount32:=by unfold p_math_bits_OnesCount32;exact soundD_of (f:=df_math_bits_OnesCount32) (hs:=h_math_bits_OnesCount32) (q:=q_math_bits_OnesCount32) ob_math_bits_OnesCount32 st_math_bits_OnesCount32 ck_math_bits_OnesCount32 (fun x h=>Eq.mp (ou_math_bits_OnesCount32 x) h) (fun x=>(vu_math_bits_OnesCount32 x).symm)
noncomputable def dc_math_bits_OnesCount64:DCode:=
 (.seq [0] (.region [oi 0 2 0])
 (.seq [0] (.region [om 0 3 0,
 oa 1 4 (.bin .shr (.t 3) (.c (.int .u64 1))),
 oa 2 5 (.bin .and (.t 4) (.c (.int .u64 6148914691236517205))),
 om 3 6 0,
 oa 4 7 (.bin .and (.t 6) (.c (.int .u64 6148914691236517205))),
 oa 5 8 (.bin .add (.t 5) (.t 7)),
 om 6 0 8])
  (.seq [0] (.region [om 0 9 0,
 oa 1 10 (.bin .shr (.t 9) (.c (.int .u64 2))),
 oa 2 11 (.bin .and (.t 10) (.c (.int .u64 3689348814741910323))),
 om 3 12 0,
 oa 4 13 (.bin .and (.t 12) (.c (.int .u64 3689348814741910323))),
 oa 5 14 (.bin .add (.t 11) (.t 13)),
 om 6 0 14])
  (.seq [0] (.region [om 0 15 0,
 oa 1 16 (.bin .shr (.t 15) (.c (.int .u64 4))),
 om 2 17 0,
 oa 3 18 (.bin .add (.t 16) (.t 17)),
 oa 4 19 (.bin .and (.t 18) (.c (.int .u64 1085102592571150095))),
 om 5 0 19])
  (.seq [0] (.region [om 0 20 0,
 om 1 21 0,
 oa 2 22 (.bin .shr (.t 21) (.c (.int .u64 8))),
 oa 3 23 (.bin .add (.t 20) (.t 22)),
 om 4 0 23])
  (.seq [0] (.region [om 0 24 0,
 om 1 25 0,
 oa 2 26 (.bin .shr (.t 25) (.c (.int .u64 16))),
 oa 3 27 (.bin .add (.t 24) (.t 26)),
 om 4 0 27])
  (.seq [0] (.region [om 0 28 0,
 om 1 29 0,
 oa 2 30 (.bin .shr (.t 29) (.c (.int .u64 32))),
 oa 3 31 (.bin .add (.t 28) (.t 30)),
 om 4 0 31])
  (.seq [2] (.region [om 0 32 0,
 oa 1 33 (.conv .i64 (.t 32)),
 oa 2 34 (.bin .and (.t 33) (.c (.int .i64 127))),
 om 3 2 34])
  .ret))))))))
noncomputable def df_math_bits_OnesCount64:DFun:=⟨1,35,0,true,[.tmp 2],dc_math_bits_OnesCount64⟩
noncomputable def pf_math_bits_OnesCount64:PFun:=df_math_bits_OnesCount64.er
noncomputable def f_math_bits_OnesCount64:AFun:=pf_math_bits_OnesCount64.er
@[irreducible] noncomputable def s_math_bits_OnesCount64:CallSem:=funSem f_math_bits_OnesCount64
@[irreducible] noncomputable def p_math_bits_OnesCount64:PSem:=pfunSem pf_math_bits_OnesCount64
theorem sp_math_bits_OnesCount64:SoundP s_math_bits_OnesCount64 p_math_bits_OnesCount64:=by unfold s_math_bits_OnesCount64 p_math_bits_OnesCount64;exact pfun_sound (f:=pf_math_bits_OnesCount64) trivial
def h_math_bits_OnesCount64:List HT:=[.one .frz (.int .u64)]
def q_math_bits_OnesCount64:QT:=.one (.one .own (.int .i64))
@[irreducible] noncomputable def v_math_bits_OnesCount64(x:Int):Int:=(shut fun x=>fnV df_math_bits_OnesCount64 h_math_bits_OnesCount64 q_math_bits_OnesCount64 x).1 x
@[irreducible] noncomputable def ok_math_bits_OnesCount64(x:Int):Prop:=(shut fun x=>fnOk df_math_bits_OnesCount64 h_math_bits_OnesCount64 q_math_bits_OnesCount64 x).1 x
theorem vu_math_bits_OnesCount64 (x):v_math_bits_OnesCount64 x=fnV df_math_bits_OnesCount64 h_math_bits_OnesCount64 q_math_bits_OnesCount64 x:=by unfold v_math_bits_OnesCount64;exact congrFun (shut _).2 x
theorem ou_math_bits_OnesCount64 (x):ok_math_bits_OnesCount64 x=fnOk df_math_bits_OnesCount64 h_math_bits_OnesCount64 q_math_bits_OnesCount64 x:=by unfold ok_math_bits_OnesCount64;exact congrFun (shut _).2 x
noncomputable def D_math_bits_OnesCount64:DSem:=DSemOf h_math_bits_OnesCount64 q_math_bits_OnesCount64 ok_math_bits_OnesCount64 v_math_bits_OnesCount64
theorem ck_math_bits_OnesCount64(x:Int):fnChk df_math_bits_OnesCount64 h_math_bits_OnesCount64 q_math_bits_OnesCount64 x=true:=by kernel_rfl
theorem ob_math_bits_OnesCount64:AllD df_math_bits_OnesCount64.body.obs:=trivial
theorem st_math_bits_OnesCount64:fnSt df_math_bits_OnesCount64 h_math_bits_OnesCount64 q_math_bits_OnesCount64=true:=by kernel_rfl
theorem sd_math_bits_OnesCount64:SoundD p_math_bits_OnesCount64 D_math_bits_OnesCount64:=by unfold p_math_bits_OnesCount64;exact soundD_of (f:=df_math_bits_OnesCount64) (hs:=h_math_bits_OnesCount64) (q:=q_math_bits_OnesCount64) ob_math_bits_OnesCount64 st_math_bits_OnesCount64 ck_math_bits_OnesCount64 (fun x h=>Eq.mp (ou_math_bits_OnesCount64 x) h) (fun x=>(vu_math_bits_OnesCount64 x).symm)
noncomputable def dc_math_bits_OnesCount:DCode:=
 (.seq [0] (.region [oi 0 2 0])
 (.seq [0] (.cond (.c (.bool false)) (.seq [2] (.region [om 0 3 0,
 oa 1 4 (.conv .u32 (.t 3)),
 oc 2 5 s_math_bits_OnesCount32 p_math_bits_OnesCount32 D_math_bits_OnesCount32 [(.t 4)],
 om 3 2 5])
  .ret) .skip)
  (.seq [2] (.region [om 0 6 0,
 oc 1 7 s_math_bits_OnesCount64 p_math_bits_OnesCount64 D_math_bits_OnesCount64 [(.t 6)],
 om 2 2 7])
  .ret)))
noncomputable def df_math_bits_OnesCount:DFun:=⟨1,8,0,true,[.tmp 2],dc_math_bits_OnesCount⟩
noncomputable def pf_math_bits_OnesCount:PFun:=df_math_bits_OnesCount.er
noncomputable def f_math_bits_OnesCount:AFun:=pf_math_bits_OnesCount.er
@[irreducible] noncomputable def s_math_bits_OnesCount:CallSem:=funSem f_math_bits_OnesCount
@[irreducible] noncomputable def p_math_bits_OnesCount:PSem:=pfunSem pf_math_bits_OnesCount
theorem sp_math_bits_OnesCount:SoundP s_math_bits_OnesCount p_math_bits_OnesCount:=by unfold s_math_bits_OnesCount p_math_bits_OnesCount;exact pfun_sound (f:=pf_math_bits_OnesCount) ⟨sp_math_bits_OnesCount32,sp_math_bits_OnesCount64,trivial⟩
def h_math_bits_OnesCount:List HT:=[.one .frz (.int .u64)]
def q_math_bits_OnesCount:QT:=.one (.one .own (.int .i64))
@[irreducible] noncomputable def v_math_bits_OnesCount(x:Int):Int:=(shut fun x=>fnV df_math_bits_OnesCount h_math_bits_OnesCount q_math_bits_OnesCount x).1 x
@[irreducible] noncomputable def ok_math_bits_OnesCount(x:Int):Prop:=(shut fun x=>fnOk df_math_bits_OnesCount h_math_bits_OnesCount q_math_bits_OnesCount x).1 x
theorem vu_math_bits_OnesCount (x):v_math_bits_OnesCount x=fnV df_math_bits_OnesCount h_math_bits_OnesCount q_math_bits_OnesCount x:=by unfold v_math_bits_OnesCount;exact congrFun (shut _).2 x
theorem ou_math_bits_OnesCount (x):ok_math_bits_OnesCount x=fnOk df_math_bits_OnesCount h_math_bits_OnesCount q_math_bits_OnesCount x:=by unfold ok_math_bits_OnesCount;exact congrFun (shut _).2 x
noncomputable def D_math_bits_OnesCount:DSem:=DSemOf h_math_bits_OnesCount q_math_bits_OnesCount ok_math_bits_OnesCount v_math_bits_OnesCount
theorem ck_math_bits_OnesCount(x:Int):fnChk df_math_bits_OnesCount h_math_bits_OnesCount q_math_bits_OnesCount x=true:=by kernel_rfl
theorem ob_math_bits_OnesCount:AllD df_math_bits_OnesCount.body.obs:=⟨sd_math_bits_OnesCount32,sd_math_bits_OnesCount64,trivial⟩
theorem st_math_bits_OnesCount:fnSt df_math_bits_OnesCount h_math_bits_OnesCount q_math_bits_OnesCount=true:=by kernel_rfl
theorem sd_math_bits_OnesCount:SoundD p_math_bits_OnesCount D_math_bits_OnesCount:=by unfold p_math_bits_OnesCount;exact soundD_of (f:=df_math_bits_OnesCount) (hs:=h_math_bits_OnesCount) (q:=q_math_bits_OnesCount) ob_math_bits_OnesCount st_math_bits_OnesCount ck_math_bits_OnesCount (fun x h=>Eq.mp (ou_math_bits_OnesCount x) h) (fun x=>(vu_math_bits_OnesCount x).symm)
noncomputable def dc_impl_IsCombos:DCode:=
 (.seq [0] (.region [oa 0 2 (.mv (.c (.bool false)))])
 (.seq [0] (.seq [10,0] (.region [on 0 8 0,
 oa 1 9 (.len (.t 8)),
 oa 2 10 (.bin .gtr (.t 9) (.c (.int .i64 8)))])
  (.cond (.t 10) (.seq [2] (.region [oa 0 2 (.mv (.c (.bool false)))])
  .ret) .skip))
  (.seq [] (.seq [13,12,11,0] (.region [on 0 11 0,
 oa 1 12 (.len (.t 11)),
 oi 2 13 0])
  (.block 0 (.loop [0,11,12,13] 1 (.seq [14,13,12,11,0] (.region [oa 0 14 (.bin .lss (.t 13) (.t 12))])
  (.seq [13,12,11,0] (.cond (.t 14) .skip (.exit 0))
  (.seq [13,12,11,0] (.block 1 (.seq [13,12,11,4,3,0] (.region [om 0 15 13,
 oa 1 16 (.indexA 2 (.t 11) (.t 13)),
 ob 2 17 (.loadH (some 2) (.t 16)),
 oa 3 4 (.allocB 0 [(.int .i64 0),(.int .i64 0)]),
 om 4 3 15,
 os 5 (.storeB 0 2 (.t 4) (.t 17))])
  (.seq [13,12,11,4,3,0] (.seq [35,13,12,11,4,3,0] (.region [oa 0 18 (.fieldA 0 (.t 4)),
 oa 1 19 (.loadB 0 none (.t 18)),
 oa 2 20 (.bin .lss (.t 19) (.c (.int .i64 0))),
 om 3 21 20,
 og 4 22 (.fieldA 0 (.t 4)) 21 false,
 og 5 23 (.loadB 0 none (.t 22)) 21 false,
 og 6 24 (.bin .gtr (.t 23) (.c (.int .i64 16777215))) 21 false,
 oa 7 25 (.pick (.t 21) (.c (.bool true)) (.t 24)),
 om 8 26 25,
 og 9 27 (.fieldA 1 (.t 4)) 26 false,
 og 10 28 (.loadB 0 none (.t 27)) 26 false,
 og 11 29 (.bin .lss (.t 28) (.c (.int .i64 24))) 26 false,
 oa 12 30 (.pick (.t 26) (.c (.bool true)) (.t 29)),
 om 13 31 30,
 og 14 32 (.fieldA 1 (.t 4)) 31 false,
 og 15 33 (.loadB 0 none (.t 32)) 31 false,
 og 16 34 (.bin .gtr (.t 33) (.c (.int .i64 31))) 31 false,
 oa 17 35 (.pick (.t 31) (.c (.bool true)) (.t 34))])
  (.cond (.t 35) (.seq [2] (.region [oa 0 2 (.mv (.c (.bool false)))])
  .ret) .skip))
  (.seq [13,12,11,4,3,0] (.seq [13,12,11,5,4,3,0] (.region [oa 0 36 (.fieldA 0 (.t 4)),
 oa 1 37 (.loadB 0 none (.t 36)),
 oa 2 38 (.conv .u64 (.t 37)),
 oc 3 39 s_math_bits_OnesCount p_math_bits_OnesCount D_math_bits_OnesCount [(.t 38)],
 om 4 5 39])
  (.seq [45,13,12,11,4,3,0] (.region [om 0 40 5,
 oa 1 41 (.bin .lss (.t 40) (.c (.int .i64 2))),
 om 2 42 41,
 og 3 43 (.mv (.t 5)) 42 false,
 og 4 44 (.bin .gtr (.t 43) (.c (.int .i64 4))) 42 false,
 oa 5 45 (.pick (.t 42) (.c (.bool true)) (.t 44))])
  (.cond (.t 45) (.seq [2] (.region [oa 0 2 (.mv (.c (.bool false)))])
  .ret) .skip)))
  (.seq [50,49,48,13,12,11,4,0] (.region [on 0 46 0,
 om 1 47 3,
 oa 2 48 (.slice 2 (.t 46) none (some (.t 47))),
 oa 3 49 (.len (.t 48)),
 oi 4 50 0])
  (.block 2 (.loop [0,4,11,12,13,48,49,50] 1 (.seq [51,50,49,48,13,12,11,4,0] (.region [oa 0 51 (.bin .lss (.t 50) (.t 49))])
  (.seq [50,49,48,13,12,11,4,0] (.cond (.t 51) .skip (.exit 2))
  (.seq [50,49,48,13,12,11,4,0] (.block 3 (.seq [50,49,48,13,12,11,7,4,0] (.region [oa 0 52 (.indexA 2 (.t 48) (.t 50)),
 ob 1 53 (.loadH (some 2) (.t 52)),
 oa 2 7 (.allocB 1 [(.int .i64 0),(.int .i64 0)]),
 os 3 (.storeB 1 2 (.t 7) (.t 53))])
  (.seq [65,50,49,48,13,12,11,4,0] (.region [oa 0 54 (.fieldA 0 (.t 7)),
 oa 1 55 (.loadB 1 none (.t 54)),
 oa 2 56 (.fieldA 0 (.t 4)),
 oa 3 57 (.loadB 0 none (.t 56)),
 oa 4 58 (.bin .eql (.t 55) (.t 57)),
 om 5 59 58,
 og 6 60 (.fieldA 1 (.t 7)) 59 false,
 og 7 61 (.loadB 1 none (.t 60)) 59 false,
 og 8 62 (.fieldA 1 (.t 4)) 59 false,
 og 9 63 (.loadB 0 none (.t 62)) 59 false,
 og 10 64 (.bin .eql (.t 61) (.t 63)) 59 false,
 oa 11 65 (.pick (.t 59) (.c (.bool true)) (.t 64))])
  (.cond (.t 65) (.seq [2] (.region [oa 0 2 (.mv (.c (.bool false)))])
  .ret) .skip))))
  (.region [oa 0 66 (.bin .add (.t 50) (.c (.int .i64 1))),
 om 1 50 66])))))))))))
  (.region [oa 0 67 (.bin .add (.t 13) (.c (.int .i64 1))),
 om 1 13 67])))))))
  (.seq [2] (.region [oa 0 2 (.mv (.c (.bool true)))])
  .ret))))
noncomputable def df_impl_IsCombos:DFun:=⟨1,68,2,true,[.tmp 2],dc_impl_IsCombos⟩
noncomputable def pf_impl_IsCombos:PFun:=df_impl_IsCombos.er
noncomputable def f_impl_IsCombos:AFun:=pf_impl_IsCombos.er
@[irreducible] noncomputable def s_impl_IsCombos:CallSem:=funSem f_impl_IsCombos
@[irreducible] noncomputable def p_impl_IsCombos:PSem:=pfunSem pf_impl_IsCombos
theorem sp_impl_IsCombos:SoundP s_impl_IsCombos p_impl_IsCombos:=by unfold s_impl_IsCombos p_impl_IsCombos;exact pfun_sound (f:=pf_impl_IsCombos) ⟨sp_math_bits_OnesCount,trivial⟩
def h_impl_IsCombos:List HT:=[.one .frz (.sl (.cons (.int .i64) (.one (.int .i64))))]
def q_impl_IsCombos:QT:=.one (.one .own (.bool))
@[irreducible] noncomputable def v_impl_IsCombos(x:List (Int×Int)):Bool:=(shut fun x=>fnV df_impl_IsCombos h_impl_IsCombos q_impl_IsCombos x).1 x
@[irreducible] noncomputable def ok_impl_IsCombos(x:List (Int×Int)):Prop:=(shut fun x=>fnOk df_impl_IsCombos h_impl_IsCombos q_impl_IsCombos x).1 x
theorem vu_impl_IsCombos (x):v_impl_IsCombos x=fnV df_impl_IsCombos h_impl_IsCombos q_impl_IsCombos x:=by unfold v_impl_IsCombos;exact congrFun (shut _).2 x
theorem ou_impl_IsCombos (x):ok_impl_IsCombos x=fnOk df_impl_IsCombos h_impl_IsCombos q_impl_IsCombos x:=by unfold ok_impl_IsCombos;exact congrFun (shut _).2 x
noncomputable def D_impl_IsCombos:DSem:=DSemOf h_impl_IsCombos q_impl_IsCombos ok_impl_IsCombos v_impl_IsCombos
theorem ck_impl_IsCombos(x:List (Int×Int)):fnChk df_impl_IsCombos h_impl_IsCombos q_impl_IsCombos x=true:=by kernel_rfl
theorem ob_impl_IsCombos:AllD df_impl_IsCombos.body.obs:=⟨sd_math_bits_OnesCount,trivial⟩
theorem st_impl_IsCombos:fnSt df_impl_IsCombos h_impl_IsCombos q_impl_IsCombos=true:=by kernel_rfl
theorem sd_impl_IsCombos:SoundD p_impl_IsCombos D_impl_IsCombos:=by unfold p_impl_IsCombos;exact soundD_of (f:=df_impl_IsCombos) (hs:=h_impl_IsCombos) (q:=q_impl_IsCombos) ob_impl_IsCombos st_impl_IsCombos ck_impl_IsCombos (fun x h=>Eq.mp (ou_impl_IsCombos x) h) (fun x=>(vu_impl_IsCombos x).symm)
end
section
set_option maxRecDepth 100000
theorem ve_spec_l11Count (x):v_spec_l11Count x=(loopV (fun(x0:(Int×Int))=>(iLe x0.2 31)) (fun(x0:(Int×Int))=>((iAdd .i64 x0.1 (iAnd .i64 (iShr .i64 x x0.2) 1)),(iAdd .i64 x0.2 1))) (0,0)).1:=(vu_spec_l11Count x).trans (by kernel_rfl)
theorem oe_spec_l11Count (x):ok_spec_l11Count x=(LoopOk (fun(x0:(Int×Int))=>(iLe x0.2 31)) (fun(x0:(Int×Int))=>((iAdd .i64 x0.1 (iAnd .i64 (iShr .i64 x x0.2) 1)),(iAdd .i64 x0.2 1))) (fun(x0:(Int×Int))=>(((iLe x0.2 31)=true→((0:Int)≤x0.2))∧((iLe x0.2 31)=false→True))) (0,0)):=(ou_spec_l11Count x).trans (by kernel_rfl)
theorem ve_spec_IsCombos (x):v_spec_IsCombos x=(bAnd (bNot (iLt (loopV (fun(x0:Int)=>(bAnd (iLt x0 (lLen x)) (bAnd (bNot (bOr (bNot (v_spec_l1In ((lGet x (iNat x0) (0,0)).1,0,16777215))) (bOr (bNot (v_spec_l1In ((v_spec_l11Count (lGet x (iNat x0) (0,0)).1),2,4))) (bNot (v_spec_l1In ((lGet x (iNat x0) (0,0)).2,24,31)))))) (bNot (iLt (loopV (fun(x1:Int)=>(bAnd (iLt x1 x0) (bNot (bOr (iEq (lGet x (iNat x1) (0,0)).1 (lGet x (iNat x0) (0,0)).1) (iEq (lGet x (iNat x1) (0,0)).2 (lGet x (iNat x0) (0,0)).2))))) (fun(x1:Int)=>(iAdd .i64 x1 1)) 0) x0))))) (fun(x0:Int)=>(iAdd .i64 x0 1)) 0) (lLen x))) (iLe (lLen x) 8)):=(vu_spec_IsCombos x).trans (by kernel_rfl)
theorem oe_spec_IsCombos (x):ok_spec_IsCombos x=(LoopOk (fun(x0:Int)=>(bAnd (iLt x0 (lLen x)) (bAnd (bNot (bOr (bNot (v_spec_l1In ((lGet x (iNat x0) (0,0)).1,0,16777215))) (bOr (bNot (v_spec_l1In ((v_spec_l11Count (lGet x (iNat x0) (0,0)).1),2,4))) (bNot (v_spec_l1In ((lGet x (iNat x0) (0,0)).2,24,31)))))) (bNot (iLt (loopV (fun(x1:Int)=>(bAnd (iLt x1 x0) (bNot (bOr (iEq (lGet x (iNat x1) (0,0)).1 (lGet x (iNat x0) (0,0)).1) (iEq (lGet x (iNat x1) (0,0)).2 (lGet x (iNat x0) (0,0)).2))))) (fun(x1:Int)=>(iAdd .i64 x1 1)) 0) x0))))) (fun(x0:Int)=>(iAdd .i64 x0 1)) (fun(x0:Int)=>(((iLt x0 (lLen x))=true→(((((0:Int)≤x0)∧(x0<(((List.length x):Int))))∧(((iNat x0)<(List.length x))∧((ok_spec_l1In ((lGet x (iNat x0) (0,0)).1,0,16777215))∧(((bNot (v_spec_l1In ((lGet x (iNat x0) (0,0)).1,0,16777215)))=true→True)∧((bNot (v_spec_l1In ((lGet x (iNat x0) (0,0)).1,0,16777215)))=false→((((0:Int)≤x0)∧(x0<(((List.length x):Int))))∧(((iNat x0)<(List.length x))∧((ok_spec_l11Count (lGet x (iNat x0) (0,0)).1)∧((ok_spec_l1In ((v_spec_l11Count (lGet x (iNat x0) (0,0)).1),2,4))∧(((bNot (v_spec_l1In ((v_spec_l11Count (lGet x (iNat x0) (0,0)).1),2,4)))=true→True)∧((bNot (v_spec_l1In ((v_spec_l11Count (lGet x (iNat x0) (0,0)).1),2,4)))=false→((((0:Int)≤x0)∧(x0<(((List.length x):Int))))∧(((iNat x0)<(List.length x))∧(ok_spec_l1In ((lGet x (iNat x0) (0,0)).2,24,31)))))))))))))))∧(((bOr (bNot (v_spec_l1In ((lGet x (iNat x0) (0,0)).1,0,16777215))) (bOr (bNot (v_spec_l1In ((v_spec_l11Count (lGet x (iNat x0) (0,0)).1),2,4))) (bNot (v_spec_l1In ((lGet x (iNat x0) (0,0)).2,24,31)))))=true→True)∧((bOr (bNot (v_spec_l1In ((lGet x (iNat x0) (0,0)).1,0,16777215))) (bOr (bNot (v_spec_l1In ((v_spec_l11Count (lGet x (iNat x0) (0,0)).1),2,4))) (bNot (v_spec_l1In ((lGet x (iNat x0) (0,0)).2,24,31)))))=false→(LoopOk (fun(x1:Int)=>(bAnd (iLt x1 x0) (bNot (bOr (iEq (lGet x (iNat x1) (0,0)).1 (lGet x (iNat x0) (0,0)).1) (iEq (lGet x (iNat x1) (0,0)).2 (lGet x (iNat x0) (0,0)).2))))) (fun(x1:Int)=>(iAdd .i64 x1 1)) (fun(x1:Int)=>(((iLt x1 x0)=true→((((0:Int)≤x1)∧(x1<(((List.length x):Int))))∧(((iNat x1)<(List.length x))∧((((0:Int)≤x0)∧(x0<(((List.length x):Int))))∧(((iNat x0)<(List.length x))∧(((iEq (lGet x (iNat x1) (0,0)).1 (lGet x (iNat x0) (0,0)).1)=true→True)∧((iEq (lGet x (iNat x1) (0,0)).1 (lGet x (iNat x0) (0,0)).1)=false→((((0:Int)≤x1)∧(x1<(((List.length x):Int))))∧(((iNat x1)<(List.length x))∧((((0:Int)≤x0)∧(x0<(((List.length x):Int))))∧((iNat x0)<(List.length x))))))))))))∧((iLt x1 x0)=false→True))) 0)))))∧((iLt x0 (lLen x))=false→True))) 0):=(ou_spec_IsCombos x).trans (by kernel_rfl)
theorem ve_math_bits_OnesCount64 (x):v_math_bits_OnesCount64 x=(iAnd .i64 (iConv .i64 (iAdd .u64 (iAdd .u64 (iAdd .u64 (iAnd .u64 (iAdd .u64 (iShr .u64 (iAdd .u64 (iAnd .u64 (iShr .u64 (iAdd .u64 (iAnd .u64 (iShr .u64 x 1) 6148914691236517205) (iAnd .u64 x 6148914691236517205)) 2) 3689348814741910323) (iAnd .u64 (iAdd .u64 (iAnd .u64 (iShr .u64 x 1) 6148914691236517205) (iAnd .u64 x 6148914691236517205)) 3689348814741910323)) 4) (iAdd .u64 (iAnd .u64 (iShr .u64 (iAdd .u64 (iAnd .u64 (iShr .u64 x 1) 6148914691236517205) (iAnd .u64 x 6148914691236517205)) 2) 3689348814741910323) (iAnd .u64 (iAdd .u64 (iAnd .u64 (iShr .u64 x 1) 6148914691236517205) (iAnd .u64 x 6148914691236517205)) 3689348814741910323))) 1085102592571150095) (iShr .u64 (iAnd .u64 (iAdd .u64 (iShr .u64 (iAdd .u64 (iAnd .u64 (iShr .u64 (iAdd .u64 (iAnd .u64 (iShr .u64 x 1) 6148914691236517205) (iAnd .u64 x 6148914691236517205)) 2) 3689348814741910323) (iAnd .u64 (iAdd .u64 (iAnd .u64 (iShr .u64 x 1) 6148914691236517205) (iAnd .u64 x 6148914691236517205)) 3689348814741910323)) 4) (iAdd .u64 (iAnd .u64 (iShr .u64 (iAdd .u64 (iAnd .u64 (iShr .u64 x 1) 6148914691236517205) (iAnd .u64 x 6148914691236517205)) 2) 3689348814741910323) (iAnd .u64 (iAdd .u64 (iAnd .u64 (iShr .u64 x 1) 6148914691236517205) (iAnd .u64 x 6148914691236517205)) 3689348814741910323))) 1085102592571150095) 8)) (iShr .u64 (iAdd .u64 (iAnd .u64 (iAdd .u64 (iShr .u64 (iAdd .u64 (iAnd .u64 (iShr .u64 (iAdd .u64 (iAnd .u64 (iShr .u64 x 1) 6148914691236517205) (iAnd .u64 x 6148914691236517205)) 2) 3689348814741910323) (iAnd .u64 (iAdd .u64 (iAnd .u64 (iShr .u64 x 1) 6148914691236517205) (iAnd .u64 x 6148914691236517205)) 3689348814741910323)) 4) (iAdd .u64 (iAnd .u64 (iShr .u64 (iAdd .u64 (iAnd .u64 (iShr .u64 x 1) 6148914691236517205) (iAnd .u64 x 6148914691236517205)) 2) 3689348814741910323) (iAnd .u64 (iAdd .u64 (iAnd .u64 (iShr .u64 x 1) 6148914691236517205) (iAnd .u64 x 6148914691236517205)) 3689348814741910323))) 1085102592571150095) (iShr .u64 (iAnd .u64 (iAdd .u64 (iShr .u64 (iAdd .u64 (iAnd .u64 (iShr .u64 (iAdd .u64 (iAnd .u64 (iShr .u64 x 1) 6148914691236517205) (iAnd .u64 x 6148914691236517205)) 2) 3689348814741910323) (iAnd .u64 (iAdd .u64 (iAnd .u64 (iShr .u64 x 1) 6148914691236517205) (iAnd .u64 x 6148914691236517205)) 3689348814741910323)) 4) (iAdd .u64 (iAnd .u64 (iShr .u64 (iAdd .u64 (iAnd .u64 (iShr .u64 x 1) 6148914691236517205) (iAnd .u64 x 6148914691236517205)) 2) 3689348814741910323) (iAnd .u64 (iAdd .u64 (iAnd .u64 (iShr .u64 x 1) 6148914691236517205) (iAnd .u64 x 6148914691236517205)) 3689348814741910323))) 1085102592571150095) 8)) 16)) (iShr .u64 (iAdd .u64 (iAdd .u64 (iAnd .u64 (iAdd .u64 (iShr .u64 (iAdd .u64 (iAnd .u64 (iShr .u64 (iAdd .u64 (iAnd .u64 (iShr .u64 x 1) 6148914691236517205) (iAnd .u64 x 6148914691236517205)) 2) 3689348814741910323) (iAnd .u64 (iAdd .u64 (iAnd .u64 (iShr .u64 x 1) 6148914691236517205) (iAnd .u64 x 6148914691236517205)) 3689348814741910323)) 4) (iAdd .u64 (iAnd .u64 (iShr .u64 (iAdd .u64 (iAnd .u64 (iShr .u64 x 1) 6148914691236517205) (iAnd .u64 x 6148914691236517205)) 2) 3689348814741910323) (iAnd .u64 (iAdd .u64 (iAnd .u64 (iShr .u64 x 1) 6148914691236517205) (iAnd .u64 x 6148914691236517205)) 3689348814741910323))) 1085102592571150095) (iShr .u64 (iAnd .u64 (iAdd .u64 (iShr .u64 (iAdd .u64 (iAnd .u64 (iShr .u64 (iAdd .u64 (iAnd .u64 (iShr .u64 x 1) 6148914691236517205) (iAnd .u64 x 6148914691236517205)) 2) 3689348814741910323) (iAnd .u64 (iAdd .u64 (iAnd .u64 (iShr .u64 x 1) 6148914691236517205) (iAnd .u64 x 6148914691236517205)) 3689348814741910323)) 4) (iAdd .u64 (iAnd .u64 (iShr .u64 (iAdd .u64 (iAnd .u64 (iShr .u64 x 1) 6148914691236517205) (iAnd .u64 x 6148914691236517205)) 2) 3689348814741910323) (iAnd .u64 (iAdd .u64 (iAnd .u64 (iShr .u64 x 1) 6148914691236517205) (iAnd .u64 x 6148914691236517205)) 3689348814741910323))) 1085102592571150095) 8)) (iShr .u64 (iAdd .u64 (iAnd .u64 (iAdd .u64 (iShr .u64 (iAdd .u64 (iAnd .u64 (iShr .u64 (iAdd .u64 (iAnd .u64 (iShr .u64 x 1) 6148914691236517205) (iAnd .u64 x 6148914691236517205)) 2) 3689348814741910323) (iAnd .u64 (iAdd .u64 (iAnd .u64 (iShr .u64 x 1) 6148914691236517205) (iAnd .u64 x 6148914691236517205)) 3689348814741910323)) 4) (iAdd .u64 (iAnd .u64 (iShr .u64 (iAdd .u64 (iAnd .u64 (iShr .u64 x 1) 6148914691236517205) (iAnd .u64 x 6148914691236517205)) 2) 3689348814741910323) (iAnd .u64 (iAdd .u64 (iAnd .u64 (iShr .u64 x 1) 6148914691236517205) (iAnd .u64 x 6148914691236517205)) 3689348814741910323))) 1085102592571150095) (iShr .u64 (iAnd .u64 (iAdd .u64 (iShr .u64 (iAdd .u64 (iAnd .u64 (iShr .u64 (iAdd .u64 (iAnd .u64 (iShr .u64 x 1) 6148914691236517205) (iAnd .u64 x 6148914691236517205)) 2) 3689348814741910323) (iAnd .u64 (iAdd .u64 (iAnd .u64 (iShr .u64 x 1) 6148914691236517205) (iAnd .u64 x 6148914691236517205)) 3689348814741910323)) 4) (iAdd .u64 (iAnd .u64 (iShr .u64 (iAdd .u64 (iAnd .u64 (iShr .u64 x 1) 6148914691236517205) (iAnd .u64 x 6148914691236517205)) 2) 3689348814741910323) (iAnd .u64 (iAdd .u64 (iAnd .u64 (iShr .u64 x 1) 6148914691236517205) (iAnd .u64 x 6148914691236517205)) 3689348814741910323))) 1085102592571150095) 8)) 16)) 32))) 127):=(vu_math_bits_OnesCount64 x).trans (by kernel_rfl)
theorem oe_math_bits_OnesCount64 (x):ok_math_bits_OnesCount64 x=(((0:Int)≤1)∧(((0:Int)≤2)∧(((0:Int)≤4)∧(((0:Int)≤8)∧(((0:Int)≤16)∧((0:Int)≤32)))))):=(ou_math_bits_OnesCount64 x).trans (by kernel_rfl)
theorem ve_math_bits_OnesCount (x):v_math_bits_OnesCount x=(v_math_bits_OnesCount64 x):=(vu_math_bits_OnesCount x).trans (by kernel_rfl)
theorem oe_math_bits_OnesCount (x):ok_math_bits_OnesCount x=(ok_math_bits_OnesCount64 x):=(ou_math_bits_OnesCount x).trans (by kernel_rfl)
theorem ve_impl_IsCombos (x):v_impl_IsCombos x=(bAnd (bNot (iGt (lLen x) 8)) (bNot (iLt (loopV (fun(x0:Int)=>(bAnd (iLt x0 (lLen x)) (bAnd (bNot (bOr (iLt (lGet x (iNat x0) (0,0)).1 0) (bOr (iGt (lGet x (iNat x0) (0,0)).1 16777215) (bOr (iLt (lGet x (iNat x0) (0,0)).2 24) (iGt (lGet x (iNat x0) (0,0)).2 31))))) (bAnd (bNot (bOr (iLt (v_math_bits_OnesCount (iConv .u64 (lGet x (iNat x0) (0,0)).1)) 2) (iGt (v_math_bits_OnesCount (iConv .u64 (lGet x (iNat x0) (0,0)).1)) 4))) (bNot (iLt (loopV (fun(x1:Int)=>(bAnd (iLt x1 (lLen (lSub x 0 (iNat x0)))) (bNot (bOr (iEq (lGet (lSub x 0 (iNat x0)) (iNat x1) (0,0)).1 (lGet x (iNat x0) (0,0)).1) (iEq (lGet (lSub x 0 (iNat x0)) (iNat x1) (0,0)).2 (lGet x (iNat x0) (0,0)).2))))) (fun(x1:Int)=>(iAdd .i64 x1 1)) 0) (lLen (lSub x 0 (iNat x0))))))))) (fun(x0:Int)=>(iAdd .i64 x0 1)) 0) (lLen x)))):=(vu_impl_IsCombos x).trans (by kernel_rfl)
theorem oe_impl_IsCombos (x):ok_impl_IsCombos x=(((iGt (lLen x) 8)=true→True)∧((iGt (lLen x) 8)=false→(LoopOk (fun(x0:Int)=>(bAnd (iLt x0 (lLen x)) (bAnd (bNot (bOr (iLt (lGet x (iNat x0) (0,0)).1 0) (bOr (iGt (lGet x (iNat x0) (0,0)).1 16777215) (bOr (iLt (lGet x (iNat x0) (0,0)).2 24) (iGt (lGet x (iNat x0) (0,0)).2 31))))) (bAnd (bNot (bOr (iLt (v_math_bits_OnesCount (iConv .u64 (lGet x (iNat x0) (0,0)).1)) 2) (iGt (v_math_bits_OnesCount (iConv .u64 (lGet x (iNat x0) (0,0)).1)) 4))) (bNot (iLt (loopV (fun(x1:Int)=>(bAnd (iLt x1 (lLen (lSub x 0 (iNat x0)))) (bNot (bOr (iEq (lGet (lSub x 0 (iNat x0)) (iNat x1) (0,0)).1 (lGet x (iNat x0) (0,0)).1) (iEq (lGet (lSub x 0 (iNat x0)) (iNat x1) (0,0)).2 (lGet x (iNat x0) (0,0)).2))))) (fun(x1:Int)=>(iAdd .i64 x1 1)) 0) (lLen (lSub x 0 (iNat x0))))))))) (fun(x0:Int)=>(iAdd .i64 x0 1)) (fun(x0:Int)=>(((iLt x0 (lLen x))=true→((((0:Int)≤x0)∧(x0<(((List.length x):Int))))∧(((iNat x0)<(List.length x))∧(((bOr (iLt (lGet x (iNat x0) (0,0)).1 0) (bOr (iGt (lGet x (iNat x0) (0,0)).1 16777215) (bOr (iLt (lGet x (iNat x0) (0,0)).2 24) (iGt (lGet x (iNat x0) (0,0)).2 31))))=true→True)∧((bOr (iLt (lGet x (iNat x0) (0,0)).1 0) (bOr (iGt (lGet x (iNat x0) (0,0)).1 16777215) (bOr (iLt (lGet x (iNat x0) (0,0)).2 24) (iGt (lGet x (iNat x0) (0,0)).2 31))))=false→((ok_math_bits_OnesCount (iConv .u64 (lGet x (iNat x0) (0,0)).1))∧(((bOr (iLt (v_math_bits_OnesCount (iConv .u64 (lGet x (iNat x0) (0,0)).1)) 2) (iGt (v_math_bits_OnesCount (iConv .u64 (lGet x (iNat x0) (0,0)).1)) 4))=true→True)∧((bOr (iLt (v_math_bits_OnesCount (iConv .u64 (lGet x (iNat x0) (0,0)).1)) 2) (iGt (v_math_bits_OnesCount (iConv .u64 (lGet x (iNat x0) (0,0)).1)) 4))=false→((((0:Int)≤x0)∧((0≤(iNat x0))∧(((iNat x0)≤(List.length x))∧(0<(List.length x)))))∧(LoopOk (fun(x1:Int)=>(bAnd (iLt x1 (lLen (lSub x 0 (iNat x0)))) (bNot (bOr (iEq (lGet (lSub x 0 (iNat x0)) (iNat x1) (0,0)).1 (lGet x (iNat x0) (0,0)).1) (iEq (lGet (lSub x 0 (iNat x0)) (iNat x1) (0,0)).2 (lGet x (iNat x0) (0,0)).2))))) (fun(x1:Int)=>(iAdd .i64 x1 1)) (fun(x1:Int)=>(((iLt x1 (lLen (lSub x 0 (iNat x0))))=true→((((0:Int)≤x1)∧(x1<(((List.length (lSub x 0 (iNat x0))):Int))))∧((iNat x1)<(List.length (lSub x 0 (iNat x0))))))∧((iLt x1 (lLen (lSub x 0 (iNat x0))))=false→True))) 0))))))))))∧((iLt x0 (lLen x))=false→True))) 0))):=(ou_impl_IsCombos x).trans (by kernel_rfl)
end
theorem u64_wrap{n:Int}(h0:0≤n)(h1:n<18446744073709551616):IntKind.u64.wrap n=n:=by
 simp only[IntKind.wrap,IntKind.bits,IntKind.signed,Bool.false_and,Bool.false_eq_true,if_false]
 omega
theorem nAnd{a b:Nat}(ha:a<18446744073709551616)(hb:b<18446744073709551616):iAnd .u64 (a:Int) (b:Int)=((a &&& b:Nat):Int):=by
 have e:(BitVec.ofInt 64 (a:Int) &&& BitVec.ofInt 64 (b:Int)).toNat=a &&& b:=by
  rw[BitVec.ofInt_natCast,BitVec.ofInt_natCast,BitVec.toNat_and,BitVec.toNat_ofNat,BitVec.toNat_ofNat,Nat.mod_eq_of_lt ha,Nat.mod_eq_of_lt hb]
 have h:a &&& b≤a:=Nat.and_le_left
 rw[iAnd_u]
 show IntKind.u64.wrap ((BitVec.ofInt 64 (a:Int) &&& BitVec.ofInt 64 (b:Int)).toNat:Int)=_
 rw[e]
 exact u64_wrap (by omega) (by omega)
theorem nAdd{a b:Nat}(h:a+b<18446744073709551616):iAdd .u64 (a:Int) (b:Int)=((a+b:Nat):Int):=by
 rw[iAdd_u];rw[u64_wrap (by omega) (by omega)];omega
theorem nShr(a k:Nat)(h:k≤64):iShr .u64 (a:Int) (k:Int)=((a / 2^k:Nat):Int):=by
 rw[iShr_u]
 show Int.fdiv (a:Int) (2^min (k:Int).toNat 64)=_
 rw[Int.toNat_natCast,Nat.min_eq_left h,Int.fdiv_eq_ediv_of_nonneg _ (by exact_mod_cast Nat.zero_le _)]
 norm_cast
theorem and_step(w m:Nat):w &&& m=(w % 256 &&& m % 256)+256*(w / 256 &&& m / 256):=by
 have h1:(w &&& m) / 256=w / 256 &&& m / 256:=Nat.and_div_two_pow (n:=8)
 have h2:(w &&& m) % 256=w % 256 &&& m % 256:=Nat.and_mod_two_pow (n:=8)
 have:=Nat.div_add_mod (w &&& m) 256
 omega
theorem and3(a b c s m:Nat)(ha:a<256)(hb:b<256)(hc:c<256)(h0:m % 256=s)(h1:m / 256 % 256=s)(h2:m / 256 / 256 % 256=s) :
 (a+256*b+65536*c) &&& m=(a &&& s)+256*(b &&& s)+65536*(c &&& s):=by
 rw[and_step,show (a+256*b+65536*c) % 256=a by omega,show (a+256*b+65536*c) / 256=b+256*c by omega,and_step (b+256*c),h0,
  show (b+256*c) % 256=b by omega,show (b+256*c) / 256=c by omega,and_step c,h1,h2,show c % 256=c by omega,show c / 256=0 by omega,Nat.zero_and]
 omega
def g1(a:Nat):Nat:=(a / 2 &&& 85)+(a &&& 85)
def g2(a:Nat):Nat:=(a / 4 &&& 51)+(a &&& 51)
def g3(a:Nat):Nat:=(a / 16+a) % 16
def pc(a:Nat):Nat:=a % 2+a / 2 % 2+a / 4 % 2+a / 8 % 2+a / 16 % 2+a / 32 % 2+a / 64 % 2+a / 128 % 2
set_option maxRecDepth 20000 in
theorem b_d1:∀ a:Fin 256,∀ e:Fin 2,(a.val / 2+128*e.val) &&& 85=a.val / 2 &&& 85:=by decide +kernel
set_option maxRecDepth 20000 in
theorem b_d2:∀ a:Fin 256,∀ e:Fin 4,(a.val / 4+64*e.val) &&& 51=a.val / 4 &&& 51:=by decide +kernel
set_option maxRecDepth 20000 in
theorem b_pc:∀ a:Fin 256,g1 a.val<256∧g2 (g1 a.val)<256∧g2 (g1 a.val) / 16≤4∧g2 (g1 a.val) % 16≤4∧g3 (g2 (g1 a.val))=pc a.val:=by decide +kernel
noncomputable def o1(x:Int):Int:=iAdd .u64 (iAnd .u64 (iShr .u64 x 1) 6148914691236517205) (iAnd .u64 x 6148914691236517205)
noncomputable def o2(x:Int):Int:=iAdd .u64 (iAnd .u64 (iShr .u64 x 2) 3689348814741910323) (iAnd .u64 x 3689348814741910323)
noncomputable def o3(x:Int):Int:=iAnd .u64 (iAdd .u64 (iShr .u64 x 4) x) 1085102592571150095
noncomputable def o4(k x:Int):Int:=iAdd .u64 x (iShr .u64 x k)
theorem ones_eq(x:Int):v_math_bits_OnesCount64 x=iAnd .i64 (iConv .i64 (o4 32 (o4 16 (o4 8 (o3 (o2 (o1 x))))))) 127:=by
 rw[ve_math_bits_OnesCount64];rfl
def w3(a b c:Nat):Int:=((a+256*b+65536*c:Nat):Int)
theorem o1_eq{a b c:Nat}(ha:a<256)(hb:b<256)(hc:c<256):o1 (w3 a b c)=w3 (g1 a) (g1 b) (g1 c):=by
 unfold o1 w3
 have d:=fun(a e:Nat) (h:a<256) (h':e<2)=>b_d1 ⟨a,h⟩ ⟨e,h'⟩
 simp only at d
 have k0:=(b_pc ⟨a,ha⟩).1
 have k1:=(b_pc ⟨b,hb⟩).1
 have k2:=(b_pc ⟨c,hc⟩).1
 simp only[g1] at k0 k1 k2
 rw[show (1:Int)=((1:Nat):Int) from rfl,show (6148914691236517205:Int)=((6148914691236517205:Nat):Int) from rfl,nShr _ 1 (by omega),
  nAnd (by omega) (by omega),nAnd (by omega) (by omega),and3 a b c 85 _ ha hb hc (by decide) (by decide) (by decide),
  show (a+256*b+65536*c) / 2^1=(a / 2+128*(b % 2))+256*(b / 2+128*(c % 2))+65536*(c / 2) by omega,
  and3 _ _ _ 85 _ (by omega) (by omega) (by omega) (by decide) (by decide) (by decide),d a _ ha (by omega),d b _ hb (by omega),nAdd (by omega)]
 simp only[g1]
 congr 1
 omega
theorem o2_eq{a b c:Nat}(ha:a<256)(hb:b<256)(hc:c<256)(ka:g2 a<256)(kb:g2 b<256)(kc:g2 c<256):o2 (w3 a b c)=w3 (g2 a) (g2 b) (g2 c):=by
 unfold o2 w3
 have d:=fun(a e:Nat) (h:a<256) (h':e<4)=>b_d2 ⟨a,h⟩ ⟨e,h'⟩
 simp only at d
 simp only[g2] at ka kb kc
 rw[show (2:Int)=((2:Nat):Int) from rfl,show (3689348814741910323:Int)=((3689348814741910323:Nat):Int) from rfl,nShr _ 2 (by omega),
  nAnd (by omega) (by omega),nAnd (by omega) (by omega),and3 a b c 51 _ ha hb hc (by decide) (by decide) (by decide),
  show (a+256*b+65536*c) / 2^2=(a / 4+64*(b % 4))+256*(b / 4+64*(c % 4))+65536*(c / 4) by omega,
  and3 _ _ _ 51 _ (by omega) (by omega) (by omega) (by decide) (by decide) (by decide),d a _ ha (by omega),d b _ hb (by omega),nAdd (by omega)]
 simp only[g2]
 congr 1
 omega
theorem and15(n:Nat):n &&& 15=n % 16:=Nat.and_two_pow_sub_one_eq_mod n 4
theorem o3_eq{a b c:Nat}(ha:a / 16≤4∧a % 16≤4)(hb:b / 16≤4∧b % 16≤4)(hc:c / 16≤4∧c % 16≤4):o3 (w3 a b c)=w3 (g3 a) (g3 b) (g3 c):=by
 unfold o3 w3
 rw[show (4:Int)=((4:Nat):Int) from rfl,show (1085102592571150095:Int)=((1085102592571150095:Nat):Int) from rfl,nShr _ 4 (by omega),nAdd (by omega),
  nAnd (by omega) (by omega),
  show (a+256*b+65536*c) / 2^4+(a+256*b+65536*c)=(a / 16+16*(b % 16)+a)+256*(b / 16+16*(c % 16)+b)+65536*(c / 16+c) by omega,
  and3 _ _ _ 15 _ (by omega) (by omega) (by omega) (by decide) (by decide) (by decide),and15,and15,and15]
 simp only[g3]
 congr 1
 omega
theorem iAnd_127{n:Nat}(h:n<9223372036854775808):iAnd .i64 (n:Int) 127=((n % 128:Nat):Int):=by
 have e:(BitVec.ofInt 64 (n:Int) &&& BitVec.ofInt 64 127).toNat=n % 128:=by
  rw[BitVec.ofInt_natCast,BitVec.toNat_and,BitVec.toNat_ofNat,Nat.mod_eq_of_lt (by omega)]
  exact Nat.and_two_pow_sub_one_eq_mod n 7
 rw[iAnd_u]
 show IntKind.i64.wrap ((BitVec.ofInt 64 (n:Int) &&& BitVec.ofInt 64 127).toNat:Int)=_
 rw[e]
 exact wrap_i64 (by unfold In64;omega)
theorem o4_eq{A B C:Nat}(hA:A≤15)(hB:B≤15)(hC:C≤15):iAnd .i64 (iConv .i64 (o4 32 (o4 16 (o4 8 (w3 A B C))))) 127=((A+B+C:Nat):Int):=by
 unfold o4 w3
 have e1:A+256*B+65536*C+(A+256*B+65536*C) / 2^8=A+B+256*(B+C)+65536*C:=by omega
 have e2:A+B+256*(B+C)+65536*C+(A+B+256*(B+C)+65536*C) / 2^16=A+B+C+256*(B+C)+65536*C:=by omega
 have e3:A+B+C+256*(B+C)+65536*C+(A+B+C+256*(B+C)+65536*C) / 2^32=A+B+C+256*(B+C)+65536*C:=by omega
 rw[show (8:Int)=((8:Nat):Int) from rfl,nShr _ 8 (by omega),nAdd (by omega),e1,show (16:Int)=((16:Nat):Int) from rfl,nShr _ 16 (by omega),nAdd (by omega),e2,
  show (32:Int)=((32:Nat):Int) from rfl,nShr _ 32 (by omega),nAdd (by omega),e3,iConv_i64 (by unfold In64;omega),iAnd_127 (by omega)]
 congr 1
 omega
theorem ones_w3{a b c:Nat}(ha:a<256)(hb:b<256)(hc:c<256):v_math_bits_OnesCount64 (w3 a b c)=((pc a+pc b+pc c:Nat):Int):=by
 obtain⟨a1,a2,a3,a4,a5⟩:=b_pc ⟨a,ha⟩
 obtain⟨b1,b2,b3,b4,b5⟩:=b_pc ⟨b,hb⟩
 obtain⟨c1,c2,c3,c4,c5⟩:=b_pc ⟨c,hc⟩
 simp only at a1 a2 a3 a4 a5 b1 b2 b3 b4 b5 c1 c2 c3 c4 c5
 rw[ones_eq,o1_eq ha hb hc,o2_eq a1 b1 c1 a2 b2 c2,o3_eq ⟨a3,a4⟩ ⟨b3,b4⟩ ⟨c3,c4⟩,o4_eq (by unfold g3;omega) (by unfold g3;omega) (by unfold g3;omega),a5,b5,c5]
theorem nShr64(a k:Nat)(h:k≤64):iShr .i64 (a:Int) (k:Int)=((a / 2^k:Nat):Int):=by
 rw[iShr_u]
 show Int.fdiv (a:Int) (2^min (k:Int).toNat 64)=_
 rw[Int.toNat_natCast,Nat.min_eq_left h,Int.fdiv_eq_ediv_of_nonneg _ (by exact_mod_cast Nat.zero_le _)]
 norm_cast
theorem iAnd_one{n:Nat}(h:n<9223372036854775808):iAnd .i64 (n:Int) 1=((n % 2:Nat):Int):=by
 have e:(BitVec.ofInt 64 (n:Int) &&& BitVec.ofInt 64 1).toNat=n % 2:=by
  rw[BitVec.ofInt_natCast,BitVec.toNat_and,BitVec.toNat_ofNat,Nat.mod_eq_of_lt (by omega)]
  exact Nat.and_two_pow_sub_one_eq_mod n 1
 rw[iAnd_u]
 show IntKind.i64.wrap ((BitVec.ofInt 64 (n:Int) &&& BitVec.ofInt 64 1).toNat:Int)=_
 rw[e]
 exact wrap_i64 (by unfold In64;omega)
def bits(n:Nat):Nat→Nat
 |0=>0
 |k+1=>bits n k+n / 2^k % 2
theorem bits_le(n:Nat):∀ k,bits n k≤k
 |0=>Nat.le_refl _
 |k+1=>by unfold bits;have:=bits_le n k;omega
theorem count_eq{n:Nat}(h:n<16777216):v_spec_l11Count (n:Int)=((bits n 32:Nat):Int):=by
 rw[ve_spec_l11Count]
 have:=(loop_for (c:=fun x0:Int×Int=>iLe x0.2 31) (f:=fun x0:Int×Int=>(iAdd .i64 x0.1 (iAnd .i64 (iShr .i64 (n:Int) x0.2) 1),iAdd .i64 x0.2 1)) (p:=fun _=>True)
  32 (fun k=>(((bits n k:Nat):Int),(k:Int))) (x0:=(0,0)) rfl (fun k hk=>⟨trivial,by rw[iLe_eq];exact decide_eq_true (by show (k:Int)≤31;omega),?_⟩) ⟨trivial,by rw[iLe_eq];rfl⟩).2
 · rw[this]
 · have hle:=bits_le n k
   have hd:n / 2^k≤n:=Nat.div_le_self ..
   show (iAdd .i64 ((bits n k:Nat):Int) (iAnd .i64 (iShr .i64 (n:Int) (k:Int)) 1),iAdd .i64 (k:Int) 1)=_
   rw[nShr64 n k (by omega),iAnd_one (by omega),iAdd_i64 (by unfold In64;omega),iAdd_i64 (by unfold In64;omega)]
   simp only[bits]
   congr 1
theorem bits_zero:∀ k,bits 0 k=0
 |0=>rfl
 |k+1=>by unfold bits;rw[bits_zero k,Nat.zero_div]
theorem bits_byte{a:Nat}(w:Nat)(ha:a<256):∀ k,bits (a+256*w) (k+8)=pc a+bits w k
 | 0=>by
   have e0:(a+256*w) / 1 % 2=a % 2:=by omega
   have e1:(a+256*w) / 2 % 2=a / 2 % 2:=by omega
   have e2:(a+256*w) / 4 % 2=a / 4 % 2:=by omega
   have e3:(a+256*w) / 8 % 2=a / 8 % 2:=by omega
   have e4:(a+256*w) / 16 % 2=a / 16 % 2:=by omega
   have e5:(a+256*w) / 32 % 2=a / 32 % 2:=by omega
   have e6:(a+256*w) / 64 % 2=a / 64 % 2:=by omega
   have e7:(a+256*w) / 128 % 2=a / 128 % 2:=by omega
   show 0+(a+256*w) / 1 % 2+(a+256*w) / 2 % 2+(a+256*w) / 4 % 2+(a+256*w) / 8 % 2+(a+256*w) / 16 % 2+(a+256*w) / 32 % 2+(a+256*w) / 64 % 2+(a+256*w) / 128 % 2=pc a+0
   rw[e0,e1,e2,e3,e4,e5,e6,e7]
   unfold pc;omega
 | k + 1=>by
   have e:(a+256*w) / 2^(k+8)=w / 2^k:=by
    rw[Nat.add_comm k 8,Nat.pow_add,← Nat.div_div_eq_div_mul,show (a+256*w) / 2^8=w by omega]
   show bits (a+256*w) (k+8)+(a+256*w) / 2^(k+8) % 2=pc a+(bits w k+w / 2^k % 2)
   rw[bits_byte w ha k,e];omega
theorem bits_pc{a b c:Nat}(ha:a<256)(hb:b<256)(hc:c<256):bits (a+256*b+65536*c) 32=pc a+pc b+pc c:=by
 rw[show a+256*b+65536*c=a+256*(b+256*(c+256*0)) by omega,bits_byte _ ha 24,bits_byte _ hb 16,bits_byte _ hc 8,bits_zero]
 omega
theorem ones_count{x:Int}(h0:0≤x)(h1:x≤16777215):v_math_bits_OnesCount (iConv .u64 x)=v_spec_l11Count x:=by
 obtain⟨n,rfl⟩:∃ n:Nat,x=(n:Int):=⟨x.toNat,by omega⟩
 have e:(n:Int)=w3 (n % 256) (n / 256 % 256) (n / 65536):=by unfold w3;congr 1;omega
 have en:n=n % 256+256*(n / 256 % 256)+65536*(n / 65536):=by omega
 rw[ve_math_bits_OnesCount,show iConv .u64 (n:Int)=(n:Int) by rw[iConv_u];exact u64_wrap h0 (by omega),count_eq (by omega)]
 rw[e,ones_w3 (by omega) (by omega) (by omega)]
 congr 1
 rw[← bits_pc (by omega) (by omega) (by omega),← en]
theorem loop_cong{X:Type}{c d:X→Bool}{f g:X→X}(I:X→Prop)(m:X→Nat)(h:∀ x,I x→c x=d x∧(c x=true→f x=g x∧I (f x)∧m (f x)<m x)){x0:X}(h0:I x0):loopV c f x0=loopV d g x0:=by
 have go:∀ (n:Nat) (x:X),m x<n→I x→∃ y,LoopTo c f (fun _=>True) x y∧LoopTo d g (fun _=>True) x y:=by
  intro n
  induction n with
  |zero=>intro x hm;exact absurd hm (Nat.not_lt_zero _)
  | succ n ih=>
    intro x hm hI
    obtain⟨a,b⟩:=h x hI
    cases hc:c x with
    |false=>exact⟨x,.stop trivial hc,.stop trivial (by rw[← a,hc])⟩
    | true=>
      obtain⟨e,i,k⟩:=b hc
      obtain⟨y,d1,d2⟩:=ih (f x) (by omega) i
      exact⟨y,.go trivial hc d1,.go trivial (by rw[← a,hc]) (by rw[← e];exact d2)⟩
 obtain⟨y,d1,d2⟩:=go _ x0 (Nat.lt_succ_self _) h0
 rw[d1.val,d2.val]
theorem bAnd_ff(t:Bool):bAnd false t=false:=by rw[bAnd_eq,Bool.false_and]
theorem cnt_cong{c d:Int→Bool}{f g:Int→Int}(n:Int)(h0:0≤n)(hn:n≤9223372036854775806)(h:∀ st:Int,0≤st→st≤n→c st=d st∧(c st=true→st<n))(hf:∀ st,f st=iAdd .i64 st 1)(hg:∀ st,g st=iAdd .i64 st 1):loopV c f 0=loopV d g 0:=
 loop_cong (fun st=>0≤st∧st≤n) (fun st=>(n-st).toNat) (fun st hI=>⟨(h st hI.1 hI.2).1,fun hc=>by
  have:=(h st hI.1 hI.2).2 hc
  rw[hf,hg,iAdd_i64 (by unfold In64;omega)]
  exact⟨rfl,by omega,by omega⟩⟩) ⟨by omega,h0⟩
theorem rest_eq{K O OC CN Ls Li i n:Int}(hL:Ls=Li)(hn:n=i)(hc:0≤K→K≤16777215→OC=CN) :
 bAnd (bNot (bOr (bNot (v_spec_l1In (K,0,16777215))) (bOr (bNot (v_spec_l1In (CN,2,4))) (bNot (v_spec_l1In (O,24,31)))))) (bNot (iLt Ls i))=
 bAnd (bNot (bOr (iLt K 0) (bOr (iGt K 16777215) (bOr (iLt O 24) (iGt O 31))))) (bAnd (bNot (bOr (iLt OC 2) (iGt OC 4))) (bNot (iLt Li n))):=by
 subst hL hn
 have hd:∀ a b:Int,decide (a<b)=!decide (b≤a):=fun a b=>by simp only[← decide_not,Int.not_le]
 simp only[ve_spec_l1In,bAnd_eq,bNot_eq,bOr_eq,iGe_eq,iLe_eq,iLt_eq,iGt_eq,hd]
 by_cases k0:0≤K
 · by_cases k1:K≤16777215
   · rw[hc k0 k1]
     simp only[k0,k1,decide_true]
     generalize decide (2≤CN)=a
     generalize decide (CN≤4)=b
     generalize decide (24≤O)=c
     generalize decide (O≤31)=d
     generalize decide (n≤Ls)=e
     cases a<;>cases b<;>cases c<;>cases d<;>cases e<;>rfl
   · simp[k1]
 · simp[k0]
theorem isCombos_eq(x:List (Int×Int))(h:x.length≤1048576):v_spec_IsCombos x=v_impl_IsCombos x:=by
 rw[ve_spec_IsCombos,ve_impl_IsCombos]
 have fin:∀ {A B n:Int},A=B→bAnd (bNot (iLt A n)) (iLe n 8)=bAnd (bNot (iGt n 8)) (bNot (iLt B n)):=fun {A B n} e=>by
  subst e
  simp only[bAnd_eq,bNot_eq,iLe_eq,iGt_eq,← decide_not,Int.not_lt,Bool.and_comm]
 refine fin (cnt_cong x.length (by omega) (by omega) (fun i h0 h1=>?_) (fun _=>rfl) (fun _=>rfl))
 by_cases hlt:i<x.length
 · refine⟨?_,fun _=>hlt⟩
   congr 1
   have hs:lSub x 0 (iNat i)=x.take i.toNat:=by rw[lSub_eq,List.drop_zero,Nat.sub_zero,iNat_eq]
   have hl:(lLen (lSub x 0 (iNat i)):Int)=i:=by rw[hs,lLen_eq,List.length_take];omega
   refine rest_eq (cnt_cong i h0 (by omega) (fun k k0 k1=>⟨?_,fun hc=>?_⟩) (fun _=>rfl) (fun _=>rfl)) hl (fun a b=>ones_count a b)
   · rw[hl]
     by_cases hk:k<i
     · have e:lGet (lSub x 0 (iNat i)) (iNat k) (0,0)=lGet x (iNat k) (0,0):=by
        rw[hs,lGet_eq,lGet_eq,iNat_eq,List.getD_eq_getElem?_getD,List.getD_eq_getElem?_getD,List.getElem?_take,if_pos (by omega)]
       rw[e]
     · have e:iLt k i=false:=by rw[iLt_eq];exact decide_eq_false hk
       rw[e,bAnd_ff,bAnd_ff]
   · rw[bAnd_eq,iLt_eq,Bool.and_eq_true,decide_eq_true_eq] at hc;exact hc.1
 · have e:iLt i (lLen x)=false:=by rw[iLt_eq,lLen_eq];exact decide_eq_false hlt
   refine⟨by rw[e,bAnd_ff,bAnd_ff],fun hc=>?_⟩
   rw[e,bAnd_ff] at hc;cases hc
theorem ok_count(n:Int):ok_spec_l11Count n:=by
 rw[oe_spec_l11Count]
 refine cnt_ok (fun st=>st.2) 32 (by omega) (fun st _ _ h=>?_) (fun _=>rfl) (fun st h0 _=>⟨fun _=>h0,fun _=>trivial⟩) (by simp) (by simp)
 rw[iLe_eq,decide_eq_true_eq] at h
 omega
theorem ok_ones(n:Int):ok_math_bits_OnesCount n:=by
 rw[oe_math_bits_OnesCount,oe_math_bits_OnesCount64];decide
theorem ok_isCombos(x:List (Int×Int))(h:x.length≤1048576):ok_spec_IsCombos x∧ok_impl_IsCombos x:=by
 rw[oe_spec_IsCombos,oe_impl_IsCombos]
 have cc:∀ {st n:Int} {t:Bool},bAnd (iLt st n) t=true→st<n:=fun {st n t} h=>by
  rw[bAnd_eq,iLt_eq,Bool.and_eq_true,decide_eq_true_eq] at h;exact h.1
 have pp:∀ st:Int,0≤st→st<x.length→(((0:Int)≤st∧st<(x.length:Int))∧iNat st<x.length):=fun st h0 h1=>by
  rw[iNat_eq];omega
 constructor
 · refine cnt_ok (fun st=>st) x.length (by omega) (fun st _ _ h=>by have:=cc h;rwa [lLen_eq] at this) (fun _=>rfl) (fun i h0 h1=>⟨fun hlt=>?_,fun _=>trivial⟩) (by simp) (by simp)
   rw[iLt_eq,lLen_eq,decide_eq_true_eq] at hlt
   obtain⟨p1,p2⟩:=pp i h0 hlt
   simp only[oe_spec_l1In,ok_count]
   refine⟨⟨p1,p2,trivial,fun _=>trivial,fun _=>⟨p1,p2,trivial,trivial,fun _=>trivial,fun _=>⟨p1,p2,trivial⟩⟩⟩,fun _=>trivial,fun _=>?_⟩
   refine cnt_ok (fun st=>st) i (by omega) (fun st _ _ h=>cc h) (fun _=>rfl) (fun k k0 k1=>⟨fun hk=>?_,fun _=>trivial⟩) (by simp) h0
   rw[iLt_eq,decide_eq_true_eq] at hk
   obtain⟨q1,q2⟩:=pp k k0 (by omega)
   exact⟨q1,q2,p1,p2,fun _=>trivial,fun _=>⟨q1,q2,p1,p2⟩⟩
 · refine⟨fun _=>trivial,fun _=>?_⟩
   refine cnt_ok (fun st=>st) x.length (by omega) (fun st _ _ h=>by have:=cc h;rwa [lLen_eq] at this) (fun _=>rfl) (fun i h0 h1=>⟨fun hlt=>?_,fun _=>trivial⟩) (by simp) (by simp)
   rw[iLt_eq,lLen_eq,decide_eq_true_eq] at hlt
   obtain⟨p1,p2⟩:=pp i h0 hlt
   have hs:(lSub x 0 (iNat i)).length=i.toNat:=by rw[lSub_eq,List.drop_zero,Nat.sub_zero,iNat_eq,List.length_take];omega
   refine⟨p1,p2,fun _=>trivial,fun _=>⟨ok_ones _,fun _=>trivial,fun _=>⟨⟨h0,Nat.zero_le _,by omega,by omega⟩,?_⟩⟩⟩
   refine cnt_ok (fun st=>st) i (by omega) (fun st _ _ h=>by have:=cc h;rw[lLen_eq,hs] at this;omega) (fun _=>rfl) (fun k k0 k1=>⟨fun hk=>?_,fun _=>trivial⟩) (by simp) h0
   rw[iLt_eq,lLen_eq,hs,decide_eq_true_eq] at hk
   rw[hs]
   exact⟨⟨k0,hk⟩,by rw[iNat_eq];omega⟩
section
set_option maxRecDepth 8000
noncomputable def dc_spec_l11Switch:DCode:=
 (.seq [1] (.region [oa 0 1 (.boxB 0 3 (.t 0)),
 oa 1 2 (.mv (.c (.bool false)))])
  (.seq [2] (.region [oa 0 3 (.loadB 0 (some 3) (.t 1)),
 oc 1 4 s_spec_IsEvent p_spec_IsEvent D_spec_IsEvent [(.t 3)],
 om 2 5 4,
 og 3 6 (.fieldA 1 (.t 1)) 5 true,
 og 4 7 (.loadB 0 none (.t 6)) 5 true,
 og 5 8 (.bin .lss (.t 7) (.c (.int .i64 24))) 5 true,
 oa 6 9 (.pick (.t 5) (.t 8) (.c (.bool false))),
 om 7 2 9])
  .ret))
noncomputable def df_spec_l11Switch:DFun:=⟨1,10,1,true,[.tmp 2],dc_spec_l11Switch⟩
noncomputable def pf_spec_l11Switch:PFun:=df_spec_l11Switch.er
noncomputable def f_spec_l11Switch:AFun:=pf_spec_l11Switch.er
@[irreducible] noncomputable def s_spec_l11Switch:CallSem:=funSem f_spec_l11Switch
@[irreducible] noncomputable def p_spec_l11Switch:PSem:=pfunSem pf_spec_l11Switch
def h_spec_l11Switch:List HT:=[.agg [(.frz,.int .i64),(.frz,.int .i64),(.frz,.bool)]]
def q_spec_l11Switch:QT:=.one (.one .own (.bool))
@[irreducible] noncomputable def v_spec_l11Switch(x:Int×Int×Bool):Bool:=(shut fun x=>fnV df_spec_l11Switch h_spec_l11Switch q_spec_l11Switch x).1 x
@[irreducible] noncomputable def ok_spec_l11Switch(x:Int×Int×Bool):Prop:=(shut fun x=>fnOk df_spec_l11Switch h_spec_l11Switch q_spec_l11Switch x).1 x
theorem vu_spec_l11Switch (x):v_spec_l11Switch x=fnV df_spec_l11Switch h_spec_l11Switch q_spec_l11Switch x:=by unfold v_spec_l11Switch;exact congrFun (shut _).2 x
theorem ou_spec_l11Switch (x):ok_spec_l11Switch x=fnOk df_spec_l11Switch h_spec_l11Switch q_spec_l11Switch x:=by unfold ok_spec_l11Switch;exact congrFun (shut _).2 x
noncomputable def D_spec_l11Switch:DSem:=DSemOf h_spec_l11Switch q_spec_l11Switch ok_spec_l11Switch v_spec_l11Switch
noncomputable def dc_spec_l11Fits:DCode:=
 (.seq [1,0] (.region [oa 0 4 (.mv (.c (.bool false)))])
 (.seq [] (.seq [5,1,0] (.region [oi 0 5 0])
 (.block 0 (.loop [0,1,5] 1 (.seq [5,1,0] (.seq [9,5,1,0] (.region [om 0 6 5,
 on 1 7 0,
 oa 2 8 (.len (.t 7)),
 oa 3 9 (.bin .lss (.t 6) (.t 8))])
  (.cond (.t 9) .skip (.exit 0)))
  (.seq [5,1,0] (.block 1 (.seq [19,5,1,0] (.region [om 0 12 1,
 on 1 13 0,
 om 2 14 5,
 oa 3 15 (.indexA 2 (.t 13) (.t 14)),
 oa 4 16 (.fieldA 0 (.t 15)),
 oa 5 17 (.loadH none (.t 16)),
 oa 6 18 (.bin .andNot (.t 12) (.t 17)),
 oa 7 19 (.bin .eql (.t 18) (.c (.int .i64 0)))])
  (.cond (.t 19) (.seq [4] (.region [oa 0 4 (.mv (.c (.bool true)))])
  .ret) .skip)))
  (.region [om 0 10 5,
 oa 1 11 (.bin .add (.t 10) (.c (.int .i64 1))),
 om 2 5 11]))))))
  (.seq [4] (.region [oa 0 4 (.mv (.c (.bool false)))])
  .ret)))
noncomputable def df_spec_l11Fits:DFun:=⟨2,20,0,true,[.tmp 4],dc_spec_l11Fits⟩
noncomputable def pf_spec_l11Fits:PFun:=df_spec_l11Fits.er
noncomputable def f_spec_l11Fits:AFun:=pf_spec_l11Fits.er
@[irreducible] noncomputable def s_spec_l11Fits:CallSem:=funSem f_spec_l11Fits
@[irreducible] noncomputable def p_spec_l11Fits:PSem:=pfunSem pf_spec_l11Fits
def h_spec_l11Fits:List HT:=[.one .frz (.sl (.cons (.int .i64) (.one (.int .i64)))),.one .frz (.int .i64)]
def q_spec_l11Fits:QT:=.one (.one .own (.bool))
@[irreducible] noncomputable def v_spec_l11Fits(x:(List (Int×Int))×Int):Bool:=(shut fun x=>fnV df_spec_l11Fits h_spec_l11Fits q_spec_l11Fits x).1 x
@[irreducible] noncomputable def ok_spec_l11Fits(x:(List (Int×Int))×Int):Prop:=(shut fun x=>fnOk df_spec_l11Fits h_spec_l11Fits q_spec_l11Fits x).1 x
theorem vu_spec_l11Fits (x):v_spec_l11Fits x=fnV df_spec_l11Fits h_spec_l11Fits q_spec_l11Fits x:=by unfold v_spec_l11Fits;exact congrFun (shut _).2 x
theorem ou_spec_l11Fits (x):ok_spec_l11Fits x=fnOk df_spec_l11Fits h_spec_l11Fits q_spec_l11Fits x:=by unfold ok_spec_l11Fits;exact congrFun (shut _).2 x
noncomputable def D_spec_l11Fits:DSem:=DSemOf h_spec_l11Fits q_spec_l11Fits ok_spec_l11Fits v_spec_l11Fits
noncomputable def dc_spec_l11Out:DCode:=
 (.seq [1,0] (.region [oi 0 4 0,
 oa 1 5 (.mv (.c (.bool false)))])
  (.seq [6,1,0] (.region [oi 0 6 (-1)])
  (.seq [7,6,1,0] (.region [oa 0 7 (.mv (.c (.bool false)))])
  (.seq [7,6] (.seq [8,7,6,1,0] (.region [oi 0 8 0])
  (.block 0 (.loop [0,1,6,7,8] 1 (.seq [8,7,6,1,0] (.seq [12,8,7,6,1,0] (.region [om 0 9 8,
 on 1 10 0,
 oa 2 11 (.len (.t 10)),
 oa 3 12 (.bin .lss (.t 9) (.t 11))])
  (.cond (.t 12) .skip (.exit 0)))
  (.seq [8,7,6,1,0] (.block 1 (.seq [21,8,7,6,1,0] (.region [om 0 15 1,
 on 1 16 0,
 om 2 17 8,
 oa 3 18 (.indexA 2 (.t 16) (.t 17)),
 oa 4 19 (.fieldA 0 (.t 18)),
 oa 5 20 (.loadH none (.t 19)),
 oa 6 21 (.bin .eql (.t 15) (.t 20))])
  (.cond (.t 21) (.region [on 0 22 0,
 om 1 23 8,
 oa 2 24 (.indexA 2 (.t 22) (.t 23)),
 oa 3 25 (.fieldA 1 (.t 24)),
 ob 4 26 (.loadH none (.t 25)),
 om 5 6 26]) (.seq [34,8,7,6,1,0] (.region [om 0 27 1,
 on 1 28 0,
 om 2 29 8,
 oa 3 30 (.indexA 2 (.t 28) (.t 29)),
 oa 4 31 (.fieldA 0 (.t 30)),
 oa 5 32 (.loadH none (.t 31)),
 oa 6 33 (.bin .andNot (.t 27) (.t 32)),
 oa 7 34 (.bin .eql (.t 33) (.c (.int .i64 0)))])
  (.cond (.t 34) (.region [oa 0 7 (.mv (.c (.bool true)))]) .skip)))))
  (.region [om 0 13 8,
 oa 1 14 (.bin .add (.t 13) (.c (.int .i64 1))),
 om 2 8 14]))))))
  (.seq [5,4] (.region [om 0 35 6,
 om 1 36 7,
 om 2 4 35,
 om 3 5 36])
  .ret)))))
noncomputable def df_spec_l11Out:DFun:=⟨2,37,0,true,[.tmp 4,.tmp 5],dc_spec_l11Out⟩
noncomputable def pf_spec_l11Out:PFun:=df_spec_l11Out.er
noncomputable def f_spec_l11Out:AFun:=pf_spec_l11Out.er
@[irreducible] noncomputable def s_spec_l11Out:CallSem:=funSem f_spec_l11Out
@[irreducible] noncomputable def p_spec_l11Out:PSem:=pfunSem pf_spec_l11Out
def h_spec_l11Out:List HT:=[.one .frz (.sl (.cons (.int .i64) (.one (.int .i64)))),.one .frz (.int .i64)]
def q_spec_l11Out:QT:=.tup [.one .own (.int .i64),.one .own (.bool)]
@[irreducible] noncomputable def v_spec_l11Out(x:(List (Int×Int))×Int):Int×Bool:=(shut fun x=>fnV df_spec_l11Out h_spec_l11Out q_spec_l11Out x).1 x
@[irreducible] noncomputable def ok_spec_l11Out(x:(List (Int×Int))×Int):Prop:=(shut fun x=>fnOk df_spec_l11Out h_spec_l11Out q_spec_l11Out x).1 x
theorem vu_spec_l11Out (x):v_spec_l11Out x=fnV df_spec_l11Out h_spec_l11Out q_spec_l11Out x:=by unfold v_spec_l11Out;exact congrFun (shut _).2 x
theorem ou_spec_l11Out (x):ok_spec_l11Out x=fnOk df_spec_l11Out h_spec_l11Out q_spec_l11Out x:=by unfold ok_spec_l11Out;exact congrFun (shut _).2 x
noncomputable def D_spec_l11Out:DSem:=DSemOf h_spec_l11Out q_spec_l11Out ok_spec_l11Out v_spec_l11Out
noncomputable def dc_spec_MatchCombo:DCode:=
 (.seq [3,2,1,0] (.region [oi 0 8 0,
 oi 1 9 0,
 oi 2 10 0])
  (.seq [3,2,1,0] (.seq [46,3,2,1,0] (.region [on 0 20 0,
 oc 1 21 s_spec_IsCombos p_spec_IsCombos D_spec_IsCombos [(.t 20)],
 oa 2 22 (.un .not (.t 21)),
 om 3 23 22,
 og 4 24 (.mv (.t 1)) 23 false,
 ⟨5,some 25,.call false s_spec_l1In p_spec_l1In D_spec_l1In [(.t 24),(.c (.int .i64 1)),(.c (.int .i64 200))],(some (23,false)),[]⟩,
 og 6 26 (.un .not (.t 25)) 23 false,
 oa 7 27 (.pick (.t 23) (.c (.bool true)) (.t 26)),
 om 8 28 27,
 ⟨9,some 29,.a true (.mv (.t 2)) none,(some (28,false)),[]⟩,
 og 10 30 (.len (.t 29)) 28 false,
 og 11 31 (.bin .eql (.t 30) (.c (.int .i64 0))) 28 false,
 oa 12 32 (.pick (.t 28) (.c (.bool true)) (.t 31)),
 om 13 33 32,
 ⟨14,some 34,.a true (.mv (.t 2)) none,(some (33,false)),[]⟩,
 og 15 35 (.indexA 3 (.t 34) (.c (.int .i64 0))) 33 false,
 og 16 36 (.loadH (some 3) (.t 35)) 33 false,
 ⟨17,some 37,.call false s_spec_l11Switch p_spec_l11Switch D_spec_l11Switch [(.t 36)],(some (33,false)),[]⟩,
 og 18 38 (.un .not (.t 37)) 33 false,
 oa 19 39 (.pick (.t 33) (.c (.bool true)) (.t 38)),
 om 20 40 39,
 ⟨21,some 41,.a true (.mv (.t 2)) none,(some (40,false)),[]⟩,
 og 22 42 (.indexA 3 (.t 41) (.c (.int .i64 0))) 40 false,
 og 23 43 (.fieldA 2 (.t 42)) 40 false,
 og 24 44 (.loadH none (.t 43)) 40 false,
 og 25 45 (.un .not (.t 44)) 40 false,
 oa 26 46 (.pick (.t 40) (.c (.bool true)) (.t 45))])
  (.cond (.t 46) (.seq [10,9,8] (.region [oi 0 8 0,
 oi 1 9 0,
 oi 2 10 (-1)])
  .ret) .skip))
  (.seq [11,3,2,1,0] (.region [on 0 47 2,
 oa 1 48 (.indexA 3 (.t 47) (.c (.int .i64 0))),
 oa 2 49 (.fieldA 1 (.t 48)),
 oa 3 50 (.loadH none (.t 49)),
 oa 4 51 (.bin .shl (.c (.int .i64 1)) (.t 50)),
 om 5 11 51])
  (.seq [12,11,3,2,0] (.region [on 0 52 2,
 oa 1 53 (.indexA 3 (.t 52) (.c (.int .i64 0))),
 oa 2 54 (.fieldA 0 (.t 53)),
 oa 3 55 (.loadH none (.t 54)),
 om 4 56 1,
 oa 5 57 (.bin .add (.t 55) (.t 56)),
 om 6 12 57])
  (.seq [12,11,3,2,0] (.seq [61,12,11,3,2,0] (.region [on 0 58 0,
 om 1 59 11,
 oc 2 60 s_spec_l11Fits p_spec_l11Fits D_spec_l11Fits [(.t 58),(.t 59)],
 oa 3 61 (.un .not (.t 60))])
  (.cond (.t 61) (.seq [10,9,8] (.region [on 0 62 2,
 xA 1 63 (.indexA 3 (.t 62) (.c (.int .i64 0))) (rg 1),
 xA 2 64 (.fieldA 0 (.t 63)) (rg 2),
 xB 3 65 (.loadH none (.t 64)) (rg 3),
 oi 4 8 1,
 xA 5 9 (.mv (.t 65)) (rg 5),
 xA 6 10 (.mv (.c (.int .i64 (-1)))) (rg 6)])
  .ret) .skip))
  (.seq [13,12,11,3,2,0] (.region [oi 0 13 1])
  (.seq [14,13,12,11,3,2,0] (.region [om 0 66 12,
 om 1 14 66])
  (.seq [14,13,11,0] (.block 0 (.loop [0,2,3,11,12,13,14] 1 (.block 1 (.seq [14,13,12,11,3,2,0] (.seq [70,14,13,12,11,3,2,0] (.region [om 0 67 13,
 on 1 68 2,
 oa 2 69 (.len (.t 68)),
 oa 3 70 (.bin .eql (.t 67) (.t 69))])
  (.cond (.t 70) (.seq [14,13,11,0] (.seq [73,14,13,11,0] (.region [om 0 71 3,
 om 1 72 12,
 oa 2 73 (.bin .lss (.t 71) (.t 72))])
  (.cond (.t 73) (.seq [10,9,8] (.region [oi 0 8 0,
 oi 1 9 0,
 oi 2 10 (-1)])
  .ret) .skip))
  (.exit 0)) .skip))
  (.seq [15,14,13,12,11,3,2,0] (.region [on 0 74 2,
 om 1 75 13,
 oa 2 76 (.indexA 3 (.t 74) (.t 75)),
 ob 3 77 (.loadH (some 3) (.t 76)),
 oa 4 15 (.allocB 0 [(.int .i64 0),(.int .i64 0),(.bool false)]),
 os 5 (.storeB 0 3 (.t 15) (.t 77))])
  (.seq [15,14,13,12,11,3,2,0] (.seq [80,15,14,13,12,11,3,2,0] (.region [oa 0 78 (.loadB 0 (some 3) (.t 15)),
 oc 1 79 s_spec_l11Switch p_spec_l11Switch D_spec_l11Switch [(.t 78)],
 oa 2 80 (.un .not (.t 79))])
  (.cond (.t 80) (.seq [10,9,8] (.region [oi 0 8 0,
 oi 1 9 0,
 oi 2 10 (-1)])
  .ret) .skip))
  (.seq [15,14,13,12,11,3,2,0] (.seq [84,15,14,13,12,11,3,2,0] (.region [oa 0 81 (.fieldA 0 (.t 15)),
 oa 1 82 (.loadB 0 none (.t 81)),
 om 2 83 12,
 oa 3 84 (.bin .geq (.t 82) (.t 83))])
  (.cond (.t 84) (.exit 0) .skip))
  (.seq [15,14,13,12,11,3,2,0] (.seq [97,15,14,13,12,11,3,2,0] (.region [oa 0 85 (.fieldA 2 (.t 15)),
 oa 1 86 (.loadB 0 none (.t 85)),
 oa 2 87 (.un .not (.t 86)),
 om 3 88 87,
 ⟨4,some 89,.a true (.mv (.t 0)) none,(some (88,false)),[]⟩,
 og 5 90 (.mv (.t 11)) 88 false,
 og 6 91 (.fieldA 1 (.t 15)) 88 false,
 og 7 92 (.loadB 0 none (.t 91)) 88 false,
 og 8 93 (.bin .shl (.c (.int .i64 1)) (.t 92)) 88 false,
 og 9 94 (.bin .or (.t 90) (.t 93)) 88 false,
 ⟨10,some 95,.call false s_spec_l11Fits p_spec_l11Fits D_spec_l11Fits [(.t 89),(.t 94)],(some (88,false)),[]⟩,
 og 11 96 (.un .not (.t 95)) 88 false,
 oa 12 97 (.pick (.t 88) (.c (.bool true)) (.t 96))])
  (.cond (.t 97) (.seq [14,13,11,0] (.region [oa 0 98 (.fieldA 0 (.t 15)),
 ob 1 99 (.loadB 0 none (.t 98)),
 om 2 14 99])
  (.exit 0)) .skip))
  (.seq [15,14,13,12,11,3,2,0] (.region [om 0 100 11,
 oa 1 101 (.fieldA 1 (.t 15)),
 oa 2 102 (.loadB 0 none (.t 101)),
 oa 3 103 (.bin .shl (.c (.int .i64 1)) (.t 102)),
 oa 4 104 (.bin .or (.t 100) (.t 103)),
 om 5 11 104])
  (.seq [15,14,13,12,11,3,2,0] (.region [om 0 105 13,
 oa 1 106 (.bin .add (.t 105) (.c (.int .i64 1))),
 om 2 13 106])
  (.seq [17,16,15,14,13,12,11,3,2,0] (.region [on 0 108 0,
 om 1 109 11,
 oc 2 110 s_spec_l11Out p_spec_l11Out D_spec_l11Out [(.t 108),(.t 109)],
 om 3 107 110,
 oa 4 111 (.extract (.t 107) 0),
 oa 5 112 (.extract (.t 107) 1),
 om 6 16 111,
 om 7 17 112])
  (.seq [118,16,15,14,13,12,11,3,2,0] (.region [om 0 113 16,
 oa 1 114 (.bin .geq (.t 113) (.c (.int .i64 0))),
 om 2 115 114,
 og 3 116 (.mv (.t 17)) 115 true,
 og 4 117 (.un .not (.t 116)) 115 true,
 oa 5 118 (.pick (.t 115) (.t 117) (.c (.bool false)))])
  (.cond (.t 118) (.seq [10,9,8] (.region [om 0 119 13,
 oa 1 120 (.fieldA 0 (.t 15)),
 xB 2 121 (.loadB 0 none (.t 120)) [1],
 om 3 122 16,
 xA 4 8 (.mv (.t 119)) [0],
 xA 5 9 (.mv (.t 121)) [0,1,2,4],
 xA 6 10 (.mv (.t 122)) (rg 6)])
  .ret) .skip)))))))))))))
  (.seq [18,14,13] (.region [on 0 124 0,
 om 1 125 11,
 oc 2 126 s_spec_l11Out p_spec_l11Out D_spec_l11Out [(.t 124),(.t 125)],
 om 3 123 126,
 oa 4 127 (.extract (.t 123) 0),
 oa 5 128 (.extract (.t 123) 1),
 om 6 18 127,
 om 7 19 128])
  (.seq [18,14,13] (.seq [130,18,14,13] (.region [om 0 129 18,
 oa 1 130 (.bin .lss (.t 129) (.c (.int .i64 0)))])
  (.cond (.t 130) (.region [oi 0 13 1]) .skip))
  (.seq [10,9,8] (.region [om 0 131 13,
 om 1 132 14,
 om 2 133 18,
 om 3 8 131,
 om 4 9 132,
 om 5 10 133])
  .ret)))))))))))
noncomputable def df_spec_MatchCombo:DFun:=⟨4,134,1,true,[.tmp 8,.tmp 9,.tmp 10],dc_spec_MatchCombo⟩
def h_spec_MatchCombo:List HT:=[.one .frz (.sl (.cons (.int .i64) (.one (.int .i64)))),.one .frz (.int .i64),.one .frz (.sl (.cons (.int .i64) (.cons (.int .i64) (.one (.bool))))),.one .frz (.int .i64)]
def q_spec_MatchCombo:QT:=.tup [.one .own (.int .i64),.one .own (.int .i64),.one .own (.int .i64)]
@[irreducible] noncomputable def v_spec_MatchCombo(x:(List (Int×Int))×Int×(List (Int×Int×Bool))×Int):Int×Int×Int:=(shut fun x=>fnV df_spec_MatchCombo h_spec_MatchCombo q_spec_MatchCombo x).1 x
@[irreducible] noncomputable def ok_spec_MatchCombo(x:(List (Int×Int))×Int×(List (Int×Int×Bool))×Int):Prop:=(shut fun x=>fnOk df_spec_MatchCombo h_spec_MatchCombo q_spec_MatchCombo x).1 x
theorem vu_spec_MatchCombo (x):v_spec_MatchCombo x=fnV df_spec_MatchCombo h_spec_MatchCombo q_spec_MatchCombo x:=by unfold v_spec_MatchCombo;exact congrFun (shut _).2 x
theorem ou_spec_MatchCombo (x):ok_spec_MatchCombo x=fnOk df_spec_MatchCombo h_spec_MatchCombo q_spec_MatchCombo x:=by unfold ok_spec_MatchCombo;exact congrFun (shut _).2 x
noncomputable def dc_impl_isSwitchEvent:DCode:=
 (.seq [1] (.region [oa 0 1 (.boxB 0 3 (.t 0)),
 oa 1 2 (.mv (.c (.bool false)))])
  (.seq [2] (.region [oa 0 3 (.loadB 0 (some 3) (.t 1)),
 oc 1 4 s_impl_IsEvent p_impl_IsEvent D_impl_IsEvent [(.t 3)],
 om 2 5 4,
 og 3 6 (.fieldA 1 (.t 1)) 5 true,
 og 4 7 (.loadB 0 none (.t 6)) 5 true,
 og 5 8 (.bin .lss (.t 7) (.c (.int .i64 24))) 5 true,
 oa 6 9 (.pick (.t 5) (.t 8) (.c (.bool false))),
 om 7 2 9])
  .ret))
noncomputable def df_impl_isSwitchEvent:DFun:=⟨1,10,1,true,[.tmp 2],dc_impl_isSwitchEvent⟩
noncomputable def pf_impl_isSwitchEvent:PFun:=df_impl_isSwitchEvent.er
noncomputable def f_impl_isSwitchEvent:AFun:=pf_impl_isSwitchEvent.er
@[irreducible] noncomputable def s_impl_isSwitchEvent:CallSem:=funSem f_impl_isSwitchEvent
@[irreducible] noncomputable def p_impl_isSwitchEvent:PSem:=pfunSem pf_impl_isSwitchEvent
theorem sp_impl_isSwitchEvent:SoundP s_impl_isSwitchEvent p_impl_isSwitchEvent:=by unfold s_impl_isSwitchEvent p_impl_isSwitchEvent;exact pfun_sound (f:=pf_impl_isSwitchEvent) ⟨sp_impl_IsEvent,trivial⟩
def h_impl_isSwitchEvent:List HT:=[.agg [(.frz,.int .i64),(.frz,.int .i64),(.frz,.bool)]]
def q_impl_isSwitchEvent:QT:=.one (.one .own (.bool))
@[irreducible] noncomputable def v_impl_isSwitchEvent(x:Int×Int×Bool):Bool:=(shut fun x=>fnV df_impl_isSwitchEvent h_impl_isSwitchEvent q_impl_isSwitchEvent x).1 x
@[irreducible] noncomputable def ok_impl_isSwitchEvent(x:Int×Int×Bool):Prop:=(shut fun x=>fnOk df_impl_isSwitchEvent h_impl_isSwitchEvent q_impl_isSwitchEvent x).1 x
theorem vu_impl_isSwitchEvent (x):v_impl_isSwitchEvent x=fnV df_impl_isSwitchEvent h_impl_isSwitchEvent q_impl_isSwitchEvent x:=by unfold v_impl_isSwitchEvent;exact congrFun (shut _).2 x
theorem ou_impl_isSwitchEvent (x):ok_impl_isSwitchEvent x=fnOk df_impl_isSwitchEvent h_impl_isSwitchEvent q_impl_isSwitchEvent x:=by unfold ok_impl_isSwitchEvent;exact congrFun (shut _).2 x
noncomputable def D_impl_isSwitchEvent:DSem:=DSemOf h_impl_isSwitchEvent q_impl_isSwitchEvent ok_impl_isSwitchEvent v_impl_isSwitchEvent
theorem ck_impl_isSwitchEvent(x:Int×Int×Bool):fnChk df_impl_isSwitchEvent h_impl_isSwitchEvent q_impl_isSwitchEvent x=true:=by kernel_rfl
theorem ob_impl_isSwitchEvent:AllD df_impl_isSwitchEvent.body.obs:=⟨sd_impl_IsEvent,trivial⟩
theorem st_impl_isSwitchEvent:fnSt df_impl_isSwitchEvent h_impl_isSwitchEvent q_impl_isSwitchEvent=true:=by kernel_rfl
theorem sd_impl_isSwitchEvent:SoundD p_impl_isSwitchEvent D_impl_isSwitchEvent:=by unfold p_impl_isSwitchEvent;exact soundD_of (f:=df_impl_isSwitchEvent) (hs:=h_impl_isSwitchEvent) (q:=q_impl_isSwitchEvent) ob_impl_isSwitchEvent st_impl_isSwitchEvent ck_impl_isSwitchEvent (fun x h=>Eq.mp (ou_impl_isSwitchEvent x) h) (fun x=>(vu_impl_isSwitchEvent x).symm)
noncomputable def dc_impl_within:DCode:=
 (.seq [1,0] (.region [oa 0 4 (.mv (.c (.bool false)))])
 (.seq [] (.seq [9,8,7,1] (.region [on 0 7 0,
 oa 1 8 (.len (.t 7)),
 oi 2 9 0])
  (.block 0 (.loop [1,7,8,9] 1 (.seq [10,9,8,7,1] (.region [oa 0 10 (.bin .lss (.t 9) (.t 8))])
  (.seq [9,8,7,1] (.cond (.t 10) .skip (.exit 0))
  (.seq [9,8,7,1] (.block 1 (.seq [9,8,7,6,1] (.region [oa 0 11 (.indexA 2 (.t 7) (.t 9)),
 ob 1 12 (.loadH (some 2) (.t 11)),
 oa 2 6 (.allocB 0 [(.int .i64 0),(.int .i64 0)]),
 os 3 (.storeB 0 2 (.t 6) (.t 12))])
  (.seq [17,9,8,7,1] (.region [om 0 13 1,
 oa 1 14 (.fieldA 0 (.t 6)),
 oa 2 15 (.loadB 0 none (.t 14)),
 oa 3 16 (.bin .andNot (.t 13) (.t 15)),
 oa 4 17 (.bin .eql (.t 16) (.c (.int .i64 0)))])
  (.cond (.t 17) (.seq [4] (.region [oa 0 4 (.mv (.c (.bool true)))])
  .ret) .skip))))
  (.region [oa 0 18 (.bin .add (.t 9) (.c (.int .i64 1))),
 om 1 9 18])))))))
  (.seq [4] (.region [oa 0 4 (.mv (.c (.bool false)))])
  .ret)))
noncomputable def df_impl_within:DFun:=⟨2,19,1,true,[.tmp 4],dc_impl_within⟩
noncomputable def pf_impl_within:PFun:=df_impl_within.er
noncomputable def f_impl_within:AFun:=pf_impl_within.er
@[irreducible] noncomputable def s_impl_within:CallSem:=funSem f_impl_within
@[irreducible] noncomputable def p_impl_within:PSem:=pfunSem pf_impl_within
theorem sp_impl_within:SoundP s_impl_within p_impl_within:=by unfold s_impl_within p_impl_within;exact pfun_sound (f:=pf_impl_within) trivial
def h_impl_within:List HT:=[.one .frz (.sl (.cons (.int .i64) (.one (.int .i64)))),.one .frz (.int .i64)]
def q_impl_within:QT:=.one (.one .own (.bool))
@[irreducible] noncomputable def v_impl_within(x:(List (Int×Int))×Int):Bool:=(shut fun x=>fnV df_impl_within h_impl_within q_impl_within x).1 x
@[irreducible] noncomputable def ok_impl_within(x:(List (Int×Int))×Int):Prop:=(shut fun x=>fnOk df_impl_within h_impl_within q_impl_within x).1 x
theorem vu_impl_within (x):v_impl_within x=fnV df_impl_within h_impl_within q_impl_within x:=by unfold v_impl_within;exact congrFun (shut _).2 x
theorem ou_impl_within (x):ok_impl_within x=fnOk df_impl_within h_impl_within q_impl_within x:=by unfold ok_impl_within;exact congrFun (shut _).2 x
noncomputable def D_impl_within:DSem:=DSemOf h_impl_within q_impl_within ok_impl_within v_impl_within
theorem ck_impl_within(x:(List (Int×Int))×Int):fnChk df_impl_within h_impl_within q_impl_within x=true:=by kernel_rfl
theorem ob_impl_within:AllD df_impl_within.body.obs:=trivial
theorem st_impl_within:fnSt df_impl_within h_impl_within q_impl_within=true:=by kernel_rfl
theorem sd_impl_within:SoundD p_impl_within D_impl_within:=by unfold p_impl_within;exact soundD_of (f:=df_impl_within) (hs:=h_impl_within) (q:=q_impl_within) ob_impl_within st_impl_within ck_impl_within (fun x h=>Eq.mp (ou_impl_within x) h) (fun x=>(vu_impl_within x).symm)
noncomputable def dc_impl_wholeCombo:DCode:=
 (.seq [1,0] (.region [oi 0 4 0,
 oa 1 5 (.mv (.c (.bool false)))])
  (.seq [7,6,1,0] (.region [oi 0 6 (-1),
 oa 1 7 (.mv (.c (.bool false)))])
  (.seq [7,6] (.seq [12,11,10,7,6,1] (.region [on 0 10 0,
 oa 1 11 (.len (.t 10)),
 oi 2 12 0])
  (.block 0 (.loop [1,6,7,10,11,12] 1 (.seq [13,12,11,10,7,6,1] (.region [oa 0 13 (.bin .lss (.t 12) (.t 11))])
  (.seq [12,11,10,7,6,1] (.cond (.t 13) .skip (.exit 0))
  (.seq [12,11,10,7,6,1] (.block 1 (.seq [12,11,10,9,7,6,1] (.region [oa 0 14 (.indexA 2 (.t 10) (.t 12)),
 ob 1 15 (.loadH (some 2) (.t 14)),
 oa 2 9 (.allocB 0 [(.int .i64 0),(.int .i64 0)]),
 os 3 (.storeB 0 2 (.t 9) (.t 15))])
  (.block 2 (.seq [16,12,11,10,9,7,6,1] (.region [oa 0 17 (.fieldA 0 (.t 9)),
 oa 1 18 (.loadB 0 none (.t 17)),
 om 2 19 1,
 oa 3 20 (.bin .eql (.t 18) (.t 19)),
 om 4 16 20])
  (.cond (.t 16) (.region [oa 0 21 (.fieldA 1 (.t 9)),
 ob 1 22 (.loadB 0 none (.t 21)),
 om 2 6 22]) (.seq [23,12,11,10,7,6,1] (.region [om 0 24 1,
 oa 1 25 (.fieldA 0 (.t 9)),
 oa 2 26 (.loadB 0 none (.t 25)),
 oa 3 27 (.bin .andNot (.t 24) (.t 26)),
 oa 4 28 (.bin .eql (.t 27) (.c (.int .i64 0))),
 om 5 23 28])
  (.cond (.t 23) (.region [oa 0 7 (.mv (.c (.bool true)))]) .skip)))))))
  (.region [oa 0 29 (.bin .add (.t 12) (.c (.int .i64 1))),
 om 1 12 29])))))))
  (.seq [5,4] (.region [om 0 30 6,
 om 1 31 7,
 om 2 4 30,
 om 3 5 31])
  .ret))))
noncomputable def df_impl_wholeCombo:DFun:=⟨2,32,1,true,[.tmp 4,.tmp 5],dc_impl_wholeCombo⟩
noncomputable def pf_impl_wholeCombo:PFun:=df_impl_wholeCombo.er
noncomputable def f_impl_wholeCombo:AFun:=pf_impl_wholeCombo.er
@[irreducible] noncomputable def s_impl_wholeCombo:CallSem:=funSem f_impl_wholeCombo
@[irreducible] noncomputable def p_impl_wholeCombo:PSem:=pfunSem pf_impl_wholeCombo
theorem sp_impl_wholeCombo:SoundP s_impl_wholeCombo p_impl_wholeCombo:=by unfold s_impl_wholeCombo p_impl_wholeCombo;exact pfun_sound (f:=pf_impl_wholeCombo) trivial
def h_impl_wholeCombo:List HT:=[.one .frz (.sl (.cons (.int .i64) (.one (.int .i64)))),.one .frz (.int .i64)]
def q_impl_wholeCombo:QT:=.tup [.one .own (.int .i64),.one .own (.bool)]
@[irreducible] noncomputable def v_impl_wholeCombo(x:(List (Int×Int))×Int):Int×Bool:=(shut fun x=>fnV df_impl_wholeCombo h_impl_wholeCombo q_impl_wholeCombo x).1 x
@[irreducible] noncomputable def ok_impl_wholeCombo(x:(List (Int×Int))×Int):Prop:=(shut fun x=>fnOk df_impl_wholeCombo h_impl_wholeCombo q_impl_wholeCombo x).1 x
theorem vu_impl_wholeCombo (x):v_impl_wholeCombo x=fnV df_impl_wholeCombo h_impl_wholeCombo q_impl_wholeCombo x:=by unfold v_impl_wholeCombo;exact congrFun (shut _).2 x
theorem ou_impl_wholeCombo (x):ok_impl_wholeCombo x=fnOk df_impl_wholeCombo h_impl_wholeCombo q_impl_wholeCombo x:=by unfold ok_impl_wholeCombo;exact congrFun (shut _).2 x
noncomputable def D_impl_wholeCombo:DSem:=DSemOf h_impl_wholeCombo q_impl_wholeCombo ok_impl_wholeCombo v_impl_wholeCombo
theorem ck_impl_wholeCombo(x:(List (Int×Int))×Int):fnChk df_impl_wholeCombo h_impl_wholeCombo q_impl_wholeCombo x=true:=by kernel_rfl
theorem ob_impl_wholeCombo:AllD df_impl_wholeCombo.body.obs:=trivial
theorem st_impl_wholeCombo:fnSt df_impl_wholeCombo h_impl_wholeCombo q_impl_wholeCombo=true:=by kernel_rfl
theorem sd_impl_wholeCombo:SoundD p_impl_wholeCombo D_impl_wholeCombo:=by unfold p_impl_wholeCombo;exact soundD_of (f:=df_impl_wholeCombo) (hs:=h_impl_wholeCombo) (q:=q_impl_wholeCombo) ob_impl_wholeCombo st_impl_wholeCombo ck_impl_wholeCombo (fun x h=>Eq.mp (ou_impl_wholeCombo x) h) (fun x=>(vu_impl_wholeCombo x).symm)
noncomputable def dc_impl_MatchCombo:DCode:=
 (.seq [3,2,1,0] (.region [oi 0 8 0,
 oi 1 9 0,
 oi 2 10 0])
  (.seq [3,2,1,0] (.seq [51,3,2,1,0] (.region [on 0 22 0,
 oc 1 23 s_impl_IsCombos p_impl_IsCombos D_impl_IsCombos [(.t 22)],
 oa 2 24 (.un .not (.t 23)),
 om 3 25 24,
 og 4 26 (.mv (.t 1)) 25 false,
 og 5 27 (.bin .lss (.t 26) (.c (.int .i64 1))) 25 false,
 oa 6 28 (.pick (.t 25) (.c (.bool true)) (.t 27)),
 om 7 29 28,
 og 8 30 (.mv (.t 1)) 29 false,
 og 9 31 (.bin .gtr (.t 30) (.c (.int .i64 200))) 29 false,
 oa 10 32 (.pick (.t 29) (.c (.bool true)) (.t 31)),
 om 11 33 32,
 ⟨12,some 34,.a true (.mv (.t 2)) none,(some (33,false)),[]⟩,
 og 13 35 (.len (.t 34)) 33 false,
 og 14 36 (.bin .eql (.t 35) (.c (.int .i64 0))) 33 false,
 oa 15 37 (.pick (.t 33) (.c (.bool true)) (.t 36)),
 om 16 38 37,
 ⟨17,some 39,.a true (.mv (.t 2)) none,(some (38,false)),[]⟩,
 og 18 40 (.indexA 3 (.t 39) (.c (.int .i64 0))) 38 false,
 og 19 41 (.loadH (some 3) (.t 40)) 38 false,
 ⟨20,some 42,.call false s_impl_isSwitchEvent p_impl_isSwitchEvent D_impl_isSwitchEvent [(.t 41)],(some (38,false)),[]⟩,
 og 21 43 (.un .not (.t 42)) 38 false,
 oa 22 44 (.pick (.t 38) (.c (.bool true)) (.t 43)),
 om 23 45 44,
 ⟨24,some 46,.a true (.mv (.t 2)) none,(some (45,false)),[]⟩,
 og 25 47 (.indexA 3 (.t 46) (.c (.int .i64 0))) 45 false,
 og 26 48 (.fieldA 2 (.t 47)) 45 false,
 og 27 49 (.loadH none (.t 48)) 45 false,
 og 28 50 (.un .not (.t 49)) 45 false,
 oa 29 51 (.pick (.t 45) (.c (.bool true)) (.t 50))])
  (.cond (.t 51) (.seq [10,9,8] (.region [oi 0 8 0,
 oi 1 9 0,
 oi 2 10 (-1)])
  .ret) .skip))
  (.seq [11,3,2,1,0] (.region [on 0 52 2,
 oa 1 53 (.indexA 3 (.t 52) (.c (.int .i64 0))),
 ob 2 54 (.loadH (some 3) (.t 53)),
 oa 3 11 (.allocB 0 [(.int .i64 0),(.int .i64 0),(.bool false)]),
 os 4 (.storeB 0 3 (.t 11) (.t 54))])
  (.seq [12,11,3,2,1,0] (.region [oa 0 55 (.fieldA 1 (.t 11)),
 oa 1 56 (.loadB 0 none (.t 55)),
 oa 2 57 (.bin .shl (.c (.int .i64 1)) (.t 56)),
 om 3 12 57])
  (.seq [12,11,3,2,1,0] (.seq [61,12,11,3,2,1,0] (.region [on 0 58 0,
 om 1 59 12,
 oc 2 60 s_impl_within p_impl_within D_impl_within [(.t 58),(.t 59)],
 oa 3 61 (.un .not (.t 60))])
  (.cond (.t 61) (.seq [10,9,8] (.region [oa 0 62 (.fieldA 0 (.t 11)),
 xB 1 63 (.loadB 0 none (.t 62)) (rg 1),
 oi 2 8 1,
 xA 3 9 (.mv (.t 63)) (rg 3),
 xA 4 10 (.mv (.c (.int .i64 (-1)))) (rg 4)])
  .ret) .skip))
  (.seq [13,12,11,3,2,1,0] (.region [oa 0 64 (.fieldA 0 (.t 11)),
 oa 1 65 (.loadB 0 none (.t 64)),
 om 2 66 1,
 oa 3 67 (.bin .add (.t 65) (.t 66)),
 om 4 13 67])
  (.seq [14,13,12,11,3,2,1,0] (.region [oi 0 14 1])
  (.seq [15,14,13,12,11,3,2,1,0] (.region [oa 0 15 (.mv (.c (.bool true)))])
  (.seq [15,14,13,12,3,0] (.seq [71,70,69,15,14,13,12,11,3,1,0] (.region [on 0 68 2,
 oa 1 69 (.slice 3 (.t 68) (some (.c (.int .i64 1))) none),
 oa 2 70 (.len (.t 69)),
 oi 3 71 0])
  (.block 0 (.loop [0,1,3,11,12,13,14,15,69,70,71] 1 (.seq [72,71,70,69,15,14,13,12,11,3,1,0] (.region [oa 0 72 (.bin .lss (.t 71) (.t 70))])
  (.seq [71,70,69,15,14,13,12,11,3,1,0] (.cond (.t 72) .skip (.exit 0))
  (.seq [71,70,69,15,14,13,12,11,3,1,0] (.block 1 (.seq [71,70,69,17,15,14,13,12,11,3,1,0] (.region [oa 0 73 (.indexA 3 (.t 69) (.t 71)),
 ob 1 74 (.loadH (some 3) (.t 73)),
 oa 2 17 (.allocB 1 [(.int .i64 0),(.int .i64 0),(.bool false)]),
 os 3 (.storeB 1 3 (.t 17) (.t 74))])
  (.seq [71,70,69,17,15,14,13,12,11,3,1,0] (.seq [77,71,70,69,17,15,14,13,12,11,3,1,0] (.region [oa 0 75 (.loadB 1 (some 3) (.t 17)),
 oc 1 76 s_impl_isSwitchEvent p_impl_isSwitchEvent D_impl_isSwitchEvent [(.t 75)],
 oa 2 77 (.un .not (.t 76))])
  (.cond (.t 77) (.seq [10,9,8] (.region [oi 0 8 0,
 oi 1 9 0,
 oi 2 10 (-1)])
  .ret) .skip))
  (.seq [71,70,69,17,15,14,13,12,11,3,1,0] (.seq [99,71,70,69,17,15,14,13,12,11,3,1,0] (.region [oa 0 78 (.fieldA 0 (.t 17)),
 oa 1 79 (.loadB 1 none (.t 78)),
 oa 2 80 (.fieldA 0 (.t 11)),
 oa 3 81 (.loadB 0 none (.t 80)),
 om 4 82 1,
 oa 5 83 (.bin .add (.t 81) (.t 82)),
 oa 6 84 (.bin .geq (.t 79) (.t 83)),
 om 7 85 84,
 og 8 86 (.fieldA 2 (.t 17)) 85 false,
 og 9 87 (.loadB 1 none (.t 86)) 85 false,
 og 10 88 (.un .not (.t 87)) 85 false,
 oa 11 89 (.pick (.t 85) (.c (.bool true)) (.t 88)),
 om 12 90 89,
 ⟨13,some 91,.a true (.mv (.t 0)) none,(some (90,false)),[]⟩,
 og 14 92 (.mv (.t 12)) 90 false,
 og 15 93 (.fieldA 1 (.t 17)) 90 false,
 og 16 94 (.loadB 1 none (.t 93)) 90 false,
 og 17 95 (.bin .shl (.c (.int .i64 1)) (.t 94)) 90 false,
 og 18 96 (.bin .or (.t 92) (.t 95)) 90 false,
 ⟨19,some 97,.call false s_impl_within p_impl_within D_impl_within [(.t 91),(.t 96)],(some (90,false)),[]⟩,
 og 20 98 (.un .not (.t 97)) 90 false,
 oa 21 99 (.pick (.t 90) (.c (.bool true)) (.t 98))])
  (.cond (.t 99) (.seq [14,13,12,3,0] (.region [om 0 100 13,
 oa 1 101 (.fieldA 0 (.t 17)),
 oa 2 102 (.loadB 1 none (.t 101)),
 oa 3 103 (.minI (.t 100) (.t 102)),
 om 4 13 103])
  (.seq [15,14,13,12,3,0] (.region [oa 0 15 (.mv (.c (.bool false)))])
  (.exit 0))) .skip))
  (.seq [71,70,69,17,15,14,13,12,11,3,1,0] (.region [om 0 104 12,
 oa 1 105 (.fieldA 1 (.t 17)),
 oa 2 106 (.loadB 1 none (.t 105)),
 oa 3 107 (.bin .shl (.c (.int .i64 1)) (.t 106)),
 oa 4 108 (.bin .or (.t 104) (.t 107)),
 om 5 12 108])
  (.seq [71,70,69,17,15,14,13,12,11,3,1,0] (.region [om 0 109 14,
 oa 1 110 (.bin .add (.t 109) (.c (.int .i64 1))),
 om 2 14 110])
  (.seq [71,70,69,19,18,17,15,14,13,12,11,3,1,0] (.region [on 0 112 0,
 om 1 113 12,
 oc 2 114 s_impl_wholeCombo p_impl_wholeCombo D_impl_wholeCombo [(.t 112),(.t 113)],
 om 3 111 114,
 oa 4 115 (.extract (.t 111) 0),
 oa 5 116 (.extract (.t 111) 1),
 om 6 18 115,
 om 7 19 116])
  (.seq [122,71,70,69,18,17,15,14,13,12,11,3,1,0] (.region [om 0 117 18,
 oa 1 118 (.bin .geq (.t 117) (.c (.int .i64 0))),
 om 2 119 118,
 og 3 120 (.mv (.t 19)) 119 true,
 og 4 121 (.un .not (.t 120)) 119 true,
 oa 5 122 (.pick (.t 119) (.t 121) (.c (.bool false)))])
  (.cond (.t 122) (.seq [10,9,8] (.region [om 0 123 14,
 oa 1 124 (.fieldA 0 (.t 17)),
 xB 2 125 (.loadB 1 none (.t 124)) [1],
 om 3 126 18,
 xA 4 8 (.mv (.t 123)) [0],
 xA 5 9 (.mv (.t 125)) [0,1,2,4],
 xA 6 10 (.mv (.t 126)) (rg 6)])
  .ret) .skip)))))))))
  (.region [oa 0 127 (.bin .add (.t 71) (.c (.int .i64 1))),
 om 1 71 127])))))))
  (.seq [14,13,12,0] (.seq [133,14,13,12,0] (.region [om 0 128 15,
 om 1 129 128,
 og 2 130 (.mv (.t 3)) 129 true,
 og 3 131 (.mv (.t 13)) 129 true,
 og 4 132 (.bin .lss (.t 130) (.t 131)) 129 true,
 oa 5 133 (.pick (.t 129) (.t 132) (.c (.bool false)))])
  (.cond (.t 133) (.seq [10,9,8] (.region [oi 0 8 0,
 oi 1 9 0,
 oi 2 10 (-1)])
  .ret) .skip))
  (.seq [13] (.seq [20,14,13] (.region [on 0 135 0,
 om 1 136 12,
 oc 2 137 s_impl_wholeCombo p_impl_wholeCombo D_impl_wholeCombo [(.t 135),(.t 136)],
 om 3 134 137,
 oa 4 138 (.extract (.t 134) 0),
 oa 5 139 (.extract (.t 134) 1),
 om 6 20 138,
 om 7 21 139])
  (.seq [141,20,14,13] (.region [om 0 140 20,
 oa 1 141 (.bin .geq (.t 140) (.c (.int .i64 0)))])
  (.cond (.t 141) (.seq [10,9,8] (.region [om 0 142 14,
 om 1 143 13,
 om 2 144 20,
 om 3 8 142,
 om 4 9 143,
 om 5 10 144])
  .ret) .skip)))
  (.seq [10,9,8] (.region [om 0 145 13,
 oi 1 8 1,
 om 2 9 145,
 oi 3 10 (-1)])
  .ret))))))))))))
noncomputable def df_impl_MatchCombo:DFun:=⟨4,146,2,true,[.tmp 8,.tmp 9,.tmp 10],dc_impl_MatchCombo⟩
noncomputable def pf_impl_MatchCombo:PFun:=df_impl_MatchCombo.er
noncomputable def f_impl_MatchCombo:AFun:=pf_impl_MatchCombo.er
@[irreducible] noncomputable def s_impl_MatchCombo:CallSem:=funSem f_impl_MatchCombo
@[irreducible] noncomputable def p_impl_MatchCombo:PSem:=pfunSem pf_impl_MatchCombo
theorem sp_impl_MatchCombo:SoundP s_impl_MatchCombo p_impl_MatchCombo:=by unfold s_impl_MatchCombo p_impl_MatchCombo;exact pfun_sound (f:=pf_impl_MatchCombo) ⟨sp_impl_IsCombos,sp_impl_isSwitchEvent,sp_impl_within,sp_impl_isSwitchEvent,sp_impl_within,sp_impl_wholeCombo,sp_impl_wholeCombo,trivial⟩
def h_impl_MatchCombo:List HT:=[.one .frz (.sl (.cons (.int .i64) (.one (.int .i64)))),.one .frz (.int .i64),.one .frz (.sl (.cons (.int .i64) (.cons (.int .i64) (.one (.bool))))),.one .frz (.int .i64)]
def q_impl_MatchCombo:QT:=.tup [.one .own (.int .i64),.one .own (.int .i64),.one .own (.int .i64)]
@[irreducible] noncomputable def v_impl_MatchCombo(x:(List (Int×Int))×Int×(List (Int×Int×Bool))×Int):Int×Int×Int:=(shut fun x=>fnV df_impl_MatchCombo h_impl_MatchCombo q_impl_MatchCombo x).1 x
@[irreducible] noncomputable def ok_impl_MatchCombo(x:(List (Int×Int))×Int×(List (Int×Int×Bool))×Int):Prop:=(shut fun x=>fnOk df_impl_MatchCombo h_impl_MatchCombo q_impl_MatchCombo x).1 x
theorem vu_impl_MatchCombo (x):v_impl_MatchCombo x=fnV df_impl_MatchCombo h_impl_MatchCombo q_impl_MatchCombo x:=by unfold v_impl_MatchCombo;exact congrFun (shut _).2 x
theorem ou_impl_MatchCombo (x):ok_impl_MatchCombo x=fnOk df_impl_MatchCombo h_impl_MatchCombo q_impl_MatchCombo x:=by unfold ok_impl_MatchCombo;exact congrFun (shut _).2 x
noncomputable def D_impl_MatchCombo:DSem:=DSemOf h_impl_MatchCombo q_impl_MatchCombo ok_impl_MatchCombo v_impl_MatchCombo
theorem ck_impl_MatchCombo(x:(List (Int×Int))×Int×(List (Int×Int×Bool))×Int):fnChk df_impl_MatchCombo h_impl_MatchCombo q_impl_MatchCombo x=true:=by kernel_rfl
theorem ob_impl_MatchCombo:AllD df_impl_MatchCombo.body.obs:=⟨sd_impl_IsCombos,sd_impl_isSwitchEvent,sd_impl_within,sd_impl_isSwitchEvent,sd_impl_within,sd_impl_wholeCombo,sd_impl_wholeCombo,trivial⟩
theorem st_impl_MatchCombo:fnSt df_impl_MatchCombo h_impl_MatchCombo q_impl_MatchCombo=true:=by kernel_rfl
theorem sd_impl_MatchCombo:SoundD p_impl_MatchCombo D_impl_MatchCombo:=by unfold p_impl_MatchCombo;exact soundD_of (f:=df_impl_MatchCombo) (hs:=h_impl_MatchCombo) (q:=q_impl_MatchCombo) ob_impl_MatchCombo st_impl_MatchCombo ck_impl_MatchCombo (fun x h=>Eq.mp (ou_impl_MatchCombo x) h) (fun x=>(vu_impl_MatchCombo x).symm)
end
section
set_option maxRecDepth 100000
theorem ve_spec_l11Switch (x):v_spec_l11Switch x=(bAnd (v_spec_IsEvent x) (iLt x.2.1 24)):=(vu_spec_l11Switch x).trans (by kernel_rfl)
theorem oe_spec_l11Switch (x):ok_spec_l11Switch x=(ok_spec_IsEvent x):=(ou_spec_l11Switch x).trans (by kernel_rfl)
noncomputable def lc_spec_l11Fits_1(x:(List (Int×Int))×Int)(x0:Int):Bool:=(bAnd (iLt x0 (lLen x.1)) (bNot (iEq (iAndNot .i64 x.2 (lGet x.1 (iNat x0) (0,0)).1) 0)))
noncomputable def lf_spec_l11Fits_1(x0:Int):Int:=(iAdd .i64 x0 1)
noncomputable def lp_spec_l11Fits_1(x:(List (Int×Int))×Int)(x0:Int):Prop:=(((iLt x0 (lLen x.1))=true→((((0:Int)≤x0)∧(x0<(((List.length x.1):Int))))∧((iNat x0)<(List.length x.1))))∧((iLt x0 (lLen x.1))=false→True))
theorem ve_spec_l11Fits (x):v_spec_l11Fits x=(iLt (loopV (lc_spec_l11Fits_1 x) lf_spec_l11Fits_1 0) (lLen x.1)):=(vu_spec_l11Fits x).trans (by kernel_rfl)
theorem oe_spec_l11Fits (x):ok_spec_l11Fits x=(LoopOk (lc_spec_l11Fits_1 x) lf_spec_l11Fits_1 (lp_spec_l11Fits_1 x) 0):=(ou_spec_l11Fits x).trans (by kernel_rfl)
noncomputable def lc_spec_l11Out_1(x:(List (Int×Int))×Int)(x0:(Int×(Bool×Int))):Bool:=(iLt x0.2.2 (lLen x.1))
noncomputable def lf_spec_l11Out_1(x:(List (Int×Int))×Int)(x0:(Int×(Bool×Int))):(Int×(Bool×Int)):=((bSel (iEq x.2 (lGet x.1 (iNat x0.2.2) (0,0)).1) (lGet x.1 (iNat x0.2.2) (0,0)).2 x0.1),(bSel (iEq x.2 (lGet x.1 (iNat x0.2.2) (0,0)).1) x0.2.1 (bOr (iEq (iAndNot .i64 x.2 (lGet x.1 (iNat x0.2.2) (0,0)).1) 0) x0.2.1)),(iAdd .i64 x0.2.2 1))
noncomputable def lp_spec_l11Out_1(x:(List (Int×Int))×Int)(x0:(Int×(Bool×Int))):Prop:=(((iLt x0.2.2 (lLen x.1))=true→((((0:Int)≤x0.2.2)∧(x0.2.2<(((List.length x.1):Int))))∧(((iNat x0.2.2)<(List.length x.1))∧(((iEq x.2 (lGet x.1 (iNat x0.2.2) (0,0)).1)=true→((((0:Int)≤x0.2.2)∧(x0.2.2<(((List.length x.1):Int))))∧((iNat x0.2.2)<(List.length x.1))))∧((iEq x.2 (lGet x.1 (iNat x0.2.2) (0,0)).1)=false→((((0:Int)≤x0.2.2)∧(x0.2.2<(((List.length x.1):Int))))∧((iNat x0.2.2)<(List.length x.1))))))))∧((iLt x0.2.2 (lLen x.1))=false→True))
theorem ve_spec_l11Out (x):v_spec_l11Out x=((loopV (lc_spec_l11Out_1 x) (lf_spec_l11Out_1 x) ((-1),false,0)).1,(loopV (lc_spec_l11Out_1 x) (lf_spec_l11Out_1 x) ((-1),false,0)).2.1):=(vu_spec_l11Out x).trans (by kernel_rfl)
theorem oe_spec_l11Out (x):ok_spec_l11Out x=(LoopOk (lc_spec_l11Out_1 x) (lf_spec_l11Out_1 x) (lp_spec_l11Out_1 x) ((-1),false,0)):=(ou_spec_l11Out x).trans (by kernel_rfl)
noncomputable def lc_spec_MatchCombo_1(x:(List (Int×Int))×Int×(List (Int×Int×Bool))×Int)(x0:(Int×Int)):Bool:=(bAnd (bNot (iEq x0.2 (lLen x.2.2.1))) (bAnd (bNot (bNot (v_spec_l11Switch (lGet x.2.2.1 (iNat x0.2) (0,0,false))))) (bAnd (bNot (iGe (lGet x.2.2.1 (iNat x0.2) (0,0,false)).1 (iAdd .i64 (lGet x.2.2.1 (iNat 0) (0,0,false)).1 x.2.1))) (bAnd (bNot (bOr (bNot (lGet x.2.2.1 (iNat x0.2) (0,0,false)).2.2) (bNot (v_spec_l11Fits (x.1,(iOr .i64 x0.1 (iShl .i64 1 (lGet x.2.2.1 (iNat x0.2) (0,0,false)).2.1))))))) (bNot (bAnd (iGe (v_spec_l11Out (x.1,(iOr .i64 x0.1 (iShl .i64 1 (lGet x.2.2.1 (iNat x0.2) (0,0,false)).2.1)))).1 0) (bNot (v_spec_l11Out (x.1,(iOr .i64 x0.1 (iShl .i64 1 (lGet x.2.2.1 (iNat x0.2) (0,0,false)).2.1)))).2)))))))
noncomputable def lf_spec_MatchCombo_1(x:(List (Int×Int))×Int×(List (Int×Int×Bool))×Int)(x0:(Int×Int)):(Int×Int):=((iOr .i64 x0.1 (iShl .i64 1 (lGet x.2.2.1 (iNat x0.2) (0,0,false)).2.1)),(iAdd .i64 x0.2 1))
noncomputable def lp_spec_MatchCombo_1(x:(List (Int×Int))×Int×(List (Int×Int×Bool))×Int)(x0:(Int×Int)):Prop:=(((iEq x0.2 (lLen x.2.2.1))=true→True)∧((iEq x0.2 (lLen x.2.2.1))=false→((((0:Int)≤x0.2)∧(x0.2<(((List.length x.2.2.1):Int))))∧(((iNat x0.2)<(List.length x.2.2.1))∧((ok_spec_l11Switch (lGet x.2.2.1 (iNat x0.2) (0,0,false)))∧(((bNot (v_spec_l11Switch (lGet x.2.2.1 (iNat x0.2) (0,0,false))))=true→True)∧((bNot (v_spec_l11Switch (lGet x.2.2.1 (iNat x0.2) (0,0,false))))=false→(((iGe (lGet x.2.2.1 (iNat x0.2) (0,0,false)).1 (iAdd .i64 (lGet x.2.2.1 (iNat 0) (0,0,false)).1 x.2.1))=true→True)∧((iGe (lGet x.2.2.1 (iNat x0.2) (0,0,false)).1 (iAdd .i64 (lGet x.2.2.1 (iNat 0) (0,0,false)).1 x.2.1))=false→((((bNot (lGet x.2.2.1 (iNat x0.2) (0,0,false)).2.2)=true→True)∧((bNot (lGet x.2.2.1 (iNat x0.2) (0,0,false)).2.2)=false→(((0:Int)≤(lGet x.2.2.1 (iNat x0.2) (0,0,false)).2.1)∧(ok_spec_l11Fits (x.1,(iOr .i64 x0.1 (iShl .i64 1 (lGet x.2.2.1 (iNat x0.2) (0,0,false)).2.1)))))))∧(((bOr (bNot (lGet x.2.2.1 (iNat x0.2) (0,0,false)).2.2) (bNot (v_spec_l11Fits (x.1,(iOr .i64 x0.1 (iShl .i64 1 (lGet x.2.2.1 (iNat x0.2) (0,0,false)).2.1))))))=true→True)∧((bOr (bNot (lGet x.2.2.1 (iNat x0.2) (0,0,false)).2.2) (bNot (v_spec_l11Fits (x.1,(iOr .i64 x0.1 (iShl .i64 1 (lGet x.2.2.1 (iNat x0.2) (0,0,false)).2.1))))))=false→(((0:Int)≤(lGet x.2.2.1 (iNat x0.2) (0,0,false)).2.1)∧(ok_spec_l11Out (x.1,(iOr .i64 x0.1 (iShl .i64 1 (lGet x.2.2.1 (iNat x0.2) (0,0,false)).2.1)))))))))))))))))
theorem ve_spec_MatchCombo (x):v_spec_MatchCombo x=(bSel (bOr (bNot (v_spec_IsCombos x.1)) (bOr (bNot (v_spec_l1In (x.2.1,1,200))) (bOr (iEq (lLen x.2.2.1) 0) (bOr (bNot (v_spec_l11Switch (lGet x.2.2.1 (iNat 0) (0,0,false)))) (bNot (lGet x.2.2.1 (iNat 0) (0,0,false)).2.2))))) (0,0,(-1)) (bSel (bNot (v_spec_l11Fits (x.1,(iShl .i64 1 (lGet x.2.2.1 (iNat 0) (0,0,false)).2.1)))) (1,(lGet x.2.2.1 (iNat 0) (0,0,false)).1,(-1)) (bSel (bSel (iEq (loopV (lc_spec_MatchCombo_1 x) (lf_spec_MatchCombo_1 x) ((iShl .i64 1 (lGet x.2.2.1 (iNat 0) (0,0,false)).2.1),1)).2 (lLen x.2.2.1)) (bNot (iLt x.2.2.2 (iAdd .i64 (lGet x.2.2.1 (iNat 0) (0,0,false)).1 x.2.1))) (bAnd (bNot (bNot (v_spec_l11Switch (lGet x.2.2.1 (iNat (loopV (lc_spec_MatchCombo_1 x) (lf_spec_MatchCombo_1 x) ((iShl .i64 1 (lGet x.2.2.1 (iNat 0) (0,0,false)).2.1),1)).2) (0,0,false))))) (bOr (iGe (lGet x.2.2.1 (iNat (loopV (lc_spec_MatchCombo_1 x) (lf_spec_MatchCombo_1 x) ((iShl .i64 1 (lGet x.2.2.1 (iNat 0) (0,0,false)).2.1),1)).2) (0,0,false)).1 (iAdd .i64 (lGet x.2.2.1 (iNat 0) (0,0,false)).1 x.2.1)) (bOr (bNot (lGet x.2.2.1 (iNat (loopV (lc_spec_MatchCombo_1 x) (lf_spec_MatchCombo_1 x) ((iShl .i64 1 (lGet x.2.2.1 (iNat 0) (0,0,false)).2.1),1)).2) (0,0,false)).2.2) (bNot (v_spec_l11Fits (x.1,(iOr .i64 (loopV (lc_spec_MatchCombo_1 x) (lf_spec_MatchCombo_1 x) ((iShl .i64 1 (lGet x.2.2.1 (iNat 0) (0,0,false)).2.1),1)).1 (iShl .i64 1 (lGet x.2.2.1 (iNat (loopV (lc_spec_MatchCombo_1 x) (lf_spec_MatchCombo_1 x) ((iShl .i64 1 (lGet x.2.2.1 (iNat 0) (0,0,false)).2.1),1)).2) (0,0,false)).2.1))))))))) ((bSel (iLt (v_spec_l11Out (x.1,(bSel (iEq (loopV (lc_spec_MatchCombo_1 x) (lf_spec_MatchCombo_1 x) ((iShl .i64 1 (lGet x.2.2.1 (iNat 0) (0,0,false)).2.1),1)).2 (lLen x.2.2.1)) (loopV (lc_spec_MatchCombo_1 x) (lf_spec_MatchCombo_1 x) ((iShl .i64 1 (lGet x.2.2.1 (iNat 0) (0,0,false)).2.1),1)).1 (bSel (iGe (lGet x.2.2.1 (iNat (loopV (lc_spec_MatchCombo_1 x) (lf_spec_MatchCombo_1 x) ((iShl .i64 1 (lGet x.2.2.1 (iNat 0) (0,0,false)).2.1),1)).2) (0,0,false)).1 (iAdd .i64 (lGet x.2.2.1 (iNat 0) (0,0,false)).1 x.2.1)) (loopV (lc_spec_MatchCombo_1 x) (lf_spec_MatchCombo_1 x) ((iShl .i64 1 (lGet x.2.2.1 (iNat 0) (0,0,false)).2.1),1)).1 (loopV (lc_spec_MatchCombo_1 x) (lf_spec_MatchCombo_1 x) ((iShl .i64 1 (lGet x.2.2.1 (iNat 0) (0,0,false)).2.1),1)).1)))).1 0) 1 (bSel (iEq (loopV (lc_spec_MatchCombo_1 x) (lf_spec_MatchCombo_1 x) ((iShl .i64 1 (lGet x.2.2.1 (iNat 0) (0,0,false)).2.1),1)).2 (lLen x.2.2.1)) (loopV (lc_spec_MatchCombo_1 x) (lf_spec_MatchCombo_1 x) ((iShl .i64 1 (lGet x.2.2.1 (iNat 0) (0,0,false)).2.1),1)).2 (bSel (iGe (lGet x.2.2.1 (iNat (loopV (lc_spec_MatchCombo_1 x) (lf_spec_MatchCombo_1 x) ((iShl .i64 1 (lGet x.2.2.1 (iNat 0) (0,0,false)).2.1),1)).2) (0,0,false)).1 (iAdd .i64 (lGet x.2.2.1 (iNat 0) (0,0,false)).1 x.2.1)) (loopV (lc_spec_MatchCombo_1 x) (lf_spec_MatchCombo_1 x) ((iShl .i64 1 (lGet x.2.2.1 (iNat 0) (0,0,false)).2.1),1)).2 (loopV (lc_spec_MatchCombo_1 x) (lf_spec_MatchCombo_1 x) ((iShl .i64 1 (lGet x.2.2.1 (iNat 0) (0,0,false)).2.1),1)).2))),(bSel (iEq (loopV (lc_spec_MatchCombo_1 x) (lf_spec_MatchCombo_1 x) ((iShl .i64 1 (lGet x.2.2.1 (iNat 0) (0,0,false)).2.1),1)).2 (lLen x.2.2.1)) (iAdd .i64 (lGet x.2.2.1 (iNat 0) (0,0,false)).1 x.2.1) (bSel (iGe (lGet x.2.2.1 (iNat (loopV (lc_spec_MatchCombo_1 x) (lf_spec_MatchCombo_1 x) ((iShl .i64 1 (lGet x.2.2.1 (iNat 0) (0,0,false)).2.1),1)).2) (0,0,false)).1 (iAdd .i64 (lGet x.2.2.1 (iNat 0) (0,0,false)).1 x.2.1)) (iAdd .i64 (lGet x.2.2.1 (iNat 0) (0,0,false)).1 x.2.1) (lGet x.2.2.1 (iNat (loopV (lc_spec_MatchCombo_1 x) (lf_spec_MatchCombo_1 x) ((iShl .i64 1 (lGet x.2.2.1 (iNat 0) (0,0,false)).2.1),1)).2) (0,0,false)).1)),(v_spec_l11Out (x.1,(bSel (iEq (loopV (lc_spec_MatchCombo_1 x) (lf_spec_MatchCombo_1 x) ((iShl .i64 1 (lGet x.2.2.1 (iNat 0) (0,0,false)).2.1),1)).2 (lLen x.2.2.1)) (loopV (lc_spec_MatchCombo_1 x) (lf_spec_MatchCombo_1 x) ((iShl .i64 1 (lGet x.2.2.1 (iNat 0) (0,0,false)).2.1),1)).1 (bSel (iGe (lGet x.2.2.1 (iNat (loopV (lc_spec_MatchCombo_1 x) (lf_spec_MatchCombo_1 x) ((iShl .i64 1 (lGet x.2.2.1 (iNat 0) (0,0,false)).2.1),1)).2) (0,0,false)).1 (iAdd .i64 (lGet x.2.2.1 (iNat 0) (0,0,false)).1 x.2.1)) (loopV (lc_spec_MatchCombo_1 x) (lf_spec_MatchCombo_1 x) ((iShl .i64 1 (lGet x.2.2.1 (iNat 0) (0,0,false)).2.1),1)).1 (loopV (lc_spec_MatchCombo_1 x) (lf_spec_MatchCombo_1 x) ((iShl .i64 1 (lGet x.2.2.1 (iNat 0) (0,0,false)).2.1),1)).1)))).1) (bSel (iEq (loopV (lc_spec_MatchCombo_1 x) (lf_spec_MatchCombo_1 x) ((iShl .i64 1 (lGet x.2.2.1 (iNat 0) (0,0,false)).2.1),1)).2 (lLen x.2.2.1)) (0,0,(-1)) (bSel (bNot (v_spec_l11Switch (lGet x.2.2.1 (iNat (loopV (lc_spec_MatchCombo_1 x) (lf_spec_MatchCombo_1 x) ((iShl .i64 1 (lGet x.2.2.1 (iNat 0) (0,0,false)).2.1),1)).2) (0,0,false)))) (0,0,(-1)) ((iAdd .i64 (loopV (lc_spec_MatchCombo_1 x) (lf_spec_MatchCombo_1 x) ((iShl .i64 1 (lGet x.2.2.1 (iNat 0) (0,0,false)).2.1),1)).2 1),(lGet x.2.2.1 (iNat (loopV (lc_spec_MatchCombo_1 x) (lf_spec_MatchCombo_1 x) ((iShl .i64 1 (lGet x.2.2.1 (iNat 0) (0,0,false)).2.1),1)).2) (0,0,false)).1,(v_spec_l11Out (x.1,(iOr .i64 (loopV (lc_spec_MatchCombo_1 x) (lf_spec_MatchCombo_1 x) ((iShl .i64 1 (lGet x.2.2.1 (iNat 0) (0,0,false)).2.1),1)).1 (iShl .i64 1 (lGet x.2.2.1 (iNat (loopV (lc_spec_MatchCombo_1 x) (lf_spec_MatchCombo_1 x) ((iShl .i64 1 (lGet x.2.2.1 (iNat 0) (0,0,false)).2.1),1)).2) (0,0,false)).2.1)))).1)))))):=(vu_spec_MatchCombo x).trans (by kernel_rfl)
theorem oe_spec_MatchCombo (x):ok_spec_MatchCombo x=(((ok_spec_IsCombos x.1)∧(((bNot (v_spec_IsCombos x.1))=true→True)∧((bNot (v_spec_IsCombos x.1))=false→((ok_spec_l1In (x.2.1,1,200))∧(((bNot (v_spec_l1In (x.2.1,1,200)))=true→True)∧((bNot (v_spec_l1In (x.2.1,1,200)))=false→(((iEq (lLen x.2.2.1) 0)=true→True)∧((iEq (lLen x.2.2.1) 0)=false→((((0:Int)≤0)∧((0:Int)<(((List.length x.2.2.1):Int))))∧(((iNat 0)<(List.length x.2.2.1))∧((ok_spec_l11Switch (lGet x.2.2.1 (iNat 0) (0,0,false)))∧(((bNot (v_spec_l11Switch (lGet x.2.2.1 (iNat 0) (0,0,false))))=true→True)∧((bNot (v_spec_l11Switch (lGet x.2.2.1 (iNat 0) (0,0,false))))=false→((((0:Int)≤0)∧((0:Int)<(((List.length x.2.2.1):Int))))∧((iNat 0)<(List.length x.2.2.1))))))))))))))))∧(((bOr (bNot (v_spec_IsCombos x.1)) (bOr (bNot (v_spec_l1In (x.2.1,1,200))) (bOr (iEq (lLen x.2.2.1) 0) (bOr (bNot (v_spec_l11Switch (lGet x.2.2.1 (iNat 0) (0,0,false)))) (bNot (lGet x.2.2.1 (iNat 0) (0,0,false)).2.2)))))=true→True)∧((bOr (bNot (v_spec_IsCombos x.1)) (bOr (bNot (v_spec_l1In (x.2.1,1,200))) (bOr (iEq (lLen x.2.2.1) 0) (bOr (bNot (v_spec_l11Switch (lGet x.2.2.1 (iNat 0) (0,0,false)))) (bNot (lGet x.2.2.1 (iNat 0) (0,0,false)).2.2)))))=false→((((0:Int)≤0)∧((0:Int)<(((List.length x.2.2.1):Int))))∧(((iNat 0)<(List.length x.2.2.1))∧(((0:Int)≤(lGet x.2.2.1 (iNat 0) (0,0,false)).2.1)∧((((0:Int)≤0)∧((0:Int)<(((List.length x.2.2.1):Int))))∧(((iNat 0)<(List.length x.2.2.1))∧((ok_spec_l11Fits (x.1,(iShl .i64 1 (lGet x.2.2.1 (iNat 0) (0,0,false)).2.1)))∧(((bNot (v_spec_l11Fits (x.1,(iShl .i64 1 (lGet x.2.2.1 (iNat 0) (0,0,false)).2.1))))=true→((((0:Int)≤0)∧((0:Int)<(((List.length x.2.2.1):Int))))∧((iNat 0)<(List.length x.2.2.1))))∧((bNot (v_spec_l11Fits (x.1,(iShl .i64 1 (lGet x.2.2.1 (iNat 0) (0,0,false)).2.1))))=false→((LoopOk (lc_spec_MatchCombo_1 x) (lf_spec_MatchCombo_1 x) (lp_spec_MatchCombo_1 x) ((iShl .i64 1 (lGet x.2.2.1 (iNat 0) (0,0,false)).2.1),1))∧(((bSel (iEq (loopV (lc_spec_MatchCombo_1 x) (lf_spec_MatchCombo_1 x) ((iShl .i64 1 (lGet x.2.2.1 (iNat 0) (0,0,false)).2.1),1)).2 (lLen x.2.2.1)) (bNot (iLt x.2.2.2 (iAdd .i64 (lGet x.2.2.1 (iNat 0) (0,0,false)).1 x.2.1))) (bAnd (bNot (bNot (v_spec_l11Switch (lGet x.2.2.1 (iNat (loopV (lc_spec_MatchCombo_1 x) (lf_spec_MatchCombo_1 x) ((iShl .i64 1 (lGet x.2.2.1 (iNat 0) (0,0,false)).2.1),1)).2) (0,0,false))))) (bOr (iGe (lGet x.2.2.1 (iNat (loopV (lc_spec_MatchCombo_1 x) (lf_spec_MatchCombo_1 x) ((iShl .i64 1 (lGet x.2.2.1 (iNat 0) (0,0,false)).2.1),1)).2) (0,0,false)).1 (iAdd .i64 (lGet x.2.2.1 (iNat 0) (0,0,false)).1 x.2.1)) (bOr (bNot (lGet x.2.2.1 (iNat (loopV (lc_spec_MatchCombo_1 x) (lf_spec_MatchCombo_1 x) ((iShl .i64 1 (lGet x.2.2.1 (iNat 0) (0,0,false)).2.1),1)).2) (0,0,false)).2.2) (bNot (v_spec_l11Fits (x.1,(iOr .i64 (loopV (lc_spec_MatchCombo_1 x) (lf_spec_MatchCombo_1 x) ((iShl .i64 1 (lGet x.2.2.1 (iNat 0) (0,0,false)).2.1),1)).1 (iShl .i64 1 (lGet x.2.2.1 (iNat (loopV (lc_spec_MatchCombo_1 x) (lf_spec_MatchCombo_1 x) ((iShl .i64 1 (lGet x.2.2.1 (iNat 0) (0,0,false)).2.1),1)).2) (0,0,false)).2.1)))))))))=true→(ok_spec_l11Out (x.1,(bSel (iEq (loopV (lc_spec_MatchCombo_1 x) (lf_spec_MatchCombo_1 x) ((iShl .i64 1 (lGet x.2.2.1 (iNat 0) (0,0,false)).2.1),1)).2 (lLen x.2.2.1)) (loopV (lc_spec_MatchCombo_1 x) (lf_spec_MatchCombo_1 x) ((iShl .i64 1 (lGet x.2.2.1 (iNat 0) (0,0,false)).2.1),1)).1 (bSel (iGe (lGet x.2.2.1 (iNat (loopV (lc_spec_MatchCombo_1 x) (lf_spec_MatchCombo_1 x) ((iShl .i64 1 (lGet x.2.2.1 (iNat 0) (0,0,false)).2.1),1)).2) (0,0,false)).1 (iAdd .i64 (lGet x.2.2.1 (iNat 0) (0,0,false)).1 x.2.1)) (loopV (lc_spec_MatchCombo_1 x) (lf_spec_MatchCombo_1 x) ((iShl .i64 1 (lGet x.2.2.1 (iNat 0) (0,0,false)).2.1),1)).1 (loopV (lc_spec_MatchCombo_1 x) (lf_spec_MatchCombo_1 x) ((iShl .i64 1 (lGet x.2.2.1 (iNat 0) (0,0,false)).2.1),1)).1)))))∧((bSel (iEq (loopV (lc_spec_MatchCombo_1 x) (lf_spec_MatchCombo_1 x) ((iShl .i64 1 (lGet x.2.2.1 (iNat 0) (0,0,false)).2.1),1)).2 (lLen x.2.2.1)) (bNot (iLt x.2.2.2 (iAdd .i64 (lGet x.2.2.1 (iNat 0) (0,0,false)).1 x.2.1))) (bAnd (bNot (bNot (v_spec_l11Switch (lGet x.2.2.1 (iNat (loopV (lc_spec_MatchCombo_1 x) (lf_spec_MatchCombo_1 x) ((iShl .i64 1 (lGet x.2.2.1 (iNat 0) (0,0,false)).2.1),1)).2) (0,0,false))))) (bOr (iGe (lGet x.2.2.1 (iNat (loopV (lc_spec_MatchCombo_1 x) (lf_spec_MatchCombo_1 x) ((iShl .i64 1 (lGet x.2.2.1 (iNat 0) (0,0,false)).2.1),1)).2) (0,0,false)).1 (iAdd .i64 (lGet x.2.2.1 (iNat 0) (0,0,false)).1 x.2.1)) (bOr (bNot (lGet x.2.2.1 (iNat (loopV (lc_spec_MatchCombo_1 x) (lf_spec_MatchCombo_1 x) ((iShl .i64 1 (lGet x.2.2.1 (iNat 0) (0,0,false)).2.1),1)).2) (0,0,false)).2.2) (bNot (v_spec_l11Fits (x.1,(iOr .i64 (loopV (lc_spec_MatchCombo_1 x) (lf_spec_MatchCombo_1 x) ((iShl .i64 1 (lGet x.2.2.1 (iNat 0) (0,0,false)).2.1),1)).1 (iShl .i64 1 (lGet x.2.2.1 (iNat (loopV (lc_spec_MatchCombo_1 x) (lf_spec_MatchCombo_1 x) ((iShl .i64 1 (lGet x.2.2.1 (iNat 0) (0,0,false)).2.1),1)).2) (0,0,false)).2.1)))))))))=false→True)))))))))))))):=(ou_spec_MatchCombo x).trans (by kernel_rfl)
theorem ve_impl_isSwitchEvent (x):v_impl_isSwitchEvent x=(bAnd (v_impl_IsEvent x) (iLt x.2.1 24)):=(vu_impl_isSwitchEvent x).trans (by kernel_rfl)
theorem oe_impl_isSwitchEvent (x):ok_impl_isSwitchEvent x=(ok_impl_IsEvent x):=(ou_impl_isSwitchEvent x).trans (by kernel_rfl)
noncomputable def lc_impl_within_1(x:(List (Int×Int))×Int)(x0:Int):Bool:=(bAnd (iLt x0 (lLen x.1)) (bNot (iEq (iAndNot .i64 x.2 (lGet x.1 (iNat x0) (0,0)).1) 0)))
noncomputable def lf_impl_within_1(x0:Int):Int:=(iAdd .i64 x0 1)
noncomputable def lp_impl_within_1(x:(List (Int×Int))×Int)(x0:Int):Prop:=(((iLt x0 (lLen x.1))=true→((((0:Int)≤x0)∧(x0<(((List.length x.1):Int))))∧((iNat x0)<(List.length x.1))))∧((iLt x0 (lLen x.1))=false→True))
theorem ve_impl_within (x):v_impl_within x=(iLt (loopV (lc_impl_within_1 x) lf_impl_within_1 0) (lLen x.1)):=(vu_impl_within x).trans (by kernel_rfl)
theorem oe_impl_within (x):ok_impl_within x=(LoopOk (lc_impl_within_1 x) lf_impl_within_1 (lp_impl_within_1 x) 0):=(ou_impl_within x).trans (by kernel_rfl)
noncomputable def lc_impl_wholeCombo_1(x:(List (Int×Int))×Int)(x0:(Int×(Bool×Int))):Bool:=(iLt x0.2.2 (lLen x.1))
noncomputable def lf_impl_wholeCombo_1(x:(List (Int×Int))×Int)(x0:(Int×(Bool×Int))):(Int×(Bool×Int)):=((bSel (iEq (lGet x.1 (iNat x0.2.2) (0,0)).1 x.2) (lGet x.1 (iNat x0.2.2) (0,0)).2 x0.1),(bSel (iEq (lGet x.1 (iNat x0.2.2) (0,0)).1 x.2) x0.2.1 (bOr (iEq (iAndNot .i64 x.2 (lGet x.1 (iNat x0.2.2) (0,0)).1) 0) x0.2.1)),(iAdd .i64 x0.2.2 1))
noncomputable def lp_impl_wholeCombo_1(x:(List (Int×Int))×Int)(x0:(Int×(Bool×Int))):Prop:=(((iLt x0.2.2 (lLen x.1))=true→((((0:Int)≤x0.2.2)∧(x0.2.2<(((List.length x.1):Int))))∧((iNat x0.2.2)<(List.length x.1))))∧((iLt x0.2.2 (lLen x.1))=false→True))
theorem ve_impl_wholeCombo (x):v_impl_wholeCombo x=((loopV (lc_impl_wholeCombo_1 x) (lf_impl_wholeCombo_1 x) ((-1),false,0)).1,(loopV (lc_impl_wholeCombo_1 x) (lf_impl_wholeCombo_1 x) ((-1),false,0)).2.1):=(vu_impl_wholeCombo x).trans (by kernel_rfl)
theorem oe_impl_wholeCombo (x):ok_impl_wholeCombo x=(LoopOk (lc_impl_wholeCombo_1 x) (lf_impl_wholeCombo_1 x) (lp_impl_wholeCombo_1 x) ((-1),false,0)):=(ou_impl_wholeCombo x).trans (by kernel_rfl)
noncomputable def lc_impl_MatchCombo_1(x:(List (Int×Int))×Int×(List (Int×Int×Bool))×Int)(x0:(Int×(Int×Int))):Bool:=(bAnd (iLt x0.2.2 (lLen (lSub x.2.2.1 (iNat 1) (lN x.2.2.1)))) (bAnd (bNot (bNot (v_impl_isSwitchEvent (lGet (lSub x.2.2.1 (iNat 1) (lN x.2.2.1)) (iNat x0.2.2) (0,0,false))))) (bAnd (bNot (bOr (iGe (lGet (lSub x.2.2.1 (iNat 1) (lN x.2.2.1)) (iNat x0.2.2) (0,0,false)).1 (iAdd .i64 (lGet x.2.2.1 (iNat 0) (0,0,false)).1 x.2.1)) (bOr (bNot (lGet (lSub x.2.2.1 (iNat 1) (lN x.2.2.1)) (iNat x0.2.2) (0,0,false)).2.2) (bNot (v_impl_within (x.1,(iOr .i64 x0.1 (iShl .i64 1 (lGet (lSub x.2.2.1 (iNat 1) (lN x.2.2.1)) (iNat x0.2.2) (0,0,false)).2.1)))))))) (bNot (bAnd (iGe (v_impl_wholeCombo (x.1,(iOr .i64 x0.1 (iShl .i64 1 (lGet (lSub x.2.2.1 (iNat 1) (lN x.2.2.1)) (iNat x0.2.2) (0,0,false)).2.1)))).1 0) (bNot (v_impl_wholeCombo (x.1,(iOr .i64 x0.1 (iShl .i64 1 (lGet (lSub x.2.2.1 (iNat 1) (lN x.2.2.1)) (iNat x0.2.2) (0,0,false)).2.1)))).2))))))
noncomputable def lf_impl_MatchCombo_1(x:(List (Int×Int))×Int×(List (Int×Int×Bool))×Int)(x0:(Int×(Int×Int))):(Int×(Int×Int)):=((iOr .i64 x0.1 (iShl .i64 1 (lGet (lSub x.2.2.1 (iNat 1) (lN x.2.2.1)) (iNat x0.2.2) (0,0,false)).2.1)),(iAdd .i64 x0.2.1 1),(iAdd .i64 x0.2.2 1))
noncomputable def lp_impl_MatchCombo_1(x:(List (Int×Int))×Int×(List (Int×Int×Bool))×Int)(x0:(Int×(Int×Int))):Prop:=(((iLt x0.2.2 (lLen (lSub x.2.2.1 (iNat 1) (lN x.2.2.1))))=true→((((0:Int)≤x0.2.2)∧(x0.2.2<(((List.length (lSub x.2.2.1 (iNat 1) (lN x.2.2.1))):Int))))∧(((iNat x0.2.2)<(List.length (lSub x.2.2.1 (iNat 1) (lN x.2.2.1))))∧((ok_impl_isSwitchEvent (lGet (lSub x.2.2.1 (iNat 1) (lN x.2.2.1)) (iNat x0.2.2) (0,0,false)))∧(((bNot (v_impl_isSwitchEvent (lGet (lSub x.2.2.1 (iNat 1) (lN x.2.2.1)) (iNat x0.2.2) (0,0,false))))=true→True)∧((bNot (v_impl_isSwitchEvent (lGet (lSub x.2.2.1 (iNat 1) (lN x.2.2.1)) (iNat x0.2.2) (0,0,false))))=false→((((iGe (lGet (lSub x.2.2.1 (iNat 1) (lN x.2.2.1)) (iNat x0.2.2) (0,0,false)).1 (iAdd .i64 (lGet x.2.2.1 (iNat 0) (0,0,false)).1 x.2.1))=true→True)∧((iGe (lGet (lSub x.2.2.1 (iNat 1) (lN x.2.2.1)) (iNat x0.2.2) (0,0,false)).1 (iAdd .i64 (lGet x.2.2.1 (iNat 0) (0,0,false)).1 x.2.1))=false→(((bNot (lGet (lSub x.2.2.1 (iNat 1) (lN x.2.2.1)) (iNat x0.2.2) (0,0,false)).2.2)=true→True)∧((bNot (lGet (lSub x.2.2.1 (iNat 1) (lN x.2.2.1)) (iNat x0.2.2) (0,0,false)).2.2)=false→(((0:Int)≤(lGet (lSub x.2.2.1 (iNat 1) (lN x.2.2.1)) (iNat x0.2.2) (0,0,false)).2.1)∧(ok_impl_within (x.1,(iOr .i64 x0.1 (iShl .i64 1 (lGet (lSub x.2.2.1 (iNat 1) (lN x.2.2.1)) (iNat x0.2.2) (0,0,false)).2.1)))))))))∧(((bOr (iGe (lGet (lSub x.2.2.1 (iNat 1) (lN x.2.2.1)) (iNat x0.2.2) (0,0,false)).1 (iAdd .i64 (lGet x.2.2.1 (iNat 0) (0,0,false)).1 x.2.1)) (bOr (bNot (lGet (lSub x.2.2.1 (iNat 1) (lN x.2.2.1)) (iNat x0.2.2) (0,0,false)).2.2) (bNot (v_impl_within (x.1,(iOr .i64 x0.1 (iShl .i64 1 (lGet (lSub x.2.2.1 (iNat 1) (lN x.2.2.1)) (iNat x0.2.2) (0,0,false)).2.1)))))))=true→True)∧((bOr (iGe (lGet (lSub x.2.2.1 (iNat 1) (lN x.2.2.1)) (iNat x0.2.2) (0,0,false)).1 (iAdd .i64 (lGet x.2.2.1 (iNat 0) (0,0,false)).1 x.2.1)) (bOr (bNot (lGet (lSub x.2.2.1 (iNat 1) (lN x.2.2.1)) (iNat x0.2.2) (0,0,false)).2.2) (bNot (v_impl_within (x.1,(iOr .i64 x0.1 (iShl .i64 1 (lGet (lSub x.2.2.1 (iNat 1) (lN x.2.2.1)) (iNat x0.2.2) (0,0,false)).2.1)))))))=false→(((0:Int)≤(lGet (lSub x.2.2.1 (iNat 1) (lN x.2.2.1)) (iNat x0.2.2) (0,0,false)).2.1)∧(ok_impl_wholeCombo (x.1,(iOr .i64 x0.1 (iShl .i64 1 (lGet (lSub x.2.2.1 (iNat 1) (lN x.2.2.1)) (iNat x0.2.2) (0,0,false)).2.1))))))))))))))∧((iLt x0.2.2 (lLen (lSub x.2.2.1 (iNat 1) (lN x.2.2.1))))=false→True))
theorem ve_impl_MatchCombo (x):v_impl_MatchCombo x=(bSel (bOr (bNot (v_impl_IsCombos x.1)) (bOr (iLt x.2.1 1) (bOr (iGt x.2.1 200) (bOr (iEq (lLen x.2.2.1) 0) (bOr (bNot (v_impl_isSwitchEvent (lGet x.2.2.1 (iNat 0) (0,0,false)))) (bNot (lGet x.2.2.1 (iNat 0) (0,0,false)).2.2)))))) (0,0,(-1)) (bSel (bNot (v_impl_within (x.1,(iShl .i64 1 (lGet x.2.2.1 (iNat 0) (0,0,false)).2.1)))) (1,(lGet x.2.2.1 (iNat 0) (0,0,false)).1,(-1)) (bSel (bOr (bNot (iLt (loopV (lc_impl_MatchCombo_1 x) (lf_impl_MatchCombo_1 x) ((iShl .i64 1 (lGet x.2.2.1 (iNat 0) (0,0,false)).2.1),1,0)).2.2 (lLen (lSub x.2.2.1 (iNat 1) (lN x.2.2.1))))) (bAnd (bNot (bNot (v_impl_isSwitchEvent (lGet (lSub x.2.2.1 (iNat 1) (lN x.2.2.1)) (iNat (loopV (lc_impl_MatchCombo_1 x) (lf_impl_MatchCombo_1 x) ((iShl .i64 1 (lGet x.2.2.1 (iNat 0) (0,0,false)).2.1),1,0)).2.2) (0,0,false))))) (bOr (iGe (lGet (lSub x.2.2.1 (iNat 1) (lN x.2.2.1)) (iNat (loopV (lc_impl_MatchCombo_1 x) (lf_impl_MatchCombo_1 x) ((iShl .i64 1 (lGet x.2.2.1 (iNat 0) (0,0,false)).2.1),1,0)).2.2) (0,0,false)).1 (iAdd .i64 (lGet x.2.2.1 (iNat 0) (0,0,false)).1 x.2.1)) (bOr (bNot (lGet (lSub x.2.2.1 (iNat 1) (lN x.2.2.1)) (iNat (loopV (lc_impl_MatchCombo_1 x) (lf_impl_MatchCombo_1 x) ((iShl .i64 1 (lGet x.2.2.1 (iNat 0) (0,0,false)).2.1),1,0)).2.2) (0,0,false)).2.2) (bNot (v_impl_within (x.1,(iOr .i64 (loopV (lc_impl_MatchCombo_1 x) (lf_impl_MatchCombo_1 x) ((iShl .i64 1 (lGet x.2.2.1 (iNat 0) (0,0,false)).2.1),1,0)).1 (iShl .i64 1 (lGet (lSub x.2.2.1 (iNat 1) (lN x.2.2.1)) (iNat (loopV (lc_impl_MatchCombo_1 x) (lf_impl_MatchCombo_1 x) ((iShl .i64 1 (lGet x.2.2.1 (iNat 0) (0,0,false)).2.1),1,0)).2.2) (0,0,false)).2.1))))))))) (bSel (bAnd (bNot (iLt (loopV (lc_impl_MatchCombo_1 x) (lf_impl_MatchCombo_1 x) ((iShl .i64 1 (lGet x.2.2.1 (iNat 0) (0,0,false)).2.1),1,0)).2.2 (lLen (lSub x.2.2.1 (iNat 1) (lN x.2.2.1))))) (iLt x.2.2.2 (bSel (iLt (loopV (lc_impl_MatchCombo_1 x) (lf_impl_MatchCombo_1 x) ((iShl .i64 1 (lGet x.2.2.1 (iNat 0) (0,0,false)).2.1),1,0)).2.2 (lLen (lSub x.2.2.1 (iNat 1) (lN x.2.2.1)))) (iMin (iAdd .i64 (lGet x.2.2.1 (iNat 0) (0,0,false)).1 x.2.1) (lGet (lSub x.2.2.1 (iNat 1) (lN x.2.2.1)) (iNat (loopV (lc_impl_MatchCombo_1 x) (lf_impl_MatchCombo_1 x) ((iShl .i64 1 (lGet x.2.2.1 (iNat 0) (0,0,false)).2.1),1,0)).2.2) (0,0,false)).1) (iAdd .i64 (lGet x.2.2.1 (iNat 0) (0,0,false)).1 x.2.1)))) (0,0,(-1)) (bSel (iGe (v_impl_wholeCombo (x.1,(bSel (iLt (loopV (lc_impl_MatchCombo_1 x) (lf_impl_MatchCombo_1 x) ((iShl .i64 1 (lGet x.2.2.1 (iNat 0) (0,0,false)).2.1),1,0)).2.2 (lLen (lSub x.2.2.1 (iNat 1) (lN x.2.2.1)))) (loopV (lc_impl_MatchCombo_1 x) (lf_impl_MatchCombo_1 x) ((iShl .i64 1 (lGet x.2.2.1 (iNat 0) (0,0,false)).2.1),1,0)).1 (loopV (lc_impl_MatchCombo_1 x) (lf_impl_MatchCombo_1 x) ((iShl .i64 1 (lGet x.2.2.1 (iNat 0) (0,0,false)).2.1),1,0)).1))).1 0) ((bSel (iLt (loopV (lc_impl_MatchCombo_1 x) (lf_impl_MatchCombo_1 x) ((iShl .i64 1 (lGet x.2.2.1 (iNat 0) (0,0,false)).2.1),1,0)).2.2 (lLen (lSub x.2.2.1 (iNat 1) (lN x.2.2.1)))) (loopV (lc_impl_MatchCombo_1 x) (lf_impl_MatchCombo_1 x) ((iShl .i64 1 (lGet x.2.2.1 (iNat 0) (0,0,false)).2.1),1,0)).2.1 (loopV (lc_impl_MatchCombo_1 x) (lf_impl_MatchCombo_1 x) ((iShl .i64 1 (lGet x.2.2.1 (iNat 0) (0,0,false)).2.1),1,0)).2.1),(bSel (iLt (loopV (lc_impl_MatchCombo_1 x) (lf_impl_MatchCombo_1 x) ((iShl .i64 1 (lGet x.2.2.1 (iNat 0) (0,0,false)).2.1),1,0)).2.2 (lLen (lSub x.2.2.1 (iNat 1) (lN x.2.2.1)))) (iMin (iAdd .i64 (lGet x.2.2.1 (iNat 0) (0,0,false)).1 x.2.1) (lGet (lSub x.2.2.1 (iNat 1) (lN x.2.2.1)) (iNat (loopV (lc_impl_MatchCombo_1 x) (lf_impl_MatchCombo_1 x) ((iShl .i64 1 (lGet x.2.2.1 (iNat 0) (0,0,false)).2.1),1,0)).2.2) (0,0,false)).1) (iAdd .i64 (lGet x.2.2.1 (iNat 0) (0,0,false)).1 x.2.1)),(v_impl_wholeCombo (x.1,(bSel (iLt (loopV (lc_impl_MatchCombo_1 x) (lf_impl_MatchCombo_1 x) ((iShl .i64 1 (lGet x.2.2.1 (iNat 0) (0,0,false)).2.1),1,0)).2.2 (lLen (lSub x.2.2.1 (iNat 1) (lN x.2.2.1)))) (loopV (lc_impl_MatchCombo_1 x) (lf_impl_MatchCombo_1 x) ((iShl .i64 1 (lGet x.2.2.1 (iNat 0) (0,0,false)).2.1),1,0)).1 (loopV (lc_impl_MatchCombo_1 x) (lf_impl_MatchCombo_1 x) ((iShl .i64 1 (lGet x.2.2.1 (iNat 0) (0,0,false)).2.1),1,0)).1))).1) (1,(bSel (iLt (loopV (lc_impl_MatchCombo_1 x) (lf_impl_MatchCombo_1 x) ((iShl .i64 1 (lGet x.2.2.1 (iNat 0) (0,0,false)).2.1),1,0)).2.2 (lLen (lSub x.2.2.1 (iNat 1) (lN x.2.2.1)))) (iMin (iAdd .i64 (lGet x.2.2.1 (iNat 0) (0,0,false)).1 x.2.1) (lGet (lSub x.2.2.1 (iNat 1) (lN x.2.2.1)) (iNat (loopV (lc_impl_MatchCombo_1 x) (lf_impl_MatchCombo_1 x) ((iShl .i64 1 (lGet x.2.2.1 (iNat 0) (0,0,false)).2.1),1,0)).2.2) (0,0,false)).1) (iAdd .i64 (lGet x.2.2.1 (iNat 0) (0,0,false)).1 x.2.1)),(-1)))) (bSel (bNot (v_impl_isSwitchEvent (lGet (lSub x.2.2.1 (iNat 1) (lN x.2.2.1)) (iNat (loopV (lc_impl_MatchCombo_1 x) (lf_impl_MatchCombo_1 x) ((iShl .i64 1 (lGet x.2.2.1 (iNat 0) (0,0,false)).2.1),1,0)).2.2) (0,0,false)))) (0,0,(-1)) ((iAdd .i64 (loopV (lc_impl_MatchCombo_1 x) (lf_impl_MatchCombo_1 x) ((iShl .i64 1 (lGet x.2.2.1 (iNat 0) (0,0,false)).2.1),1,0)).2.1 1),(lGet (lSub x.2.2.1 (iNat 1) (lN x.2.2.1)) (iNat (loopV (lc_impl_MatchCombo_1 x) (lf_impl_MatchCombo_1 x) ((iShl .i64 1 (lGet x.2.2.1 (iNat 0) (0,0,false)).2.1),1,0)).2.2) (0,0,false)).1,(v_impl_wholeCombo (x.1,(iOr .i64 (loopV (lc_impl_MatchCombo_1 x) (lf_impl_MatchCombo_1 x) ((iShl .i64 1 (lGet x.2.2.1 (iNat 0) (0,0,false)).2.1),1,0)).1 (iShl .i64 1 (lGet (lSub x.2.2.1 (iNat 1) (lN x.2.2.1)) (iNat (loopV (lc_impl_MatchCombo_1 x) (lf_impl_MatchCombo_1 x) ((iShl .i64 1 (lGet x.2.2.1 (iNat 0) (0,0,false)).2.1),1,0)).2.2) (0,0,false)).2.1)))).1))))):=(vu_impl_MatchCombo x).trans (by kernel_rfl)
theorem oe_impl_MatchCombo (x):ok_impl_MatchCombo x=(((ok_impl_IsCombos x.1)∧(((bNot (v_impl_IsCombos x.1))=true→True)∧((bNot (v_impl_IsCombos x.1))=false→(((iLt x.2.1 1)=true→True)∧((iLt x.2.1 1)=false→(((iGt x.2.1 200)=true→True)∧((iGt x.2.1 200)=false→(((iEq (lLen x.2.2.1) 0)=true→True)∧((iEq (lLen x.2.2.1) 0)=false→((((0:Int)≤0)∧((0:Int)<(((List.length x.2.2.1):Int))))∧(((iNat 0)<(List.length x.2.2.1))∧((ok_impl_isSwitchEvent (lGet x.2.2.1 (iNat 0) (0,0,false)))∧(((bNot (v_impl_isSwitchEvent (lGet x.2.2.1 (iNat 0) (0,0,false))))=true→True)∧((bNot (v_impl_isSwitchEvent (lGet x.2.2.1 (iNat 0) (0,0,false))))=false→((((0:Int)≤0)∧((0:Int)<(((List.length x.2.2.1):Int))))∧((iNat 0)<(List.length x.2.2.1)))))))))))))))))∧(((bOr (bNot (v_impl_IsCombos x.1)) (bOr (iLt x.2.1 1) (bOr (iGt x.2.1 200) (bOr (iEq (lLen x.2.2.1) 0) (bOr (bNot (v_impl_isSwitchEvent (lGet x.2.2.1 (iNat 0) (0,0,false)))) (bNot (lGet x.2.2.1 (iNat 0) (0,0,false)).2.2))))))=true→True)∧((bOr (bNot (v_impl_IsCombos x.1)) (bOr (iLt x.2.1 1) (bOr (iGt x.2.1 200) (bOr (iEq (lLen x.2.2.1) 0) (bOr (bNot (v_impl_isSwitchEvent (lGet x.2.2.1 (iNat 0) (0,0,false)))) (bNot (lGet x.2.2.1 (iNat 0) (0,0,false)).2.2))))))=false→((((0:Int)≤0)∧((0:Int)<(((List.length x.2.2.1):Int))))∧(((iNat 0)<(List.length x.2.2.1))∧(((0:Int)≤(lGet x.2.2.1 (iNat 0) (0,0,false)).2.1)∧((ok_impl_within (x.1,(iShl .i64 1 (lGet x.2.2.1 (iNat 0) (0,0,false)).2.1)))∧(((bNot (v_impl_within (x.1,(iShl .i64 1 (lGet x.2.2.1 (iNat 0) (0,0,false)).2.1))))=true→True)∧((bNot (v_impl_within (x.1,(iShl .i64 1 (lGet x.2.2.1 (iNat 0) (0,0,false)).2.1))))=false→(((((0:Int)≤1)∧(((iNat 1)≤(lN x.2.2.1))∧(((lN x.2.2.1)≤(List.length x.2.2.1))∧(0<(List.length x.2.2.1)))))∧(LoopOk (lc_impl_MatchCombo_1 x) (lf_impl_MatchCombo_1 x) (lp_impl_MatchCombo_1 x) ((iShl .i64 1 (lGet x.2.2.1 (iNat 0) (0,0,false)).2.1),1,0)))∧(((bOr (bNot (iLt (loopV (lc_impl_MatchCombo_1 x) (lf_impl_MatchCombo_1 x) ((iShl .i64 1 (lGet x.2.2.1 (iNat 0) (0,0,false)).2.1),1,0)).2.2 (lLen (lSub x.2.2.1 (iNat 1) (lN x.2.2.1))))) (bAnd (bNot (bNot (v_impl_isSwitchEvent (lGet (lSub x.2.2.1 (iNat 1) (lN x.2.2.1)) (iNat (loopV (lc_impl_MatchCombo_1 x) (lf_impl_MatchCombo_1 x) ((iShl .i64 1 (lGet x.2.2.1 (iNat 0) (0,0,false)).2.1),1,0)).2.2) (0,0,false))))) (bOr (iGe (lGet (lSub x.2.2.1 (iNat 1) (lN x.2.2.1)) (iNat (loopV (lc_impl_MatchCombo_1 x) (lf_impl_MatchCombo_1 x) ((iShl .i64 1 (lGet x.2.2.1 (iNat 0) (0,0,false)).2.1),1,0)).2.2) (0,0,false)).1 (iAdd .i64 (lGet x.2.2.1 (iNat 0) (0,0,false)).1 x.2.1)) (bOr (bNot (lGet (lSub x.2.2.1 (iNat 1) (lN x.2.2.1)) (iNat (loopV (lc_impl_MatchCombo_1 x) (lf_impl_MatchCombo_1 x) ((iShl .i64 1 (lGet x.2.2.1 (iNat 0) (0,0,false)).2.1),1,0)).2.2) (0,0,false)).2.2) (bNot (v_impl_within (x.1,(iOr .i64 (loopV (lc_impl_MatchCombo_1 x) (lf_impl_MatchCombo_1 x) ((iShl .i64 1 (lGet x.2.2.1 (iNat 0) (0,0,false)).2.1),1,0)).1 (iShl .i64 1 (lGet (lSub x.2.2.1 (iNat 1) (lN x.2.2.1)) (iNat (loopV (lc_impl_MatchCombo_1 x) (lf_impl_MatchCombo_1 x) ((iShl .i64 1 (lGet x.2.2.1 (iNat 0) (0,0,false)).2.1),1,0)).2.2) (0,0,false)).2.1)))))))))=true→(((bAnd (bNot (iLt (loopV (lc_impl_MatchCombo_1 x) (lf_impl_MatchCombo_1 x) ((iShl .i64 1 (lGet x.2.2.1 (iNat 0) (0,0,false)).2.1),1,0)).2.2 (lLen (lSub x.2.2.1 (iNat 1) (lN x.2.2.1))))) (iLt x.2.2.2 (bSel (iLt (loopV (lc_impl_MatchCombo_1 x) (lf_impl_MatchCombo_1 x) ((iShl .i64 1 (lGet x.2.2.1 (iNat 0) (0,0,false)).2.1),1,0)).2.2 (lLen (lSub x.2.2.1 (iNat 1) (lN x.2.2.1)))) (iMin (iAdd .i64 (lGet x.2.2.1 (iNat 0) (0,0,false)).1 x.2.1) (lGet (lSub x.2.2.1 (iNat 1) (lN x.2.2.1)) (iNat (loopV (lc_impl_MatchCombo_1 x) (lf_impl_MatchCombo_1 x) ((iShl .i64 1 (lGet x.2.2.1 (iNat 0) (0,0,false)).2.1),1,0)).2.2) (0,0,false)).1) (iAdd .i64 (lGet x.2.2.1 (iNat 0) (0,0,false)).1 x.2.1))))=true→True)∧((bAnd (bNot (iLt (loopV (lc_impl_MatchCombo_1 x) (lf_impl_MatchCombo_1 x) ((iShl .i64 1 (lGet x.2.2.1 (iNat 0) (0,0,false)).2.1),1,0)).2.2 (lLen (lSub x.2.2.1 (iNat 1) (lN x.2.2.1))))) (iLt x.2.2.2 (bSel (iLt (loopV (lc_impl_MatchCombo_1 x) (lf_impl_MatchCombo_1 x) ((iShl .i64 1 (lGet x.2.2.1 (iNat 0) (0,0,false)).2.1),1,0)).2.2 (lLen (lSub x.2.2.1 (iNat 1) (lN x.2.2.1)))) (iMin (iAdd .i64 (lGet x.2.2.1 (iNat 0) (0,0,false)).1 x.2.1) (lGet (lSub x.2.2.1 (iNat 1) (lN x.2.2.1)) (iNat (loopV (lc_impl_MatchCombo_1 x) (lf_impl_MatchCombo_1 x) ((iShl .i64 1 (lGet x.2.2.1 (iNat 0) (0,0,false)).2.1),1,0)).2.2) (0,0,false)).1) (iAdd .i64 (lGet x.2.2.1 (iNat 0) (0,0,false)).1 x.2.1))))=false→(ok_impl_wholeCombo (x.1,(bSel (iLt (loopV (lc_impl_MatchCombo_1 x) (lf_impl_MatchCombo_1 x) ((iShl .i64 1 (lGet x.2.2.1 (iNat 0) (0,0,false)).2.1),1,0)).2.2 (lLen (lSub x.2.2.1 (iNat 1) (lN x.2.2.1)))) (loopV (lc_impl_MatchCombo_1 x) (lf_impl_MatchCombo_1 x) ((iShl .i64 1 (lGet x.2.2.1 (iNat 0) (0,0,false)).2.1),1,0)).1 (loopV (lc_impl_MatchCombo_1 x) (lf_impl_MatchCombo_1 x) ((iShl .i64 1 (lGet x.2.2.1 (iNat 0) (0,0,false)).2.1),1,0)).1))))))∧((bOr (bNot (iLt (loopV (lc_impl_MatchCombo_1 x) (lf_impl_MatchCombo_1 x) ((iShl .i64 1 (lGet x.2.2.1 (iNat 0) (0,0,false)).2.1),1,0)).2.2 (lLen (lSub x.2.2.1 (iNat 1) (lN x.2.2.1))))) (bAnd (bNot (bNot (v_impl_isSwitchEvent (lGet (lSub x.2.2.1 (iNat 1) (lN x.2.2.1)) (iNat (loopV (lc_impl_MatchCombo_1 x) (lf_impl_MatchCombo_1 x) ((iShl .i64 1 (lGet x.2.2.1 (iNat 0) (0,0,false)).2.1),1,0)).2.2) (0,0,false))))) (bOr (iGe (lGet (lSub x.2.2.1 (iNat 1) (lN x.2.2.1)) (iNat (loopV (lc_impl_MatchCombo_1 x) (lf_impl_MatchCombo_1 x) ((iShl .i64 1 (lGet x.2.2.1 (iNat 0) (0,0,false)).2.1),1,0)).2.2) (0,0,false)).1 (iAdd .i64 (lGet x.2.2.1 (iNat 0) (0,0,false)).1 x.2.1)) (bOr (bNot (lGet (lSub x.2.2.1 (iNat 1) (lN x.2.2.1)) (iNat (loopV (lc_impl_MatchCombo_1 x) (lf_impl_MatchCombo_1 x) ((iShl .i64 1 (lGet x.2.2.1 (iNat 0) (0,0,false)).2.1),1,0)).2.2) (0,0,false)).2.2) (bNot (v_impl_within (x.1,(iOr .i64 (loopV (lc_impl_MatchCombo_1 x) (lf_impl_MatchCombo_1 x) ((iShl .i64 1 (lGet x.2.2.1 (iNat 0) (0,0,false)).2.1),1,0)).1 (iShl .i64 1 (lGet (lSub x.2.2.1 (iNat 1) (lN x.2.2.1)) (iNat (loopV (lc_impl_MatchCombo_1 x) (lf_impl_MatchCombo_1 x) ((iShl .i64 1 (lGet x.2.2.1 (iNat 0) (0,0,false)).2.1),1,0)).2.2) (0,0,false)).2.1)))))))))=false→True)))))))))))):=(ou_impl_MatchCombo x).trans (by kernel_rfl)
end
theorem loop_two {X Y:Type} {c:X→Bool} {f:X→X} {p:X→Prop} {d:Y→Bool} {g:Y→Y} {q:Y→Prop} (R:X→Y→Prop) (m:X→Nat)
 (h:∀ x y,R x y→p x∧q y∧c x=d y∧(c x=true→R (f x) (g y)∧m (f x)<m x)) {x0:X} {y0:Y} (h0:R x0 y0) :
 LoopOk c f p x0∧LoopOk d g q y0∧R (loopV c f x0) (loopV d g y0)∧c (loopV c f x0)=false:=by
 have go:∀ (n:Nat) (x:X) (y:Y),m x<n→R x y→∃ u v,LoopTo c f p x u∧LoopTo d g q y v∧R u v∧c u=false:=by
  intro n
  induction n with
  |zero=>intro x y hm;exact absurd hm (Nat.not_lt_zero _)
  | succ n ih=>
    intro x y hm hR
    obtain⟨h1,h2,h3,h4⟩:=h x y hR
    cases hc:c x with
    |false=>exact⟨x,y,.stop h1 hc,.stop h2 (by rw[← h3];exact hc),hR,hc⟩
    | true=>
      obtain⟨h5,h6⟩:=h4 hc
      obtain⟨u,v,a1,a2,a3,a4⟩:=ih _ _ (by omega) h5
      exact⟨u,v,.go h1 hc a1,.go h2 (by rw[← h3];exact hc) a2,a3,a4⟩
 obtain⟨u,v,a1,a2,a3,a4⟩:=go _ x0 y0 (Nat.lt_succ_self _) h0
 exact⟨⟨_,a1⟩,⟨_,a2⟩,by rw[a1.val,a2.val];exact a3,by rw[a1.val];exact a4⟩
theorem scan_st{X:Type}{c:X→Bool}{f:X→X}{p:X→Prop}(n:Nat)(st:Nat→X)(t:Nat→Bool){x0:X}(h0:st 0=x0)(hc:∀ i,i≤n→(∀ j,j<i→t j=true)→c (st i)=(decide (i<n)&&t i))(hf:∀ i,i<n→(∀ j,j≤i→t j=true)→f (st i)=st (i+1))(hp:∀ i,i≤n→(∀ j,j<i→t j=true)→p (st i)) :
 LoopOk c f p x0∧∃ k,k≤n∧loopV c f x0=st k∧(k=n↔∀ i,i<n→t i=true):=by
 have hle:=firstAt_le (fun i=>!t i) n 0
 have hno:∀ j,j<firstAt (fun i=>!t i) n 0→t j=true:=fun j hj=>by
  have:=firstAt_no (fun i=>!t i) n 0 j (by omega) hj
  simpa using this
 have:=loop_for (c:=c) (f:=f) (p:=p) (firstAt (fun i=>!t i) n 0) st h0 (fun k hk=>by
  refine⟨hp k (by omega) (fun j hj=>hno j (by omega)),?_,hf k (by omega) (fun j hj=>hno j (by omega))⟩
  rw[hc k (by omega) (fun j hj=>hno j (by omega)),hno k hk]
  have:k<n:=by omega
  simp[this]) ⟨hp _ (by omega) hno,by
  rw[hc _ (by omega) hno]
  by_cases h:firstAt (fun i=>!t i) n 0<n
  · have:=firstAt_lt (fun i=>!t i) n 0 (by omega)
    simp only[Bool.not_eq_true'] at this
    rw[this];simp
  · simp[h]⟩
 refine⟨this.1,_,by omega,this.2,?_⟩
 rw[firstAt_all]
 simp
theorem shl_i64{a k:Nat}(hk:k≤64)(h:a*2^k<9223372036854775808):iShl .i64 (a:Int) (k:Int)=((a*2^k:Nat):Int):=by
 rw[iShl_u]
 show IntKind.i64.wrap ((a:Int)*2^min (k:Int).toNat 64)=_
 rw[Int.toNat_natCast,Nat.min_eq_left hk]
 have:((a:Int)*2^k)=((a*2^k:Nat):Int):=by norm_cast
 rw[this]
 exact wrap_i64 (by unfold In64;omega)
def Bytes(x:List Int):Prop:=∀ a∈x,0≤a∧a<256
theorem Bytes.get{x:List Int}(h:Bytes x)(i:Nat):∃ n:Nat,n<256∧x.getD i 0=(n:Int):=by
 by_cases hi:i<x.length
 · obtain⟨h0,h1⟩:=h _ (getD_mem x i 0 hi)
   exact⟨(x.getD i 0).toNat,by omega,by omega⟩
 · exact⟨0,by omega,by rw[List.getD_eq_getElem?_getD,List.getElem?_eq_none (by omega)];rfl⟩
theorem Bytes.of{x:List Int}(h:CT.wf (.sl (.one (.int .u8))) x):Bytes x:=by
 intro a ha
 have:=h.2 a ha
 simp only[RT.wf,CT.wf] at this
 have h:IntKind.u8.min≤a∧a≤IntKind.u8.max:=by simpa [Lit.wf] using this
 have e1:IntKind.u8.min=0:=by decide
 have e2:IntKind.u8.max=255:=by decide
 rw[e1,e2] at h
 omega
theorem switch_eq(e:Int×Int×Bool):v_spec_l11Switch e=v_impl_isSwitchEvent e:=by rw[ve_spec_l11Switch,ve_impl_isSwitchEvent,isEvent_eq]
theorem ok_switch(e:Int×Int×Bool):ok_spec_l11Switch e∧ok_impl_isSwitchEvent e:=by rw[oe_spec_l11Switch,oe_impl_isSwitchEvent];exact ok_isEvent e
theorem switch_key{e:Int×Int×Bool}(h:v_impl_isSwitchEvent e=true):0≤e.2.1:=by
 rw[ve_impl_isSwitchEvent,bAnd_eq,Bool.and_eq_true] at h
 exact isEvent_key h.1
theorem fits_eq(x:List (Int×Int)×Int):v_spec_l11Fits x=v_impl_within x:=by
 rw[ve_spec_l11Fits,ve_impl_within]
 have e1:lc_spec_l11Fits_1 x=lc_impl_within_1 x:=rfl
 have e2:lf_spec_l11Fits_1=lf_impl_within_1:=rfl
 rw[e1,e2]
theorem out_eq(x:List (Int×Int)×Int):v_spec_l11Out x=v_impl_wholeCombo x:=by
 rw[ve_spec_l11Out,ve_impl_wholeCombo]
 have e1:lc_spec_l11Out_1 x=lc_impl_wholeCombo_1 x:=rfl
 have e2:lf_spec_l11Out_1 x=lf_impl_wholeCombo_1 x:=by
  funext y
  have e:iEq x.2 (lGet x.1 (iNat y.2.2) (0,0)).1=iEq (lGet x.1 (iNat y.2.2) (0,0)).1 x.2:=by rw[iEq_eq,iEq_eq,decide_eq_decide];exact eq_comm
  simp only[lf_spec_l11Out_1,lf_impl_wholeCombo_1,e]
 rw[e1,e2]
theorem ok_fits(x:List (Int×Int)×Int)(h:x.1.length≤1048576):ok_spec_l11Fits x∧ok_impl_within x:=by
 rw[oe_spec_l11Fits,oe_impl_within]
 have k:∀ st:Int,0≤st→iLt st (lLen x.1)=true→((0≤st∧st<(x.1.length:Int))∧iNat st<x.1.length):=fun st h0 h1=>by
  rw[iLt_eq,lLen_eq,decide_eq_true_eq] at h1
  rw[iNat_eq];omega
 constructor
 · refine cnt_ok (fun st=>st) x.1.length (by omega) (fun st _ _ h=>?_) (fun _=>rfl) (fun i h0 h1=>⟨fun hlt=>k i h0 hlt,fun _=>trivial⟩) (by simp) (by simp)
   simp only[lc_spec_l11Fits_1,bAnd_eq,Bool.and_eq_true,iLt_eq,lLen_eq,decide_eq_true_eq] at h;exact h.1
 · refine cnt_ok (fun st=>st) x.1.length (by omega) (fun st _ _ h=>?_) (fun _=>rfl) (fun i h0 h1=>⟨fun hlt=>k i h0 hlt,fun _=>trivial⟩) (by simp) (by simp)
   simp only[lc_impl_within_1,bAnd_eq,Bool.and_eq_true,iLt_eq,lLen_eq,decide_eq_true_eq] at h;exact h.1
theorem ok_out(x:List (Int×Int)×Int)(h:x.1.length≤1048576):ok_spec_l11Out x∧ok_impl_wholeCombo x:=by
 rw[oe_spec_l11Out,oe_impl_wholeCombo]
 have k:∀ st:Int,0≤st→iLt st (lLen x.1)=true→((0≤st∧st<(x.1.length:Int))∧iNat st<x.1.length):=fun st h0 h1=>by
  rw[iLt_eq,lLen_eq,decide_eq_true_eq] at h1
  rw[iNat_eq];omega
 constructor
 · refine cnt_ok (fun st=>st.2.2) x.1.length (by omega) (fun st _ _ h=>?_) (fun _=>rfl) (fun i h0 h1=>⟨fun hlt=>?_,fun _=>trivial⟩) (by simp) (by simp)
   · simp only[lc_spec_l11Out_1,iLt_eq,lLen_eq,decide_eq_true_eq] at h;exact h
   · have q:=k _ h0 hlt
     exact⟨q.1,q.2,fun _=>q,fun _=>q⟩
 · refine cnt_ok (fun st=>st.2.2) x.1.length (by omega) (fun st _ _ h=>?_) (fun _=>rfl) (fun i h0 h1=>⟨fun hlt=>k _ h0 hlt,fun _=>trivial⟩) (by simp) (by simp)
   simp only[lc_impl_wholeCombo_1,iLt_eq,lLen_eq,decide_eq_true_eq] at h;exact h
theorem scan_every{P:Nat→Prop}{c:Int→Bool}{f:Int→Int}(n:Nat)(hn:n≤1048576)(hf:∀ i,f i=iAdd .i64 i 1)(hc:∀ i:Nat,c i=true→i<n∧P i)(h:(n:Int)≤loopV c f 0):∀ j,j<n→P j:=by
 have key:=loop_inv_v (c:=c) (f:=f) (fun st=>∃ i:Nat,st=i∧i≤n∧∀ j,j<i→P j) (fun st=>n-st.toNat) (fun st hI hc'=>?_) (x0:=0) ⟨0,rfl,Nat.zero_le _,fun j hj=>by omega⟩
 · obtain⟨⟨i,k1,k2,k3⟩,_⟩:=key
   rw[k1] at h
   exact fun j hj=>k3 j (by omega)
 · obtain⟨i,rfl,k2,k3⟩:=hI
   obtain⟨c1,c2⟩:=hc i hc'
   have e:f (i:Int)=((i+1:Nat):Int):=by rw[hf,iAdd_i64 (by unfold In64;omega)];omega
   rw[e]
   refine⟨⟨i+1,rfl,by omega,fun j hj=>?_⟩,by omega⟩
   by_cases hji:j=i
   · subst hji;exact c2
   · exact k3 j (by omega)
theorem combos_out{x:List (Int×Int)}(hl:x.length≤1048576)(h:v_impl_IsCombos x=true):∀ j,j<x.length→24≤(x.getD j (0,0)).2:=by
 rw[ve_impl_IsCombos] at h
 simp only[bAnd_eq,bNot_eq,Bool.and_eq_true,Bool.not_eq_true',iLt_eq _ (lLen x),lLen_eq x,decide_eq_false_iff_not] at h
 refine scan_every (P:=fun j=>24≤(x.getD j (0,0)).2) x.length hl (fun _=>rfl) (fun i hc=>?_) (Int.not_lt.mp (of_decide_eq_false ((iLt_eq _ _).symm.trans h.2)))
 simp only[bAnd_eq,bNot_eq,bOr_eq,iLt_eq,iGt_eq,Bool.and_eq_true,Bool.not_eq_true',Bool.or_eq_false_iff,decide_eq_true_eq,decide_eq_false_iff_not,lGet_eq,iNat_eq,Int.toNat_natCast] at hc
 exact⟨by omega,by omega⟩
theorem out_rng(x:List (Int×Int)×Int)(hl:x.1.length≤1048576)(ho:∀ j,j<x.1.length→24≤(x.1.getD j (0,0)).2):(v_impl_wholeCombo x).1=-1∨24≤(v_impl_wholeCombo x).1:=by
 rw[ve_impl_wholeCombo]
 have key:=loop_inv_v (c:=lc_impl_wholeCombo_1 x) (f:=lf_impl_wholeCombo_1 x) (fun st=>(∃ i:Nat,st.2.2=i∧i≤x.1.length)∧(st.1=-1∨24≤st.1)) (fun st=>x.1.length-st.2.2.toNat) (fun st hI hc=>?_) (x0:=((-1),false,0)) ⟨⟨0,rfl,Nat.zero_le _⟩,Or.inl rfl⟩
 · exact key.1.2
 · obtain⟨⟨i,k1,k2⟩,k3⟩:=hI
   obtain⟨o,b,n⟩:=st
   simp only at k1 k3
   subst k1
   simp only[lc_impl_wholeCombo_1,iLt_eq,lLen_eq,decide_eq_true_eq] at hc
   have hi:i<x.1.length:=by omega
   have e:iAdd .i64 (i:Int) 1=((i+1:Nat):Int):=by rw[iAdd_i64 (by unfold In64;omega)];omega
   simp only[lf_impl_wholeCombo_1,e,lGet_eq,iNat_eq,Int.toNat_natCast]
   refine⟨⟨⟨i+1,rfl,by omega⟩,?_⟩,by omega⟩
   rw[bSel_eq]
   split
   · exact Or.inr (ho i hi)
   · exact k3
def evM(q:List (Int×Int×Bool))(j:Nat):Int×Int×Bool:=q.getD (j+1) (0,0,false)
def MRel(q:List (Int×Int×Bool))(s:Int×Int)(t:Int×Int×Int):Prop:=s.1=t.1∧∃ j:Nat,j+1≤q.length∧s.2=((j+1:Nat):Int)∧t.2.1=((j+1:Nat):Int)∧t.2.2=(j:Int)
theorem rest_q(q:List (Int×Int×Bool)):lSub q (iNat 1) (lN q)=q.drop 1:=by
 have e:iNat 1=1:=by rw[iNat_eq];rfl
 rw[lSub_eq,lN_eq,e,List.take_of_length_le]
 rw[List.length_drop]
 exact Nat.le_refl _
theorem mat_idx{q:List (Int×Int×Bool)}{j:Nat}(hj:j+1≤q.length)(hq:q.length≤1048576) :
 lGet q (iNat ((j+1:Nat):Int)) (0,0,false)=evM q j∧lGet (q.drop 1) (iNat (j:Int)) (0,0,false)=evM q j ∧
 ∃ z:Bool,iEq ((j+1:Nat):Int) (lLen q)=!z∧iLt (j:Int) (lLen (q.drop 1))=z∧(z=true→((0:Int)≤((j+1:Nat):Int)∧((j+1:Nat):Int)<(q.length:Int))∧iNat ((j+1:Nat):Int)<q.length∧((0:Int)≤(j:Int)∧(j:Int)<((q.drop 1).length:Int))∧iNat (j:Int)<(q.drop 1).length∧j+2≤q.length):=by
 refine⟨by rw[lGet_eq,iNat_eq,Int.toNat_natCast];rfl,?_,?_⟩
 · rw[lGet_eq,iNat_eq,Int.toNat_natCast,List.getD_eq_getElem?_getD,List.getElem?_drop,evM,List.getD_eq_getElem?_getD,Nat.add_comm]
 · rw[iEq_eq,iLt_eq,lLen_eq,lLen_eq,List.length_drop]
   by_cases h:j+1=q.length
   · exact⟨false,by rw[decide_eq_true (by omega)];rfl,decide_eq_false (by omega),fun h=>by cases h⟩
   · refine⟨true,by rw[decide_eq_false (by omega)];rfl,decide_eq_true (by omega),fun _=>?_⟩
     simp only[iNat_eq,Int.toNat_natCast]
     omega
theorem mat_c(z A B D F O:Bool):bAnd (bNot (!z)) (bAnd (bNot (bNot A)) (bAnd (bNot B) (bAnd (bNot (bOr (bNot D) (bNot F))) O)))=bAnd z (bAnd (bNot (bNot A)) (bAnd (bNot (bOr B (bOr (bNot D) (bNot F)))) O)):=by
 simp only[bAnd_eq,bNot_eq,bOr_eq]
 cases z<;>cases A<;>cases B<;>cases D<;>cases F<;>rfl
theorem mat_loops(l:List (Int×Int))(term:Int)(q:List (Int×Int×Bool))(now:Int)(hl:l.length≤1048576)(hq:q.length≤1048576)(h1:1≤q.length)(x0:Int) :
 LoopOk (lc_spec_MatchCombo_1 (l,term,q,now)) (lf_spec_MatchCombo_1 (l,term,q,now)) (lp_spec_MatchCombo_1 (l,term,q,now)) (x0,1) ∧
 LoopOk (lc_impl_MatchCombo_1 (l,term,q,now)) (lf_impl_MatchCombo_1 (l,term,q,now)) (lp_impl_MatchCombo_1 (l,term,q,now)) (x0,1,0) ∧
 MRel q (loopV (lc_spec_MatchCombo_1 (l,term,q,now)) (lf_spec_MatchCombo_1 (l,term,q,now)) (x0,1)) (loopV (lc_impl_MatchCombo_1 (l,term,q,now)) (lf_impl_MatchCombo_1 (l,term,q,now)) (x0,1,0)):=by
 obtain⟨b1,b2,b3,_⟩:=loop_two (c:=lc_spec_MatchCombo_1 (l,term,q,now)) (f:=lf_spec_MatchCombo_1 (l,term,q,now)) (p:=lp_spec_MatchCombo_1 (l,term,q,now)) (d:=lc_impl_MatchCombo_1 (l,term,q,now)) (g:=lf_impl_MatchCombo_1 (l,term,q,now)) (q:=lp_impl_MatchCombo_1 (l,term,q,now)) (x0:=(x0,1)) (y0:=(x0,1,0)) (MRel q) (fun s=>q.length-s.2.toNat) (by
  rintro⟨s,n⟩ ⟨s',n',j'⟩ ⟨rfl,j,hj,rfl,rfl,rfl⟩
  obtain⟨e1,e2,z,z1,z2,z3⟩:=mat_idx hj hq
  have a1:iAdd .i64 ((j+1:Nat):Int) 1=((j+2:Nat):Int):=by rw[iAdd_i64 (by unfold In64;omega)];omega
  have a2:iAdd .i64 (j:Int) 1=((j+1:Nat):Int):=by rw[iAdd_i64 (by unfold In64;omega)];omega
  simp only[lc_spec_MatchCombo_1,lf_spec_MatchCombo_1,lp_spec_MatchCombo_1,lc_impl_MatchCombo_1,lf_impl_MatchCombo_1,lp_impl_MatchCombo_1,rest_q,e1,e2,z1,z2,switch_eq,fits_eq,out_eq,a1,a2,(ok_switch _).1,(ok_switch _).2,(ok_fits (l,_) hl).1,(ok_fits (l,_) hl).2,(ok_out (l,_) hl).1,(ok_out (l,_) hl).2]
  generalize evM q j=E
  refine⟨?_,?_,mat_c _ _ _ _ _ _,fun hc=>?_⟩
  · cases z with
    |false=>simp
    | true=>
      obtain⟨⟨y1,y2⟩,y3,_⟩:=z3 rfl
      clear z1 z2 z3 a1 a2 e1 e2
      generalize ((j+1:Nat):Int)=J at y1 y2 y3 ⊢
      cases hs:v_impl_isSwitchEvent E with
      |false=>simp[bNot_eq,y1,y2,y3]
      |true=>have hk:=switch_key hs;simp[bNot_eq,y1,y2,y3,hk]
  · cases z with
    |false=>simp
    | true=>
      obtain⟨⟨y1,y2⟩,y3,⟨y4,y5⟩,y6,_⟩:=z3 rfl
      clear z1 z2 z3 a1 a2 e1 e2
      generalize List.drop 1 q=R at y5 y6 ⊢
      cases hs:v_impl_isSwitchEvent E with
      |false=>simp[bNot_eq,y4,y5,y6]
      |true=>have hk:=switch_key hs;simp[bNot_eq,y4,y5,y6,hk]
  · rw[bAnd_eq,Bool.and_eq_true] at hc
    have hz:z=true:=by simpa [bNot_eq] using hc.1
    have hj2:=(z3 hz).2.2.2.2
    exact⟨⟨rfl,j+1,by omega,rfl,rfl,rfl⟩,by omega⟩) ⟨rfl,0,by omega,rfl,rfl,rfl⟩
 exact⟨b1,b2,b3⟩
theorem min_sel(a b:Int):iMin a b=bSel (iGe b a) a b:=by
 rw[iMin_u,bSel_eq,iGe_eq]
 by_cases h:b<a
 · rw[if_pos h,if_neg (by simp;omega)]
 · rw[if_neg h,if_pos (by simp;omega)]
theorem mat_v(z A B D F N N1:Bool)(O O' n m E en:Int)(hO:O=-1∨24≤O)(hN:z=false→N1=N) :
 bSel (bOr (bNot z) (bAnd (bNot (bNot A)) (bOr B (bOr (bNot D) (bNot F))))) (bSel (bAnd (bNot z) N1) (0,0,(-1)) (bSel (iGe O 0) (n,bSel z (bSel B en E) en,O) (1,bSel z (bSel B en E) en,(-1)))) (bSel (bNot A) (0,0,(-1)) (m,E,O'))=
 bSel (bSel (!z) (bNot N) (bAnd (bNot (bNot A)) (bOr B (bOr (bNot D) (bNot F))))) (bSel (iLt O 0) 1 n,bSel (!z) en (bSel B en E),O) (bSel (!z) (0,0,(-1)) (bSel (bNot A) (0,0,(-1)) (m,E,O'))):=by
 have h1:iGe O 0=!(iLt O 0):=by rw[iGe_eq,iLt_eq];by_cases h:O<0<;>simp[h]<;>omega
 have h2:iLt O 0=true→O=-1:=fun h=>by rw[iLt_eq,decide_eq_true_eq] at h;omega
 rw[h1]
 generalize iLt O 0=C at h2
 have hN2:bAnd (bNot z) N1=bAnd (bNot z) N:=by cases z with
  |false=>rw[hN rfl]
  |true=>rw[bNot_eq,bAnd_eq,bAnd_eq];rfl
 rw[hN2]
 clear hN2 hN
 simp only[bAnd_eq,bNot_eq,bOr_eq]
 cases C with
 |false=>cases z<;>cases A<;>cases B<;>cases D<;>cases F<;>cases N<;>simp[bSel_t,bSel_f]
 | true=>
   have h2:=h2 rfl
   subst h2
   cases z<;>cases A<;>cases B<;>cases D<;>cases F<;>cases N<;>simp[bSel_t,bSel_f]
theorem matchCombo_two(l:List (Int×Int))(term:Int)(q:List (Int×Int×Bool))(now:Int)(hl:l.length≤1048576)(hq:q.length≤1048576) :
 ok_spec_MatchCombo (l,term,q,now)∧ok_impl_MatchCombo (l,term,q,now)∧v_impl_MatchCombo (l,term,q,now)=v_spec_MatchCombo (l,term,q,now):=by
 rw[oe_spec_MatchCombo,oe_impl_MatchCombo,ve_spec_MatchCombo,ve_impl_MatchCombo]
 have g1:bNot (v_spec_l1In (term,1,200))=bOr (iLt term 1) (iGt term 200):=by
  rw[l1In_eq,bNot_eq,bOr_eq,iLt_eq,iGt_eq]
  by_cases h1:term<1<;>by_cases h2:200<term<;>simp[h1,h2]<;>omega
 have as:∀ a b c:Bool,bOr (bOr a b) c=bOr a (bOr b c):=fun a b c=>by simp only[bOr_eq,Bool.or_assoc]
 have c1:=ok_isCombos l hl
 simp only[isCombos_eq l hl,switch_eq,fits_eq,out_eq,rest_q,g1,as,c1.1,c1.2,(ok_switch _).1,(ok_switch _).2,(ok_fits (l,_) hl).1,(ok_fits (l,_) hl).2,(ok_out (l,_) hl).1,(ok_out (l,_) hl).2,ok_l1In,sel_same,min_sel]
 by_cases hq0:q.length=0
 · have t:iEq (lLen q) 0=true:=by rw[iEq_eq,lLen_eq,hq0];rfl
   have bt:∀ b,bOr true b=true:=fun b=>by rw[bOr_eq];rfl
   have tb:∀ b,bOr b true=true:=fun b=>by rw[bOr_eq,Bool.or_true]
   simp only[t,bt,tb,bSel_t]
   simp
 · have t:iEq (lLen q) 0=false:=by rw[iEq_eq,lLen_eq];exact decide_eq_false (by omega)
   have i0:(0:Int)<(q.length:Int):=by omega
   have i1:iNat 0<q.length:=by rw[iNat_eq];omega
   have i2:lN q=q.length:=lN_eq q
   have i3:iNat 1≤q.length:=by rw[iNat_eq];omega
   have i4:0<q.length:=by omega
   obtain⟨b1,b2,b3⟩:=mat_loops l term q now hl hq (by omega) (iShl .i64 1 (lGet q (iNat 0) (0,0,false)).2.1)
   simp only[b1,b2,t,i0,i1,i2,i3,i4]
   generalize loopV (lc_spec_MatchCombo_1 _) _ _=S at b3 ⊢
   generalize loopV (lc_impl_MatchCombo_1 _) _ _=T at b3 ⊢
   obtain⟨s,n⟩:=S
   obtain⟨s',n',j'⟩:=T
   obtain⟨rfl,j,hj,rfl,rfl,rfl⟩:=b3
   obtain⟨e1,e2,z,z1,z2,_⟩:=mat_idx hj hq
   simp only[e1,e2,z1,z2]
   generalize lGet q (iNat 0) (0,0,false)=Q
   generalize hG:bOr (bNot (v_impl_IsCombos l)) (bOr (iLt term 1) (bOr (iGt term 200) (bOr false (bOr (bNot (v_impl_isSwitchEvent Q)) (bNot Q.2.2)))))=G
   cases G with
   |true=>simp[bSel_t]
   | false=>
     simp only[bOr_eq,bNot_eq,Bool.or_eq_false_iff,Bool.not_eq_false'] at hG
     have hk:=switch_key hG.2.2.2.2.1
     have hO:=out_rng (l,s) hl (combos_out hl hG.1)
     refine⟨by simp[hk],by simp[hk],?_⟩
     rw[bSel_f,bSel_f]
     cases v_impl_within (l,iShl .i64 1 Q.2.1) with
     |false=>simp[bNot_eq,bSel_t]
     | true=>
       rw[show bNot true=false from by rw[bNot_eq];rfl,bSel_f,bSel_f]
       exact mat_v _ _ _ _ _ _ _ _ _ _ _ _ _ hO (fun hz=>by rw[hz,bSel_f])
end Go.Ag
