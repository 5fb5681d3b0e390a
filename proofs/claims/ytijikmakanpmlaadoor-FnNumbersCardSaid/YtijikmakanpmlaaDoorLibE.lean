/- Part 5 of what FnNumbers needs. No conditions. -/
import Derived.WalkKit
import Derived.ProofKit
import Derived.OpenShut
import Derived.Carry
import Derived.ChangeSame
import Derived.Attr
import Derived.KernelRfl
import Derived.Below
import Derived.Lib.Join
import Derived.Lib.Split
import Derived.Lib.Bytealg
import Derived.Lib.ItoaNum
import Derived.Lib.Atoi
import Derived.Sort.Grow
import Derived.Test.YtijikmakanpmlaaDoorLibD
namespace Go.Ag
set_option linter.unusedSimpArgs false
set_option linter.unusedVariables false
noncomputable section
theorem WG(d:DS)(c:Opnd)(t:Bool):ChgS d (setc d c t):=by
 cases c with
 |t g=>exact RU d g t
 |c v=>exact ChgS.refl d
theorem Yb{d:DS}{s:PS}{c:Opnd}{b:Bool}(hs:ES d s)(h:c.pev s.sl= .fl (.bool b)):ES (setc d c b) s:=by
 cases c with
 |t g=>exact X9 hs h
 |c v=>exact hs
theorem FG:∀ (c:DCode) (d:DS),(dev c d).All (ChgS d)
 |.skip,d=>ChgS.refl d
 |.region ops,d=>Sg ops d (ChgS.refl d)
 | .regionU ops,d=>by
   simp only[dev]
   split
   · exact Sg ops d (ChgS.refl d)
   · trivial
 | .seq l a b,d=>by
   refine DT.then_all (FG a d.clean) (fun st h=>?_) (fun st h=>h.rem)
   have h1:ChgS d (Iv d (Qq l st)):=(h.trans (ft l st)).rem
   exact DT.All.imp (fun _ h2=>h1.trans h2) (FG b _)
 | .cond c a b,d=>by
   simp only[dev]
   cases hc:c.dev d.sl with
   | bool t=>
     cases t with
     |lit t=>cases t<;>first|exact FG a d|exact FG b d
     |dyn t=>exact⟨DT.All.imp (fun _ h=>(WG d c true).trans h) (FG a _),DT.All.imp (fun _ h=>(WG d c false).trans h) (FG b _)⟩
   |_=>trivial
 |.block i a,d=>DT.unexit_all i (FG a d)
 |.loop live n a,d=>gu (fun d=>FG a d.clean) d
 |.exit i,d=>ChgS.refl d
 |.ret,d=>ChgS.refl d
theorem EI:∀ (c:DCode),AllD c.obs→∀ {d d':DS} {s:PS} {e:AExit} {k:Eb},ES d s→(dev c d).ok.den→(dev c d).lf=some (e,d')→(∀ s',ES d' s'→k e s')→EZ c.er k s
 | .skip,_,d,d',s,e,k,hs,hok,hl,hk=>by
   simp only[dev,DT.lf,Ah,Aj] at hl
   obtain⟨rfl,rfl⟩:=hl
   exact hk s hs
 | .region ops,ho,d,d',s,e,k,hs,hok,hl,hk=>by
   have he:=YI ops hl
   subst he
   exact Tn ops ho rfl hk d s hs hok hl
 | .regionU ops,ho,d,d',s,e,k,hs,hok,hl,hk=>by
   simp only[dev] at hok hl
   split at hok
   · rename_i hp
     rw[Ab hp] at hl
     have he:=YI ops hl
     subst he
     exact⟨hp,Tn ops ho rfl hk d s hs hok hl⟩
   · exact hok.elim
 | .seq l a b,ho,d,d',s,e,k,hs,hok,hl,hk=>by
   obtain⟨h1,h2⟩:=ho.app
   obtain⟨hoa,hc⟩:=DT.then_s (FG a d.clean) hok hl
   simp only[DCode.er,EZ]
   rcases hc with⟨st0,m,hla,hm,hch,hob,hlb⟩|⟨he,st0,hla,rfl⟩
   · refine EI a h1 hs.clean hoa hla fun s' hs'=>?_
     exact EI b h2 (((hm s' hs').trim l).rem) hob hlb hk
   · refine EI a h1 hs.clean hoa hla fun s' hs'=>?_
     cases e<;>first|(cases he;done)|exact hk s' hs'.rem
 | .cond c a b,ho,d,d',s,e,k,hs,hok,hl,hk=>by
   obtain⟨h1,h2⟩:=ho.app
   have hv:=c.dev_ev hs
   simp only[dev] at hok hl
   simp only[DCode.er,EZ]
   cases hc:c.dev d.sl with
   | bool t=>
     rw[hc] at hok hl hv
     have hp:=hv.of (by simp)
     simp only[DV.enc] at hp
     rw[hp]
     simp only
     cases t with
     | lit t=>
       cases t with
       |true=>exact EI a h1 hs hok hl hk
       |false=>exact EI b h2 hs hok hl hk
     | dyn t=>
       have hok:=(PX.if_den _ _ _).mp hok
       cases t with
       |true=>exact EI a h1 (Yb hs hp) (hok.1 rfl) hl hk
       |false=>exact EI b h2 (Yb hs hp) (hok.2 rfl) hl hk
   |_=>rw[hc] at hok;exact hok.elim
 | .block i a,ho,d,d',s,e,k,hs,hok,hl,hk=>by
   simp only[dev,DT.unexit_ok,DT.unexit_lf] at hok hl
   obtain⟨e0,d0,h0⟩:=DT.ok_lf hok
   rw[h0] at hl
   simp only[Bw,Ah,Aj] at hl
   obtain⟨rfl,rfl⟩:=hl
   refine EI a ho hs hok h0 fun s' hs'=>?_
   have:=hk s' hs'
   cases e0 with
   |normal=>exact this
   |ret=>exact this
   | exit j=>
     simp only[Ss]
     simp only[AExit.un] at this
     split
     · rename_i hj;rw[Ab hj] at this;exact this
     · rename_i hj;rw[Ad hj] at this;exact this
 | .loop live n a,ho,d,d',s,e,k,hs,hok,hl,hk=>by
   simp only[dev] at hok hl
   exact jO (fun d=>FG a d.clean) (fun d s e d' k hs hok hl hk=>EI a ho hs.clean hok hl hk) hs hok hl hk
 | .exit i,_,d,d',s,e,k,hs,hok,hl,hk=>by
   simp only[dev,DT.lf,Ah,Aj] at hl
   obtain⟨rfl,rfl⟩:=hl
   exact hk s hs
 | .ret,_,d,d',s,e,k,hs,hok,hl,hk=>by
   simp only[dev,DT.lf,Ah,Aj] at hl
   obtain⟨rfl,rfl⟩:=hl
   exact hk s hs
mutual
def DV.flt:DV→Bool
 |.bool _|.int _ _|.str _|.ifc _=>true
 |.agg cs=>DV.fltL cs
 |.tup vs=>DV.fltL vs
 |_=>false
def DV.fltL:List DV→Bool
 |[]=>true
 |v::r=>v.flt&&DV.fltL r
end
mutual
theorem SA:∀ (v:DV),v.flt=true→v.enc.flt=true
 |.bool _,_|.int _ _,_|.str _,_|.ifc _,_=>rfl
 |.agg cs,h=>Se cs h
 |.tup cs,h=>Se cs h
theorem Se:∀ (l:List DV),DV.fltL l=true→PV.fltL (DV.encL l)=true
 |[],_=>rfl
 | v::r,h=>by
   simp only[DV.fltL,Ai] at h
   simp only[DV.encL,PV.fltL,SA v h.1,Se r h.2,B9]
end
theorem R7:∀ (l:List DV),Gr l=true→DV.okL l=true
 |[],_=>rfl
 | v::r,h=>by
   simp only[Gr,Ai] at h
   have:v.ok=true:=by cases v<;>first|rfl|(have:=h.1;cases this)
   simp only[DV.okL,this,R7 r h.2,B9]
theorem EBx.segm2{a:List DC}{b:List PV}{o n:Nat}(h:EBx a b)(hl:o+n≤a.length)(hk:DV.okL (Bp (A4 a) o n)=true):Go.Ag.segm b o n=DV.encL (Bp (A4 a) o n)∧o+n≤b.length:=by
 rcases h with rfl|h
 · simp only[AY,Nat.le_zero_eq,Nat.add_eq_zero_iff] at hl;obtain⟨rfl,rfl⟩:=hl;refine⟨?_,Ig _⟩;cases b<;>rfl
 · exact⟨h.segm o n hk,by rw[← h.len];exact hl⟩
theorem R4{st st':DS}{s:PS}{r:ARes}{v:DV}(hs:ES st s)(h:He st r=some (v,st'))(hv:v.ok=true):∃ s',Gj s r=some (v.enc,s')∧ES st' s':=by
 cases r with
 | tmp t=>
   simp only[He] at h;split at h
   · rename_i hc;simp only[Ai] at hc;simp only[Ah] at h
     have hk:(AG (.t t) st).1.ok=true:=by
      have:(AG (.t t) st).1=v:=by simp only[AG,h]
      rw[this];exact hv
     obtain⟨m1,m2⟩:=Dl (.t t) hs hk
     have hne:AR st.sl t≠.any:=by intro e;rw[e] at hc;cases hc.2
     have hp:=(hs.sl.get t).of hne;simp only[AG,h,mvOut] at m1 m2;refine⟨(Dz (Aa s.sl t) t s).2,?_,m2⟩;simp only[Gj];rw[Ab (by rw[hp];exact fY _ hc.1),← m1]
   · cases h
 | cell t n=>
   simp only[He] at h;have hp:=hs.sl.get t
   cases hv:AR st.sl t with
   | box i o=>
     rw[hv] at h hp;have hp:=hp.of (by simp);simp only at h;split at h
     · rename_i hc;simp only[Ai] at hc;simp only[Be] at h;obtain⟨⟨g,r⟩,h1,h2⟩:=h;simp only at h2;subst h2;obtain⟨e1,e2⟩:=(hs.bx.get i).segm2 (BR hc.1) (R7 _ hc.2)
       have hg:g= .tt:=by
        unfold Jh at h1;simp only[Az] at h1;split at h1
        · simp only[Be,Aj] at h1;obtain⟨_,_,rfl,_⟩:=h1;rfl
        · cases h1
       subst hg;obtain⟨s',e3,e4⟩:=Vk (p:=.box i o) hs (.inr rfl) h1;refine⟨s',?_,e4⟩;simp only[Gj,hp,DV.enc];rw[Ab ⟨e2,by rw[e1];exact Po _ hc.2⟩];exact e3
     · cases h
   | ptr i o=>
     rw[hv] at h hp;have hp:=hp.of (by simp);simp only at h;split at h
     · rename_i hc;simp only[Ai] at hc;simp only[Be] at h;obtain⟨⟨g,r⟩,h1,h2⟩:=h;simp only at h2;subst h2;obtain⟨e1,e2⟩:=(hs.hp.get i).segm2 (BR hc.1) (R7 _ hc.2)
       have hg:g= .tt∧i<st.hp.length:=by
        unfold Ia at h1;simp only[Az] at h1;split at h1
        · rename_i hb;simp only[Ai] at hb;simp only[Be,Aj] at h1;obtain⟨_,_,rfl,_⟩:=h1;exact⟨rfl,BR hb.1.1⟩
        · cases h1
       obtain⟨rfl,hi⟩:=hg;obtain⟨s',e3,e4⟩:=Vi (p:=.ptr i o) hs (.inr rfl) h1 trivial;refine⟨s',?_,e4⟩;simp only[Gj,hp,DV.enc];rw[Ab ⟨by rw[← hs.hp.len];exact hi,e2,by rw[e1];exact Po _ hc.2⟩];exact e3
     · cases h
   |_=>rw[hv] at h;cases h
theorem RL:∀ {res:List ARes} {st st':DS} {s:PS} {vs:List DV},ES st s→FF st res=some (vs,st')→DV.okL vs=true→∃ s',FB s res=some (DV.encL vs,s')∧ES st' s'
 | [],st,st',s,vs,hs,h,_=>by
   simp only[FF,Ah,Aj] at h
   obtain⟨rfl,rfl⟩:=h
   exact⟨s,rfl,hs⟩
 | r :: rs,st,st',s,vs,hs,h,hk=>by
   simp only[FF] at h
   split at h
   · rename_i v st1 h1
     split at h
     · rename_i vs1 st2 h2
       simp only[Ah,Aj] at h
       obtain⟨rfl,rfl⟩:=h
       simp only[DV.okL,Ai] at hk
       obtain⟨s1,e1,e2⟩:=R4 hs h1 hk.1
       obtain⟨s2,e3,e4⟩:=RL e2 h2 hk.2
       exact⟨s2,by simp only[FB,e1,e3,DV.encL],e4⟩
     · cases h
   · cases h
theorem XA:∀ {res:List ARes} {st:DS} {s:PS} {v:DV},ES st s→EF st res=some v→v.ok=true→∃ s',Gs s res=some (v.enc,s'):=by
 have gen:∀ {res:List ARes} {st:DS} {s:PS} {v:DV},ES st s→v.ok=true→(FF st res).map (fun x=>DV.tup x.1)=some v→∃ s',(FB s res).map (fun(vs,st)=>(PV.tup vs,st))=some (v.enc,s'):=fun hs hv h=>by
  simp only[Be] at h;obtain⟨⟨vs,st'⟩,h1,rfl⟩:=h;obtain⟨s',e1,_⟩:=RL hs h1 hv;exact⟨s',by rw[e1];rfl⟩
 intro res st s v hs h hv
 cases res with
 |nil=>exact gen (res:=[]) hs hv h
 | cons r rs=>
   cases rs with
   | nil=>
     simp only[EF,Be] at h;obtain⟨⟨v',st'⟩,h1,rfl⟩:=h;obtain⟨s',e1,_⟩:=R4 hs h1 hv;exact⟨s',e1⟩
   |cons r2 rs=>exact gen (res:=r::r2::rs) hs hv h
theorem Le {res:List ARes}:∀ {t:DT} {g:PX} {v:DV},t.val res=(g,some v)→v≠.any→g.den →
 t.ok.den∧∃ e st v0,t.lf=some (e,st)∧(∀ i,e≠.exit i)∧EF st res=some v0∧v0.ok=true∧v.enc=v0.enc
 | .leaf e st,g,v,h,hv,hg=>by
   have gen:(match EF st res with|some v=>if (v.ok&&!v.hasPtr)=true then (PX.tt,some v) else (PX.ff,none)|none=>(PX.ff,none))=(g,some v)→EF st res=some v∧v.ok=true:=fun h=>by
    split at h
    · split at h
      · rename_i h1 h2;simp only[Aj,Ah] at h;obtain⟨_,rfl⟩:=h;simp only[Ai] at h2;exact⟨h1,h2.1⟩
      · simp at h
    · simp at h
   cases e with
   |exit i=>simp[DT.val] at h
   |normal=>obtain⟨h1,h2⟩:=gen h;exact⟨trivial,.normal,st,v,rfl,by simp,h1,h2,rfl⟩
   |ret=>obtain⟨h1,h2⟩:=gen h;exact⟨trivial,.ret,st,v,rfl,by simp,h1,h2,rfl⟩
 | .node c a b,g,v,h,hv,hg=>by
   simp only[DT.val] at h
   have hno:∀ {t:DT} {g:PX},t.val res=(g,none)→¬ g.den:=by
    intro t
    induction t with
    | leaf e st=>
      intro g h;cases e<;>simp only[DT.val] at h<;>(repeat' split at h)<;>simp only[Aj,reduceCtorEq,and_false,KG] at h<;>subst h<;>exact id
    | node c x y ih1 ih2=>
      intro g h hg;simp only[DT.val] at h
      cases h1:x.val res with
      | mk g1 v1=>
        cases h2:y.val res with
        | mk g2 v2=>
          rw[h1,h2] at h
          cases v1 with
          | none=>
            simp only[Aj] at h;obtain⟨rfl,rfl⟩:=h;have:=(PX.if_den _ _ _).mp hg
            cases c with
            |true=>exact ih1 h1 (this.1 rfl)
            |false=>exact ih2 h2 (this.2 rfl)
          |some v1=>cases v2<;>simp at h
    | chk g0 t ih=>
      intro g h hg;simp only[DT.val] at h
      cases h1:t.val res with
      | mk g1 v1=>
        rw[h1] at h;simp only[Aj] at h;obtain⟨rfl,rfl⟩:=h;exact ih h1 ((PX.land_den _ _).mp hg).2
    | bad=>
      intro g h;simp only[DT.val,Aj,KG] at h;subst h;exact id
   cases h1:a.val res with
   | mk g1 v1=>
     cases h2:b.val res with
     | mk g2 v2=>
       rw[h1,h2] at h
       have fin:∀ (v1 v2:DV),g=PX.if' c g1 g2→a.val res=(g1,some v1)→b.val res=(g2,some v2)→v=Ca c v1 v2→(DT.node c a b).ok.den∧∃ e st v0,(DT.node c a b).lf=some (e,st)∧(∀ i,e≠.exit i)∧EF st res=some v0∧v0.ok=true∧v.enc=v0.enc:=by
        intro v1 v2 hgg h1 h2 hvv;subst hgg;have hg:=(PX.if_den _ _ _).mp hg;have he:=(PM c v1 v2).resolve_left (by rw[← hvv];exact hv);rw[← hvv] at he
        have n1:v1≠.any:=by rintro rfl;apply hv;rw[hvv];cases v2<;>rfl
        have n2:v2≠.any:=by rintro rfl;apply hv;rw[hvv];cases v1<;>rfl
        show (PX.if' c a.ok b.ok).den∧∃ e st v0,(DT.node c a b).lf=some (e,st)∧(∀ i,e≠.exit i)∧EF st res=some v0∧v0.ok=true∧v.enc=v0.enc;rw[PX.if_den]
        cases c with
        | true=>
          obtain⟨k1,e,st,v0,k2,k3,k4,k5,k6⟩:=Le h1 n1 (hg.1 rfl);exact⟨⟨fun _=>k1,fun h=>by cases h⟩,e,st,v0,k2,k3,k4,k5,by rw[he];exact k6⟩
        | false=>
          obtain⟨k1,e,st,v0,k2,k3,k4,k5,k6⟩:=Le h2 n2 (hg.2 rfl);exact⟨⟨fun h=>(by cases h),fun _=>k1⟩,e,st,v0,k2,k3,k4,k5,by rw[he];exact k6⟩
       cases v1 with
       | none=>
         simp only[Aj] at h;obtain⟨rfl,rfl⟩:=h;have hg:=(PX.if_den _ _ _).mp hg;show (PX.if' c a.ok b.ok).den∧_;rw[PX.if_den]
         cases c with
         |true=>exact absurd (hg.1 rfl) (hno h1)
         | false=>
           obtain⟨k1,e,st,v0,k2,k3,k4,k5,k6⟩:=Le h2 hv (hg.2 rfl);exact⟨⟨fun h=>(by cases h),fun _=>k1⟩,e,st,v0,k2,k3,k4,k5,k6⟩
       | some v1=>
         cases v2 with
         | none=>
           simp only[Aj,Ah] at h;obtain⟨rfl,rfl⟩:=h;have hg:=(PX.if_den _ _ _).mp hg;show (PX.if' c a.ok b.ok).den∧_;rw[PX.if_den]
           cases c with
           |false=>exact absurd (hg.2 rfl) (hno h2)
           | true=>
             obtain⟨k1,e,st,v0,k2,k3,k4,k5,k6⟩:=Le h1 hv (hg.1 rfl);exact⟨⟨fun _=>k1,fun h=>by cases h⟩,e,st,v0,k2,k3,k4,k5,k6⟩
         | some v2=>
           simp only[Aj,Ah] at h;exact fin v1 v2 h.1.symm h1 h2 h.2.symm
 | .chk g0 t,g,v,h,hv,hg=>by
   simp only[DT.val] at h
   cases h1:t.val res with
   | mk g1 v1=>
     rw[h1] at h;simp only[Aj] at h;obtain⟨rfl,rfl⟩:=h;have hg:=(PX.land_den _ _).mp hg;obtain⟨k1,k2⟩:=Le h1 hv hg.2;exact⟨(PX.land_den _ _).mpr ⟨hg.1,k1⟩,k2⟩
 |.bad,g,v,h,hv,hg=>by simp[DT.val] at h
theorem EL.append:∀ {a:List DC} {b:List PV} {c:List DC} {d:List PV},EL a b→EL c d→EL (a++c) (b++d)
 |[],[],_,_,_,h=>h
 |_::_,_::_,_,_,h,h'=>⟨h.1,EL.append h.2 h'⟩
theorem Mh:∀ (n:Nat),EL (Ev n) (FR n)
 |0=>trivial
 |n+1=>⟨.inl rfl,Mh n⟩
theorem Mm:∀ (n:Nat),EB (Ew n) (Ho n)
 |0=>trivial
 |n+1=>⟨.inl rfl,Mm n⟩
theorem dT {f:DFun} (ho:AllD f.body.obs) {args:List DV} {g:PX} {v:DV} (h:Np f args=(g,some v)) (hg:g.den) (hv:v≠.any) (hl:args.length=f.nparams) (hp:f.pure=true→v.flt=true)
 {Q:PV→List (List PV)→Prop} (hQ:∀ H,Q v.enc H):CF f.er (DV.encL args) [] Q:=by
 unfold Np at h
 obtain⟨hok,e,st,v0,h1,h2,h3,h4,h5⟩:=Le h hv hg
 refine⟨by rw[Dm];exact hl,fun _=>rfl,?_⟩
 refine EI f.body ho (d:=⟨news args++Ev (f.nslots-f.nparams),Ew f.nbox,[]⟩) ⟨(EL.news args).append (Mh _),Mm _,trivial⟩ hok h1 fun s' hs'=>?_
 obtain⟨s2,e2⟩:=XA hs' h3 h4
 rw[← h5] at e2
 have fin:(match Gs s' f.res with|some (v,st)=>if f.pure=true then v.flt=true∧Q v [] else Q v st.hp|none=>False):=by
  rw[e2];simp only;split
  · rename_i hpu;exact⟨SA v (hp hpu),hQ _⟩
  · exact hQ _
 cases e with
 |normal=>exact fin
 |ret=>exact fin
 |exit i=>exact absurd rfl (h2 i)
def TuX:List HT→Type
 |[]=>Unit
 |[a]=>a.D
 |a::r=>a.D×TuX r
def DX:(l:List HT)→List DV→Option (TuX l)
 |[],[]=>some ()
 |[a],[v]=>a.of v
 | a::b::r,v::vs=>(match a.of v,DX (b::r) vs with
   |some x,some y=>some (x,y)
   |_,_=>none)
 |_,_=>none
def Ck:(l:List HT)→TuX l→List DV
 |[],_=>[]
 |[a],x=>[a.dv x]
 |a::b::r,x=>a.dv x.1::Ck (b::r) x.2
inductive QT where
 |one (h:HT)|tup (l:List HT)
def QT.D:QT→Type
 |.one h=>h.D
 |.tup l=>TuX l
def QT.of:(q:QT)→DV→Option q.D
 |.one h,v=>h.of v
 |.tup l,.tup vs=>DX l vs
 |.tup _,_=>none
def QT.dv:(q:QT)→q.D→DV
 |.one h,x=>h.dv x
 |.tup l,x=>.tup (Ck l x)
def QT.ofO(q:QT):Option DV→Option q.D
 |some v=>q.of v
 |none=>none
def P9:(l:List (Ql×CT))→AgX l
 |[]=>()
 |[a]=>a.2.dflt
 |a::b::r=>(a.2.dflt,P9 (b::r))
def HT.dflt:(h:HT)→h.D
 |.one _ t=>t.dflt
 |.agg l=>P9 l
def Yo:(l:List HT)→TuX l
 |[]=>()
 |[a]=>a.dflt
 |a::b::r=>(a.dflt,Yo (b::r))
def QT.dflt:(q:QT)→q.D
 |.one h=>h.dflt
 |.tup l=>Yo l
def HT.flt:HT→Bool
 |.one _ t=>t.flat
 |.agg l=>l.all fun a=>a.2.flat
def QT.flt:QT→Bool
 |.one h=>h.flt
 |.tup l=>l.all HT.flt
theorem K6:∀ {l:List HT} {vs:List DV} {x:TuX l},DX l vs=some x→DV.encL (Ck l x)=DV.encL vs
 |[],[],_,_=>rfl
 | [a],[v],x,h=>by
   show [(a.dv x).enc]=[v.enc]
   rw[(M7 (t:=a) h).1]
 | a :: b::r,v::vs,x,h=>by
   have h':(match a.of v,DX (b::r) vs with|some x,some y=>some (x,y)|_,_=>none)=some x:=h
   clear h
   cases h1:a.of v with
   |none=>rw[h1] at h';cases h'
   | some p=>
     cases h2:DX (b::r) vs with
     |none=>rw[h1,h2] at h';cases h'
     | some q=>
       rw[h1,h2] at h'
       have h':=BQ h'
       subst h'
       show (a.dv p).enc::DV.encL (Ck (b::r) q)=v.enc::DV.encL vs
       rw[(M7 h1).1,K6 h2]
theorem TW{q:QT}{v:DV}{x:q.D}(h:q.of v=some x):(q.dv x).enc=v.enc∧v≠.any:=by
 cases q with
 |one t=>exact M7 (t:=t) h
 | tup l=>
   cases v<;>try (cases h;done)
   rename_i cs;refine⟨?_,by simp⟩;show PV.tup _=PV.tup _;rw[K6 (l:=l) h]
theorem KD:∀ (l:List HT) (x:TuX l),(Ck l x).length=l.length
 |[],_=>rfl
 |[_],_=>rfl
 | a::b::r,x=>by
   show (Ck (b::r) x.2).length+1=(b::r).length+1
   rw[KD (b::r) x.2]
theorem S7{q:Ql}{t:CT}{v:DV}{x:t.D}(hf:t.flat=true)(h:t.ofQ q v=some x):v.flt=true:=by
 cases t<;>first|(cases hf;done)|skip
 all_goals (cases v<;>first|rfl|(cases h;done))
theorem Yx:∀ {l:List (Ql×CT)} {vs:List DV} {x:AgX l},l.all (fun a=>a.2.flat)=true→Dw l vs=some x→DV.fltL vs=true
 |[],[],_,_,_=>rfl
 | [a],[v],x,hf,h=>by
   simp only[Ea,List.all_nil,Jr] at hf
   simp only[DV.fltL,S7 (q:=a.1) hf h,B9]
 | a :: b::r,v::vs,x,hf,h=>by
   have h':(match a.2.ofQ a.1 v,Dw (b::r) vs with|some x,some y=>some (x,y)|_,_=>none)=some x:=h
   clear h
   rw[Ea,Ai] at hf
   cases h1:a.2.ofQ a.1 v with
   |none=>rw[h1] at h';cases h'
   | some p=>
     cases h2:Dw (b::r) vs with
     |none=>rw[h1,h2] at h';cases h'
     |some q=>simp only[DV.fltL,S7 hf.1 h1,Yx hf.2 h2,B9]
theorem TL{t:HT}{v:DV}{x:t.D}(hf:t.flt=true)(h:t.of v=some x):v.flt=true:=by
 cases t with
 |one q t=>exact S7 (q:=q) (t:=t) hf h
 | agg l=>
   cases v<;>try (cases h;done)
   exact Yx (l:=l) hf h
theorem Yh:∀ {l:List HT} {vs:List DV} {x:TuX l},l.all HT.flt=true→DX l vs=some x→DV.fltL vs=true
 |[],[],_,_,_=>rfl
 | [a],[v],x,hf,h=>by
   simp only[Ea,List.all_nil,Jr] at hf
   simp only[DV.fltL,TL (t:=a) hf h,B9]
 | a :: b::r,v::vs,x,hf,h=>by
   have h':(match a.of v,DX (b::r) vs with|some x,some y=>some (x,y)|_,_=>none)=some x:=h
   clear h
   rw[Ea,Ai] at hf
   cases h1:a.of v with
   |none=>rw[h1] at h';cases h'
   | some p=>
     cases h2:DX (b::r) vs with
     |none=>rw[h1,h2] at h';cases h'
     |some q=>simp only[DV.fltL,TL hf.1 h1,Yh hf.2 h2,B9]
theorem YA{q:QT}{v:DV}{x:q.D}(hf:q.flt=true)(h:q.of v=some x):v.flt=true:=by
 cases q with
 |one t=>exact TL (t:=t) hf h
 | tup l=>
   cases v<;>try (cases h;done)
   exact Yh (l:=l) hf h
def Il(hs:List HT)(q:QT)(ok:TuX hs→Prop)(v:TuX hs→q.D):ER:=fun args=>match DX hs args with
 |some x=>some (.p (ok x),q.dv (v x))
 |none=>none
def DT.valQ(q:QT)(res:List ARes):DT→PX×Option q.D
 |.leaf (.exit _) _=>(.ff,none)
 | .leaf _ st=>(match EF st res with
   | some v=>if v.ok&&!v.hasPtr then (match q.of v with
     |some y=>(.tt,some y)
     |none=>(.ff,none)) else (.ff,none)
   |none=>(.ff,none))
 | .node c a b=>(match a.valQ q res,b.valQ q res with
   |(g,none),(g',y)=>(PX.if' c g g',y)
   |(g,x),(g',none)=>(PX.if' c g g',x)
   |(g,some x),(g',some y)=>(PX.if' c g g',some (bSel c x y)))
 | .chk g t=>(match t.valQ q res with
   |(g',v)=>(g.land g',v))
 |.bad=>(.ff,none)
theorem L6{q:QT}{res:List ARes}:∀ {t:DT} {g:PX},t.valQ q res=(g,none)→¬ g.den
 | .leaf e st,g,h=>by
   cases e<;>simp only[DT.valQ] at h<;>(repeat' split at h)<;>simp only[Aj,reduceCtorEq,and_false,KG] at h<;>subst h<;>exact id
 | .node c x y,g,h=>by
   intro hg
   simp only[DT.valQ] at h
   cases h1:x.valQ q res with
   | mk g1 v1=>
     cases h2:y.valQ q res with
     | mk g2 v2=>
       rw[h1,h2] at h
       cases v1 with
       | none=>
         simp only[Aj] at h
         obtain⟨rfl,rfl⟩:=h
         have:=(PX.if_den _ _ _).mp hg
         cases c with
         |true=>exact L6 h1 (this.1 rfl)
         |false=>exact L6 h2 (this.2 rfl)
       |some v1=>cases v2<;>simp at h
 | .chk g0 t,g,h=>by
   intro hg
   simp only[DT.valQ] at h
   cases h1:t.valQ q res with
   | mk g1 v1=>
     rw[h1] at h
     simp only[Aj] at h
     obtain⟨rfl,rfl⟩:=h
     exact L6 h1 ((PX.land_den _ _).mp hg).2
 | .bad,g,h=>by
   simp only[DT.valQ,Aj,KG] at h
   subst h;exact id
theorem PZ{q:QT}{res:List ARes}:∀ {t:DT} {g:PX} {y:q.D},t.valQ q res=(g,some y)→g.den →
 t.ok.den∧∃ e st v0,t.lf=some (e,st)∧(∀ i,e≠.exit i)∧EF st res=some v0∧v0.ok=true∧q.of v0=some y
 | .leaf e st,g,y,h,hg=>by
   have gen:(match EF st res with|some v=>if (v.ok&&!v.hasPtr)=true then (match q.of v with|some y=>(PX.tt,some y)|none=>(PX.ff,none)) else (PX.ff,none)|none=>(PX.ff,none))=(g,some y)→∃ v,EF st res=some v∧v.ok=true∧q.of v=some y:=fun h=>by
    split at h
    · rename_i v hv;split at h
      · rename_i hc;simp only[Ai] at hc;split at h
        · rename_i y' hy;simp only[Aj,Ah] at h;obtain⟨_,rfl⟩:=h;exact⟨v,hv,hc.1,hy⟩
        · simp at h
      · simp at h
    · simp at h
   cases e with
   |exit i=>simp[DT.valQ] at h
   |normal=>obtain⟨v,h1,h2,h3⟩:=gen h;exact⟨trivial,.normal,st,v,rfl,by simp,h1,h2,h3⟩
   |ret=>obtain⟨v,h1,h2,h3⟩:=gen h;exact⟨trivial,.ret,st,v,rfl,by simp,h1,h2,h3⟩
 | .node c a b,g,y,h,hg=>by
   simp only[DT.valQ] at h;show (PX.if' c a.ok b.ok).den∧∃ e st v0,(DT.node c a b).lf=some (e,st)∧(∀ i,e≠.exit i)∧EF st res=some v0∧v0.ok=true∧q.of v0=some y;rw[PX.if_den]
   cases h1:a.valQ q res with
   | mk g1 v1=>
     cases h2:b.valQ q res with
     | mk g2 v2=>
       rw[h1,h2] at h
       have hgg:g=PX.if' c g1 g2:=by
        cases v1<;>cases v2<;>simp only[Aj] at h<;>exact h.1.symm
       subst hgg;have hg:=(PX.if_den _ _ _).mp hg
       cases c with
       | true=>
         have:v1=some y:=by
          cases v1 with
          |none=>exact absurd (hg.1 rfl) (L6 h1)
          |some v1=>cases v2<;>simp only[Aj,Hh] at h<;>exact h.2
         subst this;obtain⟨k1,k2⟩:=PZ h1 (hg.1 rfl);exact⟨⟨fun _=>k1,fun h=>by cases h⟩,k2⟩
       | false=>
         have:v2=some y:=by
          cases v2 with
          |none=>exact absurd (hg.2 rfl) (L6 h2)
          |some v2=>cases v1<;>simp only[Aj,FN] at h<;>exact h.2
         subst this;obtain⟨k1,k2⟩:=PZ h2 (hg.2 rfl);exact⟨⟨fun h=>(by cases h),fun _=>k1⟩,k2⟩
 | .chk g0 t,g,y,h,hg=>by
   simp only[DT.valQ] at h
   cases h1:t.valQ q res with
   | mk g1 v1=>
     rw[h1] at h;simp only[Aj] at h;obtain⟨rfl,rfl⟩:=h;have hg:=(PX.land_den _ _).mp hg;obtain⟨k1,k2⟩:=PZ h1 hg.2;exact⟨(PX.land_den _ _).mpr ⟨hg.1,k1⟩,k2⟩
 |.bad,g,y,h,hg=>by simp[DT.valQ] at h
def QT.isB:QT→Bool
 |.one (.one _ .bool)=>true
 |_=>false
def NC(f:DFun)(hs:List HT)(q:QT)(x:TuX hs):PX×Option q.D:=
 if q.isB then ((Np f (Ck hs x)).1,q.ofO (Np f (Ck hs x)).2)
 else (dev f.body ⟨news (Ck hs x)++Ev (f.nslots-f.nparams),Ew f.nbox,[]⟩).valQ q f.res
def JK(f:DFun)(hs:List HT)(q:QT)(x:TuX hs):q.D:=(NC f hs q x).2.getD q.dflt
def JB(f:DFun)(hs:List HT)(q:QT)(x:TuX hs):Prop:=(NC f hs q x).1.den
def Lh(f:DFun)(hs:List HT)(q:QT)(x:TuX hs):Bool:=(NC f hs q x).2.isSome
def Ll(f:DFun)(hs:List HT)(q:QT):Bool:=hs.length == f.nparams&&(!f.pure||q.flt)
theorem Xj {f:DFun} {hs:List HT} {q:QT} (ho:AllD f.body.obs) (hst:Ll f hs q=true) (x:TuX hs) (hc:Lh f hs q x=true) (hok:JB f hs q x)
 {Q:PV→List (List PV)→Prop} (hQ:∀ H,Q (q.dv (JK f hs q x)).enc H):CF f.er (DV.encL (Ck hs x)) [] Q:=by
 simp only[Ll,Ai,AA,B0,Cq] at hst
 unfold Lh at hc
 unfold JK at hQ
 unfold JB at hok
 unfold NC at hc hQ hok
 by_cases hb:q.isB=true
 · rw[Ab hb] at hc hQ hok
   cases hd:Np f (Ck hs x) with
   | mk g o=>
     rw[hd] at hc hQ hok
     cases o with
     |none=>cases hc
     | some w=>
       obtain⟨y,hy⟩:=Option.isSome_iff_exists.mp hc;rw[hy] at hQ;have hy:q.of w=some y:=hy;obtain⟨h1,h2⟩:=TW hy
       refine dT ho hd hok h2 (by rw[KD];exact hst.1) (fun hp=>YA (by simpa [hp] using hst.2) hy) fun H=>?_
       have:=hQ H;rw[Fg,h1] at this;exact this
 · rw[Ad hb] at hc hQ hok
   cases hd:(dev f.body ⟨news (Ck hs x)++Ev (f.nslots-f.nparams),Ew f.nbox,[]⟩).valQ q f.res with
   | mk g o=>
     rw[hd] at hc hQ hok
     cases o with
     |none=>cases hc
     | some y=>
       simp only[Fg] at hQ;obtain⟨k1,e,st,v0,k2,k3,k4,k5,k6⟩:=PZ hd hok;obtain⟨h1,h2⟩:=TW k6;refine⟨by rw[Dm,KD];exact hst.1,fun _=>rfl,?_⟩
       refine EI f.body ho (d:=⟨news (Ck hs x)++Ev (f.nslots-f.nparams),Ew f.nbox,[]⟩) ⟨(EL.news _).append (Mh _),Mm _,trivial⟩ k1 k2 fun s' hs'=>?_
       obtain⟨s2,e2⟩:=XA hs' k4 k5;rw[← h1] at e2
       have fin:(match Gs s' f.res with|some (v,st)=>if f.pure=true then v.flt=true∧Q v [] else Q v st.hp|none=>False):=by
        rw[e2];simp only;split
        · rename_i hpu;exact⟨by rw[h1];exact SA _ (YA (by simpa [hpu] using hst.2) k6),hQ _⟩
        · exact hQ _
       cases e with
       |normal=>exact fin
       |ret=>exact fin
       |exit i=>exact absurd rfl (k3 i)
theorem fx{f:DFun}{hs:List HT}{q:QT}(ho:AllD f.body.obs)(hst:Ll f hs q=true)(hc:∀ x,Lh f hs q x=true){ok:TuX hs→Prop}{v:TuX hs→q.D}(hok:∀ x,ok x→JB f hs q x)(hv:∀ x,JK f hs q x=v x) :
 Ik (CF f.er) (Il hs q ok v):=by
 intro args g w Q h hg hQ
 unfold Il at h
 cases hx:DX hs args with
 |none=>rw[hx] at h;cases h
 | some x=>
   rw[hx] at h;simp only[Ah,Aj] at h;obtain⟨rfl,rfl⟩:=h;rw[← K6 hx]
   exact Xj ho hst x (hc x) (hok x hg) fun H=>by rw[hv];exact hQ H
attribute [irreducible] NC JK JB Lh Ll
def EX:List (Ql×CT)→List (Ql×CT)
 |[]=>[]
 |(.frz,_)::r=>EX r
 |a::r=>a::EX r
def FZ:List (Ql×CT)→List DV→List DV
 |[],_=>[]
 |(.frz,_)::r,vs=>.any::FZ r vs
 |_::r,v::vs=>v::FZ r vs
 |_::r,[]=>.any::FZ r []
def Jp:List (Ql×CT)→List DC→Option (List DV)
 |[],[]=>some []
 |(.frz,_)::r,c::l=>if c.d then none else Jp r l
 | _::r,c::l=>(match Jp r l with
   |some vs=>some (c.v::vs)
   |none=>none)
 |_,_=>none
def AD:List DV→List DC
 |[]=>[]
 |v::r=>⟨false,v⟩::AD r
def TV(st:DS):List ARes→Option (DV×DS)
 |[r]=>He st r
 | rs=>(match FF st rs with
   |some x=>some (.tup x.1,x.2)
   |none=>none)
def rP(q:QT)(cs:List (Ql×CT))(res:List ARes)(st:DS):Option (q.D×AgX (EX cs)):=
 match TV st res with
 | some (v,st')=>if v.ok&&!v.hasPtr then (match st'.hp with
   | [blk]=>(match Jp cs blk with
     | some vs=>(match q.of v,Dw (EX cs) vs with
       |some y,some b=>some (y,b)
       |_,_=>none)
     |none=>none)
   |_=>none) else none
 |none=>none
def rN(cs:List (Ql×CT))(res:List ARes)(st:DS):Option (AgX cs):=
 match TV st res with
 | some (v,st')=>if v.isP0 then (match st'.hp with
   |[blk]=>Dw cs (A4 blk)
   |_=>none) else none
 |none=>none
def DT.valR{α:Type}(R:DS→Option α):DT→PX×Option α
 |.leaf (.exit _) _=>(.ff,none)
 | .leaf _ st=>(match R st with
   |some y=>(.tt,some y)
   |none=>(.ff,none))
 | .node c a b=>(match a.valR R,b.valR R with
   |(g,none),(g',y)=>(PX.if' c g g',y)
   |(g,x),(g',none)=>(PX.if' c g g',x)
   |(g,some x),(g',some y)=>(PX.if' c g g',some (bSel c x y)))
 | .chk g t=>(match t.valR R with
   |(g',v)=>(g.land g',v))
 |.bad=>(.ff,none)
theorem L5{α:Type}{R:DS→Option α}:∀ {t:DT} {g:PX},t.valR R=(g,none)→¬ g.den
 | .leaf e st,g,h=>by
   cases e<;>simp only[DT.valR] at h<;>(repeat' split at h)<;>simp only[Aj,reduceCtorEq,and_false,KG] at h<;>subst h<;>exact id
 | .node c x y,g,h=>by
   intro hg
   simp only[DT.valR] at h
   cases h1:x.valR R with
   | mk g1 v1=>
     cases h2:y.valR R with
     | mk g2 v2=>
       rw[h1,h2] at h
       cases v1 with
       | none=>
         simp only[Aj] at h
         obtain⟨rfl,rfl⟩:=h
         have:=(PX.if_den _ _ _).mp hg
         cases c with
         |true=>exact L5 h1 (this.1 rfl)
         |false=>exact L5 h2 (this.2 rfl)
       |some v1=>cases v2<;>simp at h
 | .chk g0 t,g,h=>by
   intro hg
   simp only[DT.valR] at h
   cases h1:t.valR R with
   | mk g1 v1=>
     rw[h1] at h
     simp only[Aj] at h
     obtain⟨rfl,rfl⟩:=h
     exact L5 h1 ((PX.land_den _ _).mp hg).2
 | .bad,g,h=>by
   simp only[DT.valR,Aj,KG] at h
   subst h;exact id
theorem MV{α:Type}{R:DS→Option α}:∀ {t:DT} {g:PX} {y:α},t.valR R=(g,some y)→g.den →
 t.ok.den∧∃ e st,t.lf=some (e,st)∧(∀ i,e≠.exit i)∧R st=some y
 | .leaf e st,g,y,h,hg=>by
   have gen:(match R st with|some y=>(PX.tt,some y)|none=>(PX.ff,none))=(g,some y)→R st=some y:=fun h=>by
    split at h
    · rename_i y' hy;simp only[Aj,Ah] at h;rw[hy,h.2]
    · simp at h
   cases e with
   |exit i=>simp[DT.valR] at h
   |normal=>exact⟨trivial,.normal,st,rfl,by simp,gen h⟩
   |ret=>exact⟨trivial,.ret,st,rfl,by simp,gen h⟩
 | .node c a b,g,y,h,hg=>by
   simp only[DT.valR] at h;show (PX.if' c a.ok b.ok).den∧∃ e st,(DT.node c a b).lf=some (e,st)∧(∀ i,e≠.exit i)∧R st=some y;rw[PX.if_den]
   cases h1:a.valR R with
   | mk g1 v1=>
     cases h2:b.valR R with
     | mk g2 v2=>
       rw[h1,h2] at h
       have hgg:g=PX.if' c g1 g2:=by
        cases v1<;>cases v2<;>simp only[Aj] at h<;>exact h.1.symm
       subst hgg;have hg:=(PX.if_den _ _ _).mp hg
       cases c with
       | true=>
         have:v1=some y:=by
          cases v1 with
          |none=>exact absurd (hg.1 rfl) (L5 h1)
          |some v1=>cases v2<;>simp only[Aj,Hh] at h<;>exact h.2
         subst this;obtain⟨k1,k2⟩:=MV h1 (hg.1 rfl);exact⟨⟨fun _=>k1,fun h=>by cases h⟩,k2⟩
       | false=>
         have:v2=some y:=by
          cases v2 with
          |none=>exact absurd (hg.2 rfl) (L5 h2)
          |some v2=>cases v1<;>simp only[Aj,FN] at h<;>exact h.2
         subst this;obtain⟨k1,k2⟩:=MV h2 (hg.2 rfl);exact⟨⟨fun h=>(by cases h),fun _=>k1⟩,k2⟩
 | .chk g0 t,g,y,h,hg=>by
   simp only[DT.valR] at h
   cases h1:t.valR R with
   | mk g1 v1=>
     rw[h1] at h;simp only[Aj] at h;obtain⟨rfl,rfl⟩:=h;have hg:=(PX.land_den _ _).mp hg;obtain⟨k1,k2⟩:=MV h1 hg.2;exact⟨(PX.land_den _ _).mpr ⟨hg.1,k1⟩,k2⟩
 |.bad,g,y,h,hg=>by simp[DT.valR] at h
theorem PT{p:DS→Prop}:∀ {t:DT} {e:AExit} {st:DS},t.All p→t.lf=some (e,st)→p st
 | .leaf _ _,_,_,h,hl=>by
   simp only[DT.lf,Ah,Aj] at hl
   obtain⟨_,rfl⟩:=hl;exact h
 | .node c a b,_,_,h,hl=>by
   simp only[DT.lf] at hl
   cases c with
   |true=>exact PT h.1 hl
   |false=>exact PT h.2 hl
 |.chk _ t,_,_,h,hl=>PT (t:=t) h hl
 |.bad,_,_,_,hl=>by cases hl
theorem VR{st st':DS}{r:ARes}{v:DV}(h:He st r=some (v,st')):ChgS st st':=by
 cases r with
 | tmp t=>
   simp only[He] at h;split at h
   · simp only[Ah] at h;have:=ChgS.mvOut (.t t) st;simp only[AG,h] at this;exact this
   · cases h
 | cell t n=>
   simp only[He] at h;split at h
   · split at h
     · simp only[Be] at h;obtain⟨⟨g,r⟩,h1,h2⟩:=h;simp only at h2;subst h2;exact VP h1
     · cases h
   · split at h
     · simp only[Be] at h;obtain⟨⟨g,r⟩,h1,h2⟩:=h;simp only at h2;subst h2;exact V8 h1
     · cases h
   · cases h
theorem Vz:∀ {rs:List ARes} {st st':DS} {vs:List DV},FF st rs=some (vs,st')→ChgS st st'
 | [],st,st',vs,h=>by
   simp only[FF,Ah,Aj] at h
   rw[h.2];exact ChgS.refl _
 | r :: rs,st,st',vs,h=>by
   simp only[FF] at h
   split at h
   · rename_i v st1 h1
     split at h
     · rename_i vs1 st2 h2
       simp only[Ah,Aj] at h
       obtain⟨_,rfl⟩:=h
       exact(VR h1).trans (Vz h2)
     · cases h
   · cases h
theorem X4{res:List ARes}{st st':DS}{s:PS}{v:DV}(hs:ES st s)(h:TV st res=some (v,st'))(hv:v.ok=true):(∃ s',Gs s res=some (v.enc,s')∧ES st' s')∧ChgS st st':=by
 have gen:∀ {res:List ARes},(match FF st res with|some x=>some (DV.tup x.1,x.2)|none=>none)=some (v,st')→(∃ s',(FB s res).map (fun(vs,st)=>(PV.tup vs,st))=some (v.enc,s')∧ES st' s')∧ChgS st st':=fun {res} h=>by
  split at h
  · rename_i x hx;obtain⟨vs,st1⟩:=x;simp only[Ah,Aj] at h;obtain⟨rfl,rfl⟩:=h;obtain⟨s',e1,e2⟩:=RL hs hx hv;exact⟨⟨s',by rw[e1];rfl,e2⟩,Vz hx⟩
  · cases h
 cases res with
 |nil=>exact gen (res:=[]) h
 | cons r rs=>
   cases rs with
   |nil=>exact⟨R4 hs h hv,VR h⟩
   |cons r2 rs=>exact gen (res:=r::r2::rs) h
theorem LX:∀ {l:List (Ql×CT)} {vs:List DV} {x:AgX l},Dw l vs=some x→(∀ v∈vs,v≠.any)∧∀ v∈BU l x,v≠.any
 |[],[],_,_=>⟨by simp,by simp[BU]⟩
 | [a],[v],x,h=>by
   obtain⟨h1,h2⟩:=MW (q:=a.1) (t:=a.2) h;refine⟨by simpa using h2,fun w hw=>?_⟩;have hw:w∈[a.2.dv a.1 x]:=hw;rw[List.mem_singleton] at hw;subst hw;exact dv_known _ _ _
 | a :: b::r,v::vs,x,h=>by
   have h':(match a.2.ofQ a.1 v,Dw (b::r) vs with|some x,some y=>some (x,y)|_,_=>none)=some x:=h;clear h
   cases h1:a.2.ofQ a.1 v with
   |none=>rw[h1] at h';cases h'
   | some p=>
     cases h2:Dw (b::r) vs with
     |none=>rw[h1,h2] at h';cases h'
     | some q=>
       rw[h1,h2] at h';have h':=BQ h';subst h';obtain⟨k1,k2⟩:=LX h2;refine⟨fun w hw=>?_,fun w hw=>?_⟩
       · rcases Bx.mp hw with rfl|hw
         · exact(MW h1).2
         · exact k1 w hw
       · have hw:w∈a.2.dv a.1 p::BU (b::r) q:=hw;rcases Bx.mp hw with rfl|hw
         · exact dv_known _ _ _
         · exact k2 w hw
  where dv_known (q:Ql) (t:CT) (x:t.D):t.dv q x≠.any:=by cases t<;>simp[CT.dv]
theorem VJ:∀ (l:List (Ql×CT)) (x:AgX l),(∀ v∈BU l x,v≠.any)∧(BU l x).length=l.length
 |[],_=>⟨by simp[BU],rfl⟩
 |[a],x=>⟨fun w hw=>by
  have hw:w∈[a.2.dv a.1 x]:=hw
  rw[List.mem_singleton] at hw
  subst hw
  exact LX.dv_known _ _ _,rfl⟩
 | a :: b::r,x=>by
   obtain⟨h1,h2⟩:=VJ (b::r) x.2
   refine⟨fun w hw=>?_,?_⟩
   · have hw:w∈a.2.dv a.1 x.1::BU (b::r) x.2:=hw
     rcases Bx.mp hw with rfl|hw
     · exact LX.dv_known _ _ _
     · exact h1 w hw
   · show (BU (b::r) x.2).length+1=(b::r).length+1
     rw[h2]
theorem Sf:∀ (cs:List (Ql×CT)) {blk:List DV} {blk':List DC} {p:List PV} {vs w:List DV},EL blk' p→Chg (AD blk) blk'→Jp cs blk'=some vs→DV.encL w=DV.encL vs→(∀ v∈vs,v≠.any)→(∀ v∈w,v≠.any) →
 blk.length=cs.length→(∀ v∈blk,v≠.any)→p=DV.encL (DZ blk (FZ cs w))
 | [],blk,blk',p,vs,w,he,hc,hp,hw,hv,hvw,hl,hb=>by
   have:blk=[]:=Ex hl;subst this
   cases blk' with
   | nil=>cases p with
     |nil=>rfl
     |cons=>exact he.elim
   |cons=>cases hp
 | (q, t)::r,blk,blk',p,vs,w,he,hc,hp,hw,hv,hvw,hl,hb=>by
   cases blk with
   |nil=>cases hl
   |cons v0 blk=>
   cases blk' with
   |nil=>cases q<;>cases hp
   |cons c l=>
   cases p with
   |nil=>exact he.elim
   |cons x p=>
   have hl':blk.length=r.length:=by simpa using hl
   have hb':∀ v∈blk,v≠.any:=fun v hv=>hb v (List.mem_cons_of_mem _ hv)
   by_cases hq:q= .frz
   · subst hq;have hp:(if c.d then none else Jp r l)=some vs:=hp;split at hp
     · cases hp
     · rename_i hd;have hc1:c=⟨false,v0⟩:=hc.1.resolve_left hd
       have hx:x=v0.enc:=by
        rcases he.1 with h|h
        · rw[hc1] at h;exact absurd h (hb v0 (Jk ..))
        · rw[h,hc1]
       show x::p=v0.enc::DV.encL (DZ blk (FZ r w));rw[hx,Sf r he.2 hc.2 hp hw hv hvw hl' hb']
   · have hp':(match Jp r l with|some vs=>some (c.v::vs)|none=>none)=some vs:=by
      cases q<;>first|exact absurd rfl hq|exact hp
     cases hpr:Jp r l with
     |none=>rw[hpr] at hp';cases hp'
     | some vs1=>
       rw[hpr] at hp';have hp':=BQ hp';subst hp'
       cases w with
       |nil=>cases hw
       |cons w0 w=>
       simp only[DV.encL,Fe] at hw
       have hx:x=w0.enc:=by
        rcases he.1 with h|h
        · exact absurd h (hv c.v (Jk ..))
        · rw[h,hw.1]
       have hw0:w0.isAny=false:=by
        have:=hvw w0 (Jk ..)
        cases w0<;>first|rfl|exact absurd rfl this
       have e:FZ ((q,t)::r) (w0::w)=w0::FZ r w:=by cases q<;>first|exact absurd rfl hq|rfl
       rw[e];simp only[DZ,hw0,As,AB,DV.encL];rw[hx,Sf r he.2 hc.2 hpr hw.2 (fun v h=>hv v (List.mem_cons_of_mem _ h)) (fun v h=>hvw v (List.mem_cons_of_mem _ h)) hl' hb']
def NF(f:DFun)(hs:List HT)(cs:List (Ql×CT))(q:QT)(x:TuX (.agg cs::hs)):PX×Option (q.D×AgX (EX cs)):=
 match Ck (.agg cs::hs) x with
 |.agg blk::r=>(dev f.body ⟨news (.ptr 0 0::r)++Ev (f.nslots-f.nparams),Ew f.nbox,[AD blk]⟩).valR (rP q cs f.res)
 |_=>(.ff,none)
def Gx(f:DFun)(hs:List HT)(cs:List (Ql×CT))(q:QT)(x:TuX (.agg cs::hs)):q.D×AgX (EX cs):=(NF f hs cs q x).2.getD (q.dflt,P9 (EX cs))
def Gq(f:DFun)(hs:List HT)(cs:List (Ql×CT))(q:QT)(x:TuX (.agg cs::hs)):Prop:=(NF f hs cs q x).1.den
def TJ(f:DFun)(hs:List HT)(cs:List (Ql×CT))(q:QT)(x:TuX (.agg cs::hs)):Bool:=(NF f hs cs q x).2.isSome
def TU(f:DFun)(hs:List HT)(cs:List (Ql×CT)):Bool:=hs.length+1 == f.nparams&&!f.pure&&Nat.blt 0 cs.length
def G5(hs:List HT)(cs:List (Ql×CT))(q:QT)(ok:TuX (.agg cs::hs)→Prop)(v:TuX (.agg cs::hs)→q.D×AgX (EX cs)):Cs:=fun args b=>match args,b with
 | a::r,[blk]=>if a.isP0 then (match DX (.agg cs::hs) (.agg blk::r) with
   |some x=>some (.p (ok x),q.dv (v x).1,[FZ cs (BU (EX cs) (v x).2)])
   |none=>none) else none
 |_,_=>none
theorem fK(cs:List (Ql×CT))(hs:List HT)(x:TuX (.agg cs::hs)):∃ r b,Ck (.agg cs::hs) x= .agg (BU cs b)::r:=by
 cases hs with
 |nil=>exact⟨[],x,rfl⟩
 |cons a r=>exact⟨Ck (a::r) x.2,x.1,rfl⟩
theorem X5:∀ (l:List DV),EL (AD l) (DV.encL l)
 |[]=>trivial
 |_::r=>⟨.inr rfl,X5 r⟩
theorem IM {f : DFun} {hs : List HT} {cs:List (Ql×CT)} {q:QT} (ho:AllD f.body.obs) (hst:TU f hs cs=true) (hc:∀ x,TJ f hs cs q x=true) {ok:TuX (.agg cs::hs)→Prop} {v:TuX (.agg cs::hs)→q.D×AgX (EX cs)} (hok:∀ x,ok x→Gq f hs cs q x) (hv:∀ x,Gx f hs cs q x=v x) :
 Es (CF f.er) (G5 hs cs q ok v):=by
 intro args b g w H Q h hg hQ
 simp only[TU,Ai,AA,Cq] at hst
 unfold G5 at h
 split at h
 · rename_i a r blk
   split at h
   · rename_i ha
     have ha:a= .ptr 0 0:=by unfold DV.isP0 at ha;split at ha<;>first|rfl|cases ha
     subst ha
     cases hx:DX (.agg cs::hs) (.agg blk::r) with
     |none=>rw[hx] at h;cases h
     | some x=>
       rw[hx] at h;simp only[Ah,Aj] at h;obtain⟨rfl,rfl,rfl⟩:=h;have he:=K6 hx;obtain⟨r',b,hd⟩:=fK cs hs x;rw[hd] at he;simp only[DV.encL,DV.enc,Fe,PV.agg.injEq] at he
       have hlr:r'.length=hs.length:=by
        have:=KD (.agg cs::hs) x;rw[hd] at this;simpa using this
       have hc:=hc x;have hok:=hok x hg;unfold TJ at hc;unfold Gq at hok;have hvx:=hv x;unfold Gx at hvx;unfold NF at hc hok hvx;rw[hd] at hc hok hvx;simp only at hc hok hvx
       cases hdd:(dev f.body ⟨news (.ptr 0 0::r')++Ev (f.nslots-f.nparams),Ew f.nbox,[AD (BU cs b)]⟩).valR (rP q cs f.res) with
       | mk g o=>
         rw[hdd] at hc hok hvx
         cases o with
         |none=>cases hc
         | some y=>
           simp only[Fg] at hvx;obtain⟨k1,e,st,k2,k3,k4⟩:=MV hdd hok;have hchg:ChgS _ st:=PT (FG f.body _) k2;show CF f.er (PV.ptr 0 0::DV.encL r) [DV.encL blk] Q;rw[← he.1,← he.2];refine⟨by simp only[AX,Dm,hlr];exact hst.1.1,fun hp=>absurd hp (by simp[DFun.er,hst.1.2]),?_⟩
           refine EI f.body ho (d:=⟨news (.ptr 0 0::r')++Ev (f.nslots-f.nparams),Ew f.nbox,[AD (BU cs b)]⟩) (s:=⟨DV.encL (.ptr 0 0::r')++FR (f.nslots-f.nparams),Ho f.nbox,[DV.encL (BU cs b)]⟩) ⟨(EL.news _).append (Mh _),Mm _,.inr (X5 _),trivial⟩ k1 k2 fun s' hs'=>?_
           unfold rP at k4;split at k4
           · rename_i v0 st' hr; split at k4
             · rename_i hv0; simp only[Ai,Cq] at hv0;split at k4
               · rename_i blk' hblk;split at k4
                 · rename_i vs hvs;split at k4
                   · rename_i y0 b0 hy0 hb0;simp only[Ah] at k4;subst k4;obtain⟨⟨s2,e2,e3⟩,hch2⟩:=X4 hs' hr hv0.1;have hch:=(hchg.trans hch2).hp;have e4:=e3.hp;rw[hblk] at hch e4
                     cases hp2:s2.hp with
                     |nil=>rw[hp2] at e4;exact e4.elim
                     | cons p l=>
                       rw[hp2] at e4
                       have hl0:l=[]:=by cases l<;>first|rfl|exact e4.2.elim
                       subst hl0
                       have hne:0<blk'.length:=by
                        cases blk' with
                        | nil=>cases cs with
                          |nil=>exact absurd hst.2 (by decide)
                          |cons a cs=>obtain⟨q0,t0⟩:=a;cases q0<;>cases hvs
                        |cons=>simp
                       have hEL:=e4.1.to hne;obtain⟨kn1,kn2⟩:=LX hb0;obtain⟨kb1,kb2⟩:=VJ cs b;have hpb:=Sf cs hEL hch.1 hvs (Qo hb0) kn1 kn2 kb2 kb1;obtain⟨h1,_⟩:=TW hy0
                       have hQ':Q (q.dv y0).enc (EH (Gp [blk] [FZ cs (BU (EX cs) b0)])):=by
                        have:=hQ;rw[← hvx] at this;exact this
                       have hmix : DV.encL (DZ (BU cs b) (FZ cs (BU (EX cs) b0)))=DV.encL (DZ blk (FZ cs (BU (EX cs) b0))):=by
                        have:∀ (a c l:List DV),DV.encL a=DV.encL c→DV.encL (DZ a l)=DV.encL (DZ c l):=by
                         intro a
                         induction a with
                         | nil=>intro c l h;cases c with
                           |nil=>rfl
                           |cons=>cases h
                         | cons x a ih=>
                           intro c l h
                           cases c with
                           |nil=>cases h
                           | cons z c=>
                             simp only[DV.encL,Fe] at h
                             cases l with
                             |nil=>simp only[DZ,DV.encL,h.1,h.2]
                             | cons w l=>
                               simp only[DZ,DV.encL,ih c l h.2];by_cases hw:w.isAny=true
                               · rw[Ab hw,Ab hw,h.1]
                               · rw[Ad hw,Ad hw]
                        exact this _ _ _ he.1
                       have fin:(match Gs s' f.res with|some (v,st)=>if f.pure=true then v.flt=true∧Q v [] else Q v st.hp|none=>False):=by
                        rw[e2];simp only[hst.1.2,As,AB,hp2];rw[← h1,hpb,hmix];exact hQ'
                       cases e with
                       |normal=>exact fin
                       |ret=>exact fin
                       |exit i=>exact absurd rfl (k3 i)
                   · cases k4
                 · cases k4
               · cases k4
             · cases k4
           · cases k4
   · cases h
 · cases h
def ND(f:DFun)(hs:List HT)(cs:List (Ql×CT))(x:TuX hs):PX×Option (AgX cs):=
 (dev f.body ⟨news (Ck hs x)++Ev (f.nslots-f.nparams),Ew f.nbox,[]⟩).valR (rN cs f.res)
def NA(f:DFun)(hs:List HT)(cs:List (Ql×CT))(x:TuX hs):AgX cs:=(ND f hs cs x).2.getD (P9 cs)
def Nc(f:DFun)(hs:List HT)(cs:List (Ql×CT))(x:TuX hs):Prop:=(ND f hs cs x).1.den
def Tf(f:DFun)(hs:List HT)(cs:List (Ql×CT))(x:TuX hs):Bool:=(ND f hs cs x).2.isSome
def TX(f:DFun)(hs:List HT)(cs:List (Ql×CT)):Bool:=hs.length == f.nparams&&!f.pure&&Nat.blt 0 cs.length
def PA(hs:List HT)(cs:List (Ql×CT))(ok:TuX hs→Prop)(v:TuX hs→AgX cs):Cs:=fun args b=>match b with
 | []=>(match DX hs args with
   |some x=>some (.p (ok x),.ptr 0 0,[BU cs (v x)])
   |none=>none)
 |_=>none
theorem Xc:∀ {l:List (Ql×CT)} {vs:List DV} {x:AgX l},Dw l vs=some x→vs.length=l.length
 |[],[],_,_=>rfl
 |[a],[v],x,h=>rfl
 | a :: b::r,v::vs,x,h=>by
   have h':(match a.2.ofQ a.1 v,Dw (b::r) vs with|some x,some y=>some (x,y)|_,_=>none)=some x:=h
   cases h1:a.2.ofQ a.1 v with
   |none=>rw[h1] at h';cases h'
   | some p=>
     cases h2:Dw (b::r) vs with
     |none=>rw[h1,h2] at h';cases h'
     | some q=>
       have:=Xc h2
       simp only[AX] at this ⊢
       omega
theorem V4 {f : DFun} {hs:List HT} {cs:List (Ql×CT)} (ho:AllD f.body.obs) (hst:TX f hs cs=true) (hc:∀ x,Tf f hs cs x=true) {ok:TuX hs→Prop} {v:TuX hs→AgX cs} (hok:∀ x,ok x→Nc f hs cs x) (hv:∀ x,NA f hs cs x=v x) :
 Es (CF f.er) (PA hs cs ok v):=by
 intro args b g w H Q h hg hQ
 simp only[TX,Ai,AA,Cq] at hst
 unfold PA at h
 split at h
 · cases hx : DX hs args with
   |none=>rw[hx] at h;cases h
   | some x=>
     rw[hx] at h;simp only[Ah,Aj] at h;obtain⟨rfl,rfl,rfl⟩:=h;have he:=K6 hx;have hc:=hc x;have hok:=hok x hg;have hvx:=hv x;unfold Tf at hc;unfold Nc at hok;unfold NA at hvx;unfold ND at hc hok hvx
     cases hdd:(dev f.body ⟨news (Ck hs x)++Ev (f.nslots-f.nparams),Ew f.nbox,[]⟩).valR (rN cs f.res) with
     | mk g o=>
       rw[hdd] at hc hok hvx
       cases o with
       |none=>cases hc
       | some y=>
         simp only[Fg] at hvx;obtain⟨k1,e,st,k2,k3,k4⟩:=MV hdd hok;show CF f.er (DV.encL args) [] Q;rw[← he];refine⟨by rw[Dm,KD];exact hst.1.1,fun hp=>absurd hp (by simp[DFun.er,hst.1.2]),?_⟩
         refine EI f.body ho (d:=⟨news (Ck hs x)++Ev (f.nslots-f.nparams),Ew f.nbox,[]⟩) ⟨(EL.news _).append (Mh _),Mm _,trivial⟩ k1 k2 fun s' hs'=>?_
         unfold rN at k4;split at k4
         · rename_i v0 st' hr;split at k4
           · rename_i hv0
             have hv0:v0= .ptr 0 0:=by unfold DV.isP0 at hv0;split at hv0<;>first|rfl|cases hv0
             subst hv0;split at k4
             · rename_i blk' hblk;obtain⟨⟨s2,e2,e3⟩,_⟩:=X4 hs' hr rfl;have e4:=e3.hp;rw[hblk] at e4
               cases hp2:s2.hp with
               |nil=>rw[hp2] at e4;exact e4.elim
               | cons p l=>
                 rw[hp2] at e4
                 have hl0:l=[]:=by cases l<;>first|rfl|exact e4.2.elim
                 subst hl0
                 have hne:0<blk'.length:=by
                  have:=Xc k4;rw[Me] at this;have:=BR hst.2;omega
                 have hEL:=e4.1.to hne;obtain⟨kn1,_⟩:=LX k4
                 have hpe:p=DV.encL (A4 blk'):=by
                  have:∀ {a:List DC} {b:List PV},EL a b→(∀ v∈A4 a,v≠.any)→b=DV.encL (A4 a):=by
                   intro a
                   induction a with
                   |nil=>intro b h _;cases b<;>first|rfl|exact h.elim
                   | cons c a ih=>
                     intro b h hk
                     cases b with
                     |nil=>exact h.elim
                     | cons x b=>
                       simp only[A4,DV.encL];rcases h.1 with h1|h1
                       · exact absurd h1 (hk _ (Jk ..))
                       · rw[h1,ih h.2 fun v hv=>hk v (List.mem_cons_of_mem _ hv)]
                  exact this hEL kn1
                 have hQ':Q (.ptr 0 0) [DV.encL (BU cs y)]:=by
                  have:=hQ;rw[← hvx] at this;exact this
                 have fin:(match Gs s' f.res with|some (v,st)=>if f.pure=true then v.flt=true∧Q v [] else Q v st.hp|none=>False):=by
                  rw[e2];simp only[hst.1.2,As,AB,hp2];rw[hpe,← Qo k4];exact hQ'
                 cases e with
                 |normal=>exact fin
                 |ret=>exact fin
                 |exit i=>exact absurd rfl (k3 i)
             · cases k4
           · cases k4
         · cases k4
 · cases h
attribute [irreducible] NF Gx Gq TJ TU ND NA Nc Tf TX
open Go.RowKit Go.WideShapes Go.ChangeShapes
inductive Ty where
 |int (k:IntKind)
 |bool
 |str
 |sl (t:Ty)
 |unit
 |pair (a b:Ty)
def Ty.w:Ty→Nat
 |.int _|.bool|.str|.sl _=>1
 |.unit=>0
 |.pair a b=>a.w+b.w
def Nu(P:Program)(f:TypeId→Option Ty):List Field→Nat→Option Ty
 |[],_=>some .unit
 | g::r,off=>
   match f g.type with
   |some a=>if g.offset=off∧a.w=P.cellsOf g.type then (match Nu P f r (off+a.w) with|some b=>some (.pair a b)|none=>none) else none
   |none=>none
def Gz(P:Program):Nat→TypeId→Option Ty
 |0,_=>none
 | d+1,t=>
   match P.underlying t with
   |some (.int k)=>some (.int k)
   |some .bool=>some .bool
   |some .string=>some .str
   |some (.slice e)=>(match Gz P d e with|some te=>if te.w=P.cellsOf e∧0<te.w then some (.sl te) else none|none=>none)
   |some (.struct fs)=>(match Nu P (Gz P d) fs.toList 0 with|some ty=>if ty.w=P.cellsOf t then some ty else none|none=>none)
   |_=>none
def Sh(σ:Ac):Ty→List V→Prop
 |.int k,cs=>∃ n,cs=[.int k n]∧(Lit.int k n).wf=true
 |.bool,cs=>∃ b,cs=[.bool b]
 |.str,cs=>∃ s,cs=[.str s]∧s.length≤maxLen
 |.sl t,cs=>cs=[.nils]∨∃ (l n:Nat) (bs:List V),cs=[.slice l 0 n]∧σ[l]?=some ⟨.ro,t.w,bs⟩∧bs.length=n*t.w∧n≤maxLen∧∀ i,i<n→Sh σ t ((bs.drop (i*t.w)).take t.w)
 |.unit,cs=>cs=[]
 |.pair a b,cs=>∃ xs ys,cs=xs++ys∧Sh σ a xs∧Sh σ b ys
theorem Sh.len{σ:Ac}:∀ {ty:Ty} {cs:List V},Sh σ ty cs→cs.length=ty.w
 |.int _,_,⟨_,h,_⟩=>by rw[h];rfl
 |.bool,_,⟨_,h⟩=>by rw[h];rfl
 |.str,_,⟨_,h,_⟩=>by rw[h];rfl
 |.sl _,_,h=>by rcases h with h|⟨_,_,_,h,_⟩<;>rw[h]<;>rfl
 |.unit,_,h=>by rw[h];rfl
 |.pair a b,_,⟨xs,ys,h,h1,h2⟩=>by rw[h,DQ,h1.len,h2.len];rfl
theorem Sh.mono{σ e:Ac}:∀ {ty:Ty} {cs:List V},Sh σ ty cs→Sh (σ++e) ty cs
 |.int _,_,h=>h
 |.bool,_,h=>h
 |.str,_,h=>h
 | .sl _,_,h=>by
   rcases h with h|⟨l,n,bs,h,h1,h2,h3,h4⟩
   · exact .inl h
   · exact .inr ⟨l,n,bs,h,by rw[A7 (Bv h1)];exact h1,h2,h3,fun i hi=>(h4 i hi).mono⟩
 |.unit,_,h=>h
 |.pair _ _,_,⟨xs,ys,h,h1,h2⟩=>⟨xs,ys,h,h1.mono,h2.mono⟩
def C3(σ:Ac):Prop:=∀ (l:Nat) (b:Blk),σ[l]?=some b→b.k= .ro
def Nb(ι:Am)(σ:Ac)(W:World)(ty:Ty)(cs:List Value):Prop:=
 ∃ ι' e vs,HRel ι' (σ++e) W∧Keeps ι σ ι' (σ++e)∧C3 (σ++e)∧Sh (σ++e) ty vs∧vs.length=cs.length∧∀ (i:Nat) v x,vs[i]?=some v→cs[i]?=some x→v.cell=true∧∀ β,Rel ι' (σ++e) β v x
theorem HRel.lay{ι:Am}{σ:Ac}{W:World}(h:HRel ι σ W)(hro:C3 σ){b off c:Nat}{wd:Nat}{bs:List V}(hb:b<W.heap.size)(hc:∀ (i:Nat) v,bs[i]?=some v→v.cell=true∧∃ x,W.cell? ⟨b,off+i,none⟩=some x∧∀ β,Rel ι σ β v x) :
 HRel (upd ι σ.length ⟨b,off,c⟩) (σ++[⟨.ro,wd,bs⟩]) W∧C3 (σ++[⟨.ro,wd,bs⟩]):=by
 have K:=LW ι σ ⟨b,off,c⟩ ⟨.ro,wd,bs⟩
 have hall:C3 (σ++[⟨.ro,wd,bs⟩]):=by
  intro l blk hl;rcases D6 hl with⟨_,hl⟩|⟨_,rfl⟩
  · exact hro l blk hl
  · rfl
 refine⟨⟨fun l blk hl hk i v hv=>?_,fun l blk hl hk=>?_,fun l l' blk blk' hne hl hl' hk hk'=>?_,fun l blk hl hk=>?_⟩,hall⟩
 · rcases D6 hl with⟨hlt,hl⟩|⟨rfl,rfl⟩
   · rw[Cc _ _ _ _ (by omega)];obtain⟨a,x,b',c⟩:=h.cells l blk hl hk i v hv;exact⟨a,x,b',fun β=>(c β).cellMono K a⟩
   · rw[BD];obtain⟨a,x,b',c⟩:=hc i v hv;exact⟨a,x,b',fun β=>(c β).cellMono K a⟩
 · have:=hall l blk hl;rw[hk] at this;cases this
 · have:=hall l blk hl;rw[hk] at this;cases this
 · rcases D6 hl with⟨hlt,hl⟩|⟨rfl,rfl⟩
   · rw[Cc _ _ _ _ (by omega)];exact h.there l blk hl hk
   · rw[BD];exact hb
theorem bX{w:World}{a:Addr}{v:Value}(h:w.cell? a=some v):a.block<w.heap.size:=by
 unfold World.cell? at h;rcases Bi a.block w.heap.size with h1|h1
 · exact h1
 · rw[Array.getElem?_eq_none h1] at h;cases h
theorem P4{α:Type}{l:List α}{i:Nat}{v:α}(h:l[i]?=some v):i<l.length:=by
 rcases Bi i l.length with h1|h1
 · exact h1
 · rw[A8 h1] at h;cases h
section
variable {H:Type} {enc:TypeId×Value→H} {P:Program} {W:World}
theorem Vo(d:Nat)(ih:∀ (t:TypeId)(ty:Ty),Gz P d t=some ty→∀ (fuel:Nat)(cs:List Value) x,DataW.trod enc P W 0 (fun _=>true) true fuel t cs=some x→∀ (ι:Am)(σ:Ac),HRel ι σ W→C3 σ→Nb ι σ W ty cs) :
 ∀ (fs:List Field) (off:Nat) (ty:Ty),Nu P (Gz P d) fs off=some ty→∀ (fuel:Nat) (cs:List Value),(∀ g∈fs,∃ x,DataW.trod enc P W 0 (fun _=>true) true fuel g.type ((cs.drop g.offset).take (P.cellsOf g.type))=some x) →
   off+ty.w=cs.length→∀ (ι:Am) (σ:Ac),HRel ι σ W→C3 σ→Nb ι σ W ty (cs.drop off)
 | [],off,ty,h,fuel,cs,_,hl,ι,σ,H,hro=>by
   simp only[Nu,Ah] at h;subst h;simp only[Ty.w,DP] at hl
   have:cs.drop off=[]:=by rw[hl];simp
   rw[this];exact⟨ι,[],[],by simpa using H,by simpa using Keeps.refl ι σ,by simpa using hro,rfl,rfl,by simp⟩
 | g :: r, off,ty,h,fuel,cs,hg,hl,ι,σ,H,hro=>by
   simp only[Nu] at h;split at h
   · rename_i a ha;split at h
     · rename_i hc;obtain⟨h1,h2⟩:=hc;split at h
       · rename_i b hb;cases h;simp only[Ty.w] at hl;obtain⟨x,hx⟩:=hg g (by simp);rw[h1] at hx;obtain⟨ι1,e1,vs1,H1,K1,R1,S1,L1,C1⟩:=ih g.type a ha fuel _ x hx ι σ H hro;obtain⟨ι2,e2,vs2,H2,K2,R2,S2,L2,C2⟩:=Vo d ih r (off+a.w) b hb fuel cs (fun g' hg'=>hg g' (by simp[hg'])) (by omega) ι1 (σ++e1) H1 R1;refine⟨ι2,e1++e2,vs1++vs2,by rw[← Bm];exact H2,by rw[← Bm];exact K1.trans K2,by rw[← Bm];exact R2,⟨vs1,vs2,rfl,by rw[← Bm];exact S1.mono,by rw[← Bm];exact S2⟩,?_,fun i v y hv hy=>?_⟩
         · rw[DQ,L1,L2];simp;omega
         · have hl1:vs1.length=a.w:=S1.len;by_cases hi:i<vs1.length
           · rw[A7 hi] at hv
             have hy':((cs.drop off).take (P.cellsOf g.type))[i]?=some y:=by
              rw[FJ,Ab (by omega)];exact hy
             obtain⟨q1,q2⟩:=C1 i v y hv hy';exact⟨q1,fun β=>by rw[← Bm];exact(q2 β).cellMono K2 q1⟩
           · rw[Ce (by omega)] at hv
             have hy':(cs.drop (off+a.w))[i-vs1.length]?=some y:=by
              rw[KY] at hy ⊢
              have:off+a.w+(i-vs1.length)=off+i:=by omega
              rw[this];exact hy
             obtain⟨q1,q2⟩:=C2 _ v y hv hy';exact⟨q1,fun β=>by rw[← Bm];exact q2 β⟩
       · cases h
     · cases h
   · cases h
theorem XS{b o:Nat}(n:Nat):Addr.add ⟨b,o,none⟩ n=⟨b,o+n,none⟩:=by
 unfold Addr.add;split
 · rename_i h;subst h;rfl
 · rfl
theorem VA {d:Nat} (ih:∀ (t:TypeId) (ty:Ty),Gz P d t=some ty→∀ (fuel:Nat) (cs:List Value) x,DataW.trod enc P W 0 (fun _=>true) true fuel t cs=some x→∀ (ι:Am) (σ:Ac),HRel ι σ W→C3 σ→Nb ι σ W ty cs)
 {e:TypeId} {te:Ty} (hte:Gz P d e=some te) (hw:te.w=P.cellsOf e) {fuel b o:Nat} :
 ∀ (n:Nat),(∀ i,i<n→∃ cs x,W.cells? 0 ⟨b,o+i*te.w,none⟩ te.w=some cs∧DataW.trod enc P W 0 (fun _=>true) true fuel e cs=some x)→∀ (ι:Am) (σ:Ac),HRel ι σ W→C3 σ →
   ∃ (ι':Am) (ext:Ac) (bs:List V),HRel ι' (σ++ext) W∧Keeps ι σ ι' (σ++ext)∧C3 (σ++ext)∧bs.length=n*te.w∧(∀ i,i<n→Sh (σ++ext) te ((bs.drop (i*te.w)).take te.w)) ∧
     ∀ (j:Nat) v,bs[j]?=some v→v.cell=true∧∃ x,W.cell? ⟨b,o+j,none⟩=some x∧∀ β,Rel ι' (σ++ext) β v x
 |0,_,ι,σ,H0,hro=>⟨ι,[],[],by simpa using H0,by simpa using Keeps.refl ι σ,by simpa using hro,by simp,fun i hi=>absurd hi (TI i),by simp⟩
 | n + 1,hn,ι,σ,H0,hro=>by
   obtain⟨ι1,e1,bs,H1,K1,R1,L1,S1,C1⟩:=VA ih hte hw n (fun i hi=>hn i (Nat.lt_succ_of_lt hi)) ι σ H0 hro;obtain⟨cs,x,hc,hx⟩:=hn n (Tx n);obtain⟨ι2,e2,vs,H2,K2,R2,S2,L2,C2⟩:=ih e te hte fuel cs x hx ι1 (σ++e1) H1 R1;obtain⟨_,hcl,hcg⟩:=World.cells?_some hc;refine⟨ι2,e1++e2,bs++vs,by rw[← Bm];exact H2,by rw[← Bm];exact K1.trans K2,by rw[← Bm];exact R2,?_,fun i hi=>?_,fun j v hv=>?_⟩
   · rw[DQ,L1,L2,hcl,Jo]
   · rw[← Bm];by_cases h:i<n
     · have h1:(i+1)*te.w≤n*te.w:=Gf _ h;rw[Jo] at h1
       have:((bs++vs).drop (i*te.w)).take te.w=(bs.drop (i*te.w)).take te.w:=by
        rw[List.drop_append_of_le_length (by omega),List.take_append_of_le_length (by rw[List.length_drop];omega)]
       rw[this];exact(S1 i h).mono
     · have:i=n:=by omega
       subst this
       have:((bs++vs).drop (i*te.w)).take te.w=vs:=by
        rw[← L1,List.drop_left,TC (by omega)]
       rw[this];exact S2
   · by_cases h:j<bs.length
     · rw[A7 h] at hv;obtain⟨q1,y,q2,q3⟩:=C1 j v hv;exact⟨q1,y,q2,fun β=>by rw[← Bm];exact(q3 β).cellMono K2 q1⟩
     · rw[Ce (by omega)] at hv;have hlt:=P4 hv
       have hlt':j-bs.length<te.w:=by rw[← hcl,← L2];exact hlt
       have hg:=hcg (j-bs.length) hlt';rw[XS] at hg
       have e0:o+n*te.w+(j-bs.length)=o+j:=by omega
       rw[e0] at hg;obtain⟨y,hy⟩:∃ y,cs[j-bs.length]?=some y:=⟨_,AQ (by omega)⟩;obtain⟨q1,q2⟩:=C2 _ v y hv hy;exact⟨q1,y,hg.trans hy,fun β=>by rw[← Bm];exact q2 β⟩
theorem Q3:∀ (d:Nat) (t:TypeId) (ty:Ty),Gz P d t=some ty→∀ (fuel:Nat) (cs:List Value) x,DataW.trod enc P W 0 (fun _=>true) true fuel t cs=some x→∀ (ι:Am) (σ:Ac),HRel ι σ W→C3 σ→Nb ι σ W ty cs
 |0,_,_,h=>by simp[Gz] at h
 | d + 1, t, ty,h=>by
   intro fuel cs x hx ι σ H0 hro
   have one:∀ (v:V) (y:Value),cs=[y]→v.cell=true→(∀ β,Rel ι σ β v y)→Sh σ ty [v]→Nb ι σ W ty cs:=by
    intro v y hc hv hr hs;refine⟨ι,[],[v],by simpa using H0,by simpa using Keeps.refl ι σ,by simpa using hro,by simpa using hs,by rw[hc];rfl,fun i u z hu hz=>?_⟩;rw[hc] at hz
    cases i with
    |zero=>simp at hu hz;subst hu;subst hz;exact⟨hv,by simpa using hr⟩
    |succ i=>simp at hu
   unfold Gz at h;split at h
   · rename_i k hu;cases h;obtain⟨n,hc,_,hwf⟩:=DataW.trod_int hu hx;exact one (.int k n) _ hc rfl (fun β=>.int k n) ⟨n,rfl,hwf⟩
   · rename_i hu;cases h;obtain⟨b,hc,_⟩:=DataW.trod_bool hu hx;exact one (.bool b) _ hc rfl (fun β=>.bool b) ⟨b,rfl⟩
   · rename_i hu;cases h;obtain⟨s,hc,_,hwf⟩:=DataW.trod_string hu hx;exact one (.str s.data.toList) _ hc rfl (fun β=>by have:=Rel.str (ι:=ι) (σ:=σ) (β:=β) s.data.toList;simpa using this) ⟨s.data.toList,rfl,by simpa using hwf⟩
   · rename_i e hu;split at h
     · rename_i te hte;split at h
       · rename_i hw;obtain⟨hw,hpos⟩:=hw;cases h;rcases DataW.trod_slice hu hx with⟨hc,_⟩|⟨a,len,cap,elems,rest,n,_,hc,_,_,hle,hcap,hel,hE,hR,_⟩
         · exact one .nils _ hc rfl (fun β=>.nils none) (.inl rfl)
         · obtain⟨hrl,hR⟩:=hR rfl
           have hcell:∀ i,i<cap→∃ cs' y,W.cells? 0 (a.add (i*P.cellsOf e)) (P.cellsOf e)=some cs'∧DataW.trod enc P W 0 (fun _=>true) true n e cs'=some y:=by
            intro i hi;by_cases h:i<len
            · have h1:=hE i h;obtain⟨y,hy⟩:∃ y,elems[i]?=some y:=⟨_,AQ (by omega)⟩;rw[hy,Bh] at h1;obtain⟨cs',h1,h2⟩:=h1;exact⟨cs',y,h1,h2⟩
            · have h1:=hR (i-len) (by omega);obtain⟨y,hy⟩:∃ y,rest[i-len]?=some y:=⟨_,AQ (by omega)⟩;rw[hy,Bh] at h1;obtain⟨cs',h1,h2⟩:=h1;rw[show len+(i-len)=i by omega] at h1;exact⟨cs',y,h1,h2⟩
           by_cases hc0:cap=0
           · subst hc0
             have:len=0:=by omega
             subst this;exact one .nils _ hc rfl (fun β=>.nils (some a)) (.inl rfl)
           · have hsp:a.spot=none∧a.block<W.heap.size:=by
              obtain⟨cs',y,h1,_⟩:=hcell 0 (by omega);obtain⟨_,h2,h3⟩:=World.cells?_some h1;have h4:=h3 0 (by omega);obtain⟨z,hz⟩:∃ z,cs'[0]?=some z:=⟨_,AQ (by omega)⟩;rw[hz] at h4
              have h5:W.cell? a=some z:=by simpa [Addr.add] using h4
              exact⟨World.cell?_spot h5,bX h5⟩
             obtain⟨ab,ao,asp⟩:=a;obtain⟨hsp,hlt⟩:=hsp;simp only at hsp hlt;subst hsp
             have hcell':∀ i,i<len→∃ cs' y,W.cells? 0 ⟨ab,ao+i*te.w,none⟩ te.w=some cs'∧DataW.trod enc P W 0 (fun _=>true) true n e cs'=some y:=by
              intro i hi;have:=hcell i (by omega);rw[XS,← hw] at this;exact this
             obtain⟨ι1,e1,bs,H1,K1,R1,L1,S1,C1⟩:=VA (Q3 d) hte hw len hcell' ι σ H0 hro;obtain⟨H2,R2⟩:=H1.lay R1 (c:=cap*te.w) (wd:=te.w) hlt C1;have K2:=LW ι1 (σ++e1) ⟨ab,ao,cap*te.w⟩ ⟨.ro,te.w,bs⟩
             have hg:((σ++e1)++[(⟨.ro,te.w,bs⟩:Blk)])[(σ++e1).length]?=some ⟨.ro,te.w,bs⟩:=by simp
             refine⟨_,e1++[⟨.ro,te.w,bs⟩],[.slice (σ++e1).length 0 len],by rw[← Bm];exact H2,by rw[← Bm];exact K1.trans K2,by rw[← Bm];exact R2,.inr ⟨_,len,bs,rfl,by rw[← Bm];exact hg,L1,by omega,fun i hi=>by rw[← Bm];exact(S1 i hi).mono⟩,by rw[hc];rfl,fun i u z hu hz=>?_⟩;rw[hc] at hz
             cases i with
             | zero=>
               simp at hu hz;subst hu;subst hz;refine⟨rfl,fun β=>?_⟩;have:=Rel.slice (ι:=upd ι1 (σ++e1).length ⟨ab,ao,cap*te.w⟩) (σ:=(σ++e1)++[⟨.ro,te.w,bs⟩]) (β:=β) (σ++e1).length 0 len cap ⟨.ro,te.w,bs⟩ hg hle (by rw[BD];simp) (by first|assumption|(simp only;omega));rw[BD] at this;simpa using this
             |succ i=>simp at hu
       · cases h
     · cases h
   · rename_i fs hu;split at h
     · rename_i ty' hty;split at h
       · rename_i hw;cases h;obtain⟨xs,n,_,_,hl,hxl,hf⟩:=DataW.trod_struct hu hx
         have:=Vo (enc:=enc) d (Q3 d) fs.toList 0 _ hty n cs (fun g hg=>by
          obtain⟨i,hi⟩:=Gk hg;have h1:=hf i g (by simpa using hi)
          have:i<xs.length:=by rw[hxl];have:=P4 hi;simpa using this
          exact⟨_,h1.trans (AQ this)⟩) (by omega) ι σ H0 hro
         simpa using this
       · cases h
     · cases h
   · cases h
end
open Go.RowKit Go.WideShapes Go.ChangeShapes
def T6(P:Program)(d:Nat)(t:TypeId):Option (Ty×Bool):=
 match Gz P d t with
 | some ty=>(match P.underlying t with
   |some (.struct _)=>some (ty,true)
   |some (.int _)|some .bool|some .string|some (.slice _)=>some (ty,false)
   |_=>none)
 |none=>none
def KS(P:Program)(d:Nat):List TypeId→Option (List (Ty×Bool))
 |[]=>some []
 | t::r=>match T6 P d t,KS P d r with
   |some a,some b=>some (a::b)
   |_,_=>none
def ArgOk(σ:Ac):Ty×Bool→V→Prop
 |(ty,true),v=>∃ cs,v= .agg cs∧Sh σ ty cs∧cs.all V.cell=true
 |(ty,false),v=>Sh σ ty [v]∧v.cell=true
def KM(σ:Ac):List (Ty×Bool)→List V→Prop
 |[],[]=>True
 |a::r,v::s=>ArgOk σ a v∧KM σ r s
 |_,_=>False
theorem ArgOk.mono{σ e:Ac}{a:Ty×Bool}{v:V}(h:ArgOk σ a v):ArgOk (σ++e) a v:=by
 obtain⟨ty,b⟩:=a
 cases b with
 |true=>obtain⟨cs,h1,h2,h3⟩:=h;exact⟨cs,h1,h2.mono,h3⟩
 |false=>exact⟨h.1.mono,h.2⟩
theorem ArgOk.noBox{σ:Ac}{a:Ty×Bool}{v:V}(h:ArgOk σ a v):∀ i o,v≠.box i o:=by
 obtain⟨ty,b⟩:=a;intro i o e;subst e
 cases b with
 |true=>obtain⟨cs,h1,_⟩:=h;cases h1
 |false=>have:=h.2;cases this
section
variable {H:Type} {enc:TypeId×Value→H} {P:Program} {W:World} {r:Reach} {base:Nat}
theorem fJ {d:Nat} {t:TypeId} {a:Ty×Bool} (ha:T6 P d t=some a) {v:Value} {dd:DataW H} {ps:List MemPlace} (h:DataW.Trod enc P W 0 (fun _=>true) true t v dd ps) (hok:Value.okWide P W r base t v)
 (ι:Am) (σ:Ac) (H0:HRel ι σ W) (hro:C3 σ) :
 ∃ ι' e u,HRel ι' (σ++e) W∧Keeps ι σ ι' (σ++e)∧C3 (σ++e)∧ArgOk (σ++e) a u∧∀ β,Rel ι' (σ++e) β u v:=by
 unfold T6 at ha
 split at ha
 · rename_i ty hty
   obtain⟨fuel,hx⟩:=h;obtain⟨ι',e,vs,h1,h2,h3,h4,h5,h6⟩:=Q3 d t ty hty fuel _ _ hx ι σ H0 hro
   have one:∀ (hc:v.cells=#[v]),a=(ty,false)→∃ ι' e u,HRel ι' (σ++e) W∧Keeps ι σ ι' (σ++e)∧C3 (σ++e)∧ArgOk (σ++e) a u∧∀ β,Rel ι' (σ++e) β u v:=by
    intro hc ea;rw[hc] at h5 h6
    match vs,h5,h4,h6 with
    | [u],_,h4,h6=>
      obtain⟨c1,c2⟩:=h6 0 u v rfl rfl;exact⟨ι',e,u,h1,h2,h3,by rw[ea];exact⟨h4,c1⟩,c2⟩
   split at ha
   · rename_i fs hu;cases ha;obtain⟨cs,rfl,_⟩:=okWide_struct hu hok;replace h5:vs.length=cs.toList.length:=h5;refine⟨ι',e,.agg vs,h1,h2,h3,⟨vs,rfl,h4,?_⟩,fun β=>?_⟩
     · rw[B6];intro u hu';obtain⟨i,hi⟩:=Gk hu'
       have:i<cs.toList.length:=by rw[← h5];exact P4 hi
       exact(h6 i u _ hi (AQ this)).1
     · have:=Rel.agg (ι:=ι') (σ:=σ++e) (β:=β) vs cs.toList h5 (fun u hu'=>by
        obtain⟨i,hi⟩:=Gk hu'
        have:i<cs.toList.length:=by rw[← h5];exact P4 hi
        exact(h6 i u _ hi (AQ this)).1) (fun i u w hi hw=>(h6 i u w hi hw).2 β)
       simpa using this
   · rename_i k hu;cases ha;obtain⟨n,rfl⟩:=okWide_int hu hok;exact one rfl rfl
   · rename_i hu;cases ha;obtain⟨n,rfl⟩:=okWide_bool hu hok;exact one rfl rfl
   · rename_i hu;cases ha;obtain⟨n,rfl⟩:=okWide_string hu hok;exact one rfl rfl
   · rename_i el hu;cases ha;obtain⟨x,y,z,rfl⟩:=okWide_slice hu hok;exact one rfl rfl
   · cases ha
 · cases ha
theorem VH{d:Nat}:∀ {ts:List TypeId} {tys:List (Ty×Bool)},KS P d ts=some tys→∀ {vs:List Value} {ds:List (DataW H)} {ps:List MemPlace},DataW.TrodAll enc P W 0 (fun _=>true) true ts vs ds ps →
 (∀ (j:Nat) t v,ts[j]?=some t→vs[j]?=some v→Value.okWide P W r base t v)→∀ (ι:Am) (σ:Ac),HRel ι σ W→C3 σ →
 ∃ ι' e us,HRel ι' (σ++e) W∧Keeps ι σ ι' (σ++e)∧C3 (σ++e)∧KM (σ++e) tys us∧us.length=vs.length∧∀ (i:Nat) u v,us[i]?=some u→vs[i]?=some v→(∀ j o,u≠.box j o)∧∀ β,Rel ι' (σ++e) β u v
 | [],tys,h,vs,ds,ps,hd,_,ι,σ,H0,hro=>by
   obtain⟨rfl,_,_⟩:=trodAll_nil hd
   cases h
   exact⟨ι,[],[],by simpa using H0,by simpa using Keeps.refl ι σ,by simpa using hro,trivial,rfl,by simp⟩
 | t :: ts,tys,h,vs,ds,ps,hd,hok,ι,σ,H0,hro=>by
   obtain⟨v,vs',x,ds',p,q,rfl,rfl,rfl,h1,h2⟩:=trodAll_cons hd
   unfold KS at h
   split at h
   · rename_i a b ha hb
     cases h
     obtain⟨ι1,e1,u,H1,K1,R1,A1,C1⟩:=fJ ha h1 (hok 0 t v rfl rfl) ι σ H0 hro
     obtain⟨ι2,e2,us,H2,K2,R2,A2,L2,C2⟩:=VH hb h2 (fun j t' v' hj hv=>hok (j+1) t' v' hj hv) ι1 (σ++e1) H1 R1
     refine⟨ι2,e1++e2,u::us,by rw[← Bm];exact H2,by rw[← Bm];exact K1.trans K2,by rw[← Bm];exact R2,by rw[← Bm];exact⟨A1.mono,A2⟩,by simp[L2],fun i u' v' hu hv=>?_⟩
     rw[← Bm]
     cases i with
     | zero=>
       simp at hu hv;subst hu;subst hv
       exact⟨A1.noBox,fun β=>(C1 β).mono K2 (fun j o e=>absurd e (A1.noBox j o))⟩
     |succ i=>exact C2 i u' v' (by simpa using hu) (by simpa using hv)
   · cases h
end
def Tq(P:Program)(ts:List TypeId):Bool:=ts.all fun t=>P.readableRec t&&decide (t<P.types.size)
theorem U6{H:Type}{enc:TypeId×Value→H}{P:Program}(hl:laidOutB P=true){W W':World}{sp':Nat→Bool}:∀ {ts:List TypeId} {vs:List Value} {ds:List (DataW H)} {ps:List MemPlace},Tq P ts=true →
 DataW.TrodAll enc P W 0 (fun _=>true) true ts vs ds ps→(∀ p∈ps,W.sameAt W' p)→(∀ p∈ps,sp' p.block=true)→DataW.TrodAll enc P W' 0 sp' true ts vs ds ps
 | [],vs,ds,ps,_,h,_,_=>by
   obtain⟨rfl,rfl,rfl⟩:=trodAll_nil h
   rfl
 | t::ts,vs,ds,ps,hr,h,h1,h2=>by
   obtain⟨v,vs',x,ds',p,q,rfl,rfl,rfl,g1,g2⟩:=trodAll_cons h
   unfold Tq at hr
   rw[Ea,Ai,Ai,Bf] at hr
   exact⟨p,q,WideElems.Trod_stays hl hr.1.1 hr.1.2 g1 (fun y hy=>h1 y (by simp[hy])) (fun y hy=>h2 y (by simp[hy])),U6 hl hr.2 g2 (fun y hy=>h1 y (by simp[hy])) (fun y hy=>h2 y (by simp[hy])),rfl⟩
theorem bL {H:Type} {enc:TypeId×Value→H} {P:Program} {f:Func} {s:ChangeSpec} {apart fresh handsOn again:Bool} {W W':World} {args:Array Value} {v:Value} {ds gs:List (DataW H)} {before pa pv:List MemPlace}
 (hW:DataW.Whole enc P f.params.toList s.vars apart W args.toList ds gs before)
 (hres:∀ (b:Nat) (sp:Nat→Bool) (hd:Bool),DataW.TrodAll enc P W' b sp hd f.resultTypes.toList (v.resultList f.resultTypes.size) (s.fn H (ds++gs)).results [])
 (hargs:∀ sp:Nat→Bool,(∀ p∈before,sp p.block=true)→DataW.TrodAll enc P W' 0 sp true f.params.toList args.toList (s.fn H (ds++gs)).args pa)
 (hvars:∀ sp:Nat→Bool,(∀ p∈before,sp p.block=true)→DataW.TrodVars enc P W' sp s.vars (s.fn H (ds++gs)).vars pv)
 (hps:before=pa++pv) (hb:Below W.heap.size W W')
 (hok:∀ (j:Nat) (t:TypeId) (r:Value),f.resultTypes[j]?=some t→(v.resultList f.resultTypes.size)[j]?=some r→Value.okWide P W' .any 0 t r) :
 s.post enc P f apart fresh handsOn again W args v W':=by
 have hlt:∀ p∈before,p.block<W.heap.size:=fun p hp=>hW.lt p hp
 have hold:∀ p∈before,(fun b=>decide (b<W.heap.size)) p.block=true:=fun p hp=>by simpa using hlt p hp
 refine⟨ds,gs,before,[],pa,pv,hW,hres _ _ _,hargs _ hold,hvars _ hold,World.keptBut_mono (fun p hp=>⟨hp,?_⟩) (hb.frame (·∈before)),fun _=>?_⟩
 · rw[hps,CY] at hp
   exact Or.inr hp
 · obtain⟨_,_,_,_,_,hz,hn⟩:=hW
   refine⟨hok,_,_,([]++pa)++pv,⟨[]++pa,pv,trodAll_append (hargs _ (fun _ _=>rfl)) (hres _ _ _),hvars _ (fun _ _=>rfl),rfl,?_,?_⟩,?_⟩
   · intro b off hp
     have hin:MemPlace.cell b off∈before:=by rw[hps];simpa using hp
     rw[hb.frozen (hlt _ hin)];exact hz b off hin
   · intro ha;have:=hn ha;rw[hps] at this;simpa using this
   · intro p hp _;rw[hps];simpa using hp
theorem cK {H:Type} {enc:TypeId×Value→H} {P:Program} {f:FuncId} {fn:Func} {s:ChangeSpec} {apart fresh handsOn again:Bool} {sem:AE} {tys:List (Ty×Bool)} {d:Nat} {tb:TypeId}
 (hs:AK P f sem) (has:KS P d fn.params.toList=some tys) (hrows:Tq P fn.params.toList=true) (hl:laidOutB P=true)
 (hres:fn.resultTypes=#[tb]) (htb:P.underlying tb=some .bool) (hvars:s.vars=[])
 (hspec:∀ ds:List (DataW H),ds.length=tys.length→s.fn H ds={ results:=[.lit (.bool true)],args:=ds })
 (law:∀ (σ:Ac) (us:List V),C3 σ→KM σ tys us→sem us σ fun r _=>r= .bool true)
 {W:World} {base:Nat} {args:Array Value} {ds gs:List (DataW H)} {before:List MemPlace}
 (hval:∀ (j:Nat) t v,fn.params[j]?=some t→args[j]?=some v→Value.okWide P W .any base t v)
 (hW:DataW.Whole enc P fn.params.toList s.vars apart W args.toList ds gs before) (hgl:GlW P W) :
 Calls P f args W fun e W'=>∃ v,e= .returned v∧s.post enc P fn apart fresh handsOn again W args v W':=by
 have hW':=hW
 obtain⟨p,q,hA,hV,rfl,hfz,hnd⟩:=hW
 rw[hvars] at hV
 obtain⟨rfl,rfl⟩:=trodVars_none hV
 rw[I8] at hW'
 obtain⟨ι,e,us,H1,_,R1,A1,L1,C1⟩:=VH (d:=d) has hA (fun j t v hj hv=>hval j t v (by simpa using hj) (by simpa using hv)) (fun _=>⟨0,0,0⟩) [] ⟨by simp,by simp,by simp,by simp⟩ (fun l b h=>by simp at h)
 simp only[B7] at H1 R1 A1 C1
 have hc:=hs Phm.no ι e W us args.toList _ (.no e) (by rw[MC];exact H1) (by rw[MC];exact⟨L1,fun i u v hu hv=>(C1 i u v hu hv).2⟩) (law e us R1 A1) ⟨hgl,fun nm hn g hg l blk hl hk=>by rw[MC] at hl;have:=R1 l blk hl;rw[hk] at this;cases this⟩
 have hlen:ds.length=tys.length:=by
  have h1:∀ {ts:List TypeId} {tys:List (Ty×Bool)},KS P d ts=some tys→tys.length=ts.length:=by
   intro ts
   induction ts with
   |nil=>intro tys h;cases h;rfl
   | cons t ts ih=>
     intro tys h;unfold KS at h;split at h
     · rename_i a b _ hb;cases h;simp[ih hb]
     · cases h
  have h2:∀ {ts:List TypeId} {vs:List Value} {ds:List (DataW H)} {ps:List MemPlace},DataW.TrodAll enc P W 0 (fun _=>true) true ts vs ds ps→ds.length=ts.length:=by
   intro ts
   induction ts with
   |nil=>intro vs ds ps h;obtain⟨_,rfl,_⟩:=trodAll_nil h;rfl
   | cons t ts ih=>
     intro vs ds ps h;obtain⟨v,vs',x,ds',p,q,rfl,rfl,rfl,_,g2⟩:=trodAll_cons h;simp[ih g2]
  rw[h1 has,h2 hA]
 refine(Calls.mono (by simpa using hc) fun en W' hd=>?_:Calls P f args W _)
 obtain⟨x,r,σ',ι',rfl,rfl,_,hx,_,hstep⟩:=hd
 rw[MC,MC] at hstep
 have hx':=hx (fun _=>0)
 cases hx'
 have hb:Below W.heap.size W W':=⟨hstep.os,hstep.tape,hstep.output,hstep.size,fun k hk=>hstep.frame k hk fun l blk hl hk'=>by have:=R1 l blk hl;rw[hk'] at this;cases this⟩
 have hfn:=hspec (ds++[]) (by simpa using hlen)
 have hlt:∀ x∈p,x.block<W.heap.size:=fun x hx=>hW'.lt x hx
 refine⟨_,rfl,bL (pa:=p) (pv:=[]) hW' (fun _ _ _=>?_) (fun sp hsp=>?_) (fun sp _=>?_) (by simp) hb (ok_one hres rfl (okWide_bool_mk htb true))⟩
 · rw[hfn,hres]
   exact trodAll_cons_mk (shut_bool htb true) trodAll_mk0
 · rw[hfn]
   simp only[I8];exact U6 hl hrows hA (fun x hx=>hb.same (hlt x hx)) hsp
 · rw[hfn,hvars]
   rfl
open Go.ChangeShapes
mutual
def CT.wf:(t:CT)→t.D→Prop
 |.int k,n=>(Lit.int k n).wf=true
 |.bool,_=>True
 |.str,s=>s.length≤maxLen
 |.ifc,_=>True
 |.sl r,l=>@List.length r.D l≤maxLen∧∀ x:r.D,@Membership.mem r.D (List r.D) inferInstance l x→RT.wf r x
def RT.wf:(r:RT)→r.D→Prop
 |.one t,x=>CT.wf t x
 |.cons t r,x=>CT.wf t x.1∧RT.wf r x.2
end
def AgX.wf:(l:List (Ql×CT))→AgX l→Prop
 |[],_=>True
 |[a],x=>a.2.wf x
 |a::b::r,x=>a.2.wf x.1∧AgX.wf (b::r) x.2
def HT.wf:(h:HT)→h.D→Prop
 |.one _ t,x=>t.wf x
 |.agg l,x=>AgX.wf l x
def TuX.wf:(l:List HT)→TuX l→Prop
 |[],_=>True
 |[a],x=>a.wf x
 |a::b::r,x=>a.wf x.1∧TuX.wf (b::r) x.2
def EU:List CT→RT
 |[]=>.one .bool
 |[a]=>.one a
 |a::b::r=>.cons a (EU (b::r))
def Ty.cts:Ty→List CT
 |.int k=>[.int k]
 |.bool=>[.bool]
 |.str=>[.str]
 |.sl t=>[.sl (EU t.cts)]
 |.unit=>[]
 |.pair a b=>a.cts++b.cts
def Ty.good:Ty→Bool
 |.sl t=>Nat.blt 0 t.w&&t.good
 |.pair a b=>a.good&&b.good
 |_=>true
def Iu:Ty×Bool→HT
 |(ty,true)=>.agg (ty.cts.map fun t=>(.frz,t))
 |(ty,false)=>match ty.cts with|[c]=>.one .frz c|_=>.agg []
def PF:Ty×Bool→Bool
 |(ty,true)=>ty.good
 |(ty,false)=>ty.good&&ty.cts.length == 1
def DL:List CT→Type
 |[]=>Unit
 |a::r=>a.D×DL r
def DL.wf:(l:List CT)→DL l→Prop
 |[],_=>True
 |a::r,x=>a.wf x.1∧DL.wf r x.2
def DL.enc:(l:List CT)→DL l→List PV
 |[],_=>[]
 |a::r,x=>CT.enc a x.1::DL.enc r x.2
def DL.encF:(l:List CT)→DL l→List PV
 |[],_=>[]
 |a::r,x=>(CT.dv .frz a x.1).enc::DL.encF r x.2
def DL.app:(l m:List CT)→DL l→DL m→DL (l++m)
 |[],_,_,y=>y
 |_::l,m,x,y=>(x.1,DL.app l m x.2 y)
theorem DL.app_enc:∀ (l m:List CT) (x:DL l) (y:DL m),DL.enc (l++m) (DL.app l m x y)=DL.enc l x++DL.enc m y
 |[],_,_,_=>rfl
 | a::l,m,x,y=>by
   show CT.enc a x.1::DL.enc (l++m) (DL.app l m x.2 y)=CT.enc a x.1::(DL.enc l x.2++DL.enc m y)
   rw[DL.app_enc l m x.2 y]
theorem DL.app_encF:∀ (l m:List CT) (x:DL l) (y:DL m),DL.encF (l++m) (DL.app l m x y)=DL.encF l x++DL.encF m y
 |[],_,_,_=>rfl
 | a::l,m,x,y=>by
   show (CT.dv .frz a x.1).enc::DL.encF (l++m) (DL.app l m x.2 y)=(CT.dv .frz a x.1).enc::(DL.encF l x.2++DL.encF m y)
   rw[DL.app_encF l m x.2 y]
theorem DL.app_wf:∀ (l m:List CT) (x:DL l) (y:DL m),DL.wf l x→DL.wf m y→DL.wf (l++m) (DL.app l m x y)
 |[],_,_,_,_,h=>h
 |_::l,m,x,y,h,h'=>⟨h.1,DL.app_wf l m x.2 y h.2 h'⟩
theorem DL.len:∀ (l:List CT) (x:DL l),(DL.enc l x).length=l.length
 |[],_=>rfl
 |_::l,x=>by show _+1=_+1;rw[DL.len l x.2]
theorem DL.lenF:∀ (l:List CT) (x:DL l),(DL.encF l x).length=l.length
 |[],_=>rfl
 |_::l,x=>by show _+1=_+1;rw[DL.lenF l x.2]
def DL.rt:(l:List CT)→DL l→(EU l).D
 |[],_=>false
 |[_],x=>x.1
 |_::b::r,x=>(x.1,DL.rt (b::r) x.2)
theorem DL.rt_enc:∀ (l:List CT) (x:DL l),l≠[]→RT.enc (EU l) (DL.rt l x)=DL.enc l x
 |[],_,h=>absurd rfl h
 |[_],_,_=>rfl
 | a::b::r,x,_=>by
   show CT.enc a x.1::RT.enc (EU (b::r)) (DL.rt (b::r) x.2)=CT.enc a x.1::DL.enc (b::r) x.2
   rw[DL.rt_enc (b::r) x.2 (by simp)]
theorem DL.rt_wf:∀ (l:List CT) (x:DL l),l≠[]→DL.wf l x→RT.wf (EU l) (DL.rt l x)
 |[],_,h,_=>absurd rfl h
 |[_],_,_,h=>h.1
 |a::b::r,x,_,h=>⟨h.1,DL.rt_wf (b::r) x.2 (by simp) h.2⟩
def DL.ag:(l:List CT)→DL l→AgX (l.map fun t=>(Ql.frz,t))
 |[],_=>()
 |[_],x=>x.1
 |_::b::r,x=>(x.1,DL.ag (b::r) x.2)
theorem DL.ag_enc:∀ (l:List CT) (x:DL l),DV.encL (BU (l.map fun t=>(Ql.frz,t)) (DL.ag l x))=DL.encF l x
 |[],_=>rfl
 |[_],_=>rfl
 | a::b::r,x=>by
   show (CT.dv .frz a x.1).enc::DV.encL (BU ((b::r).map fun t=>(Ql.frz,t)) (DL.ag (b::r) x.2))=(CT.dv .frz a x.1).enc::DL.encF (b::r) x.2
   rw[DL.ag_enc (b::r) x.2]
theorem DL.ag_wf:∀ (l:List CT) (x:DL l),DL.wf l x→AgX.wf (l.map fun t=>(Ql.frz,t)) (DL.ag l x)
 |[],_,_=>trivial
 |[_],_,h=>h.1
 |a::b::r,x,h=>⟨h.1,DL.ag_wf (b::r) x.2 h.2⟩
theorem G8:∀ (t:Ty),t.cts.length=t.w
 |.int _|.bool|.str|.sl _|.unit=>rfl
 |.pair a b=>by simp only[Ty.cts,Ty.w,DQ,G8 a,G8 b]
def ωro(σ:Ac):Nat→W:=fun l=>if l<σ.length then .frz else .none
theorem ωro_frz{σ:Ac}{l:Nat}{b:Blk}(h:σ[l]?=some b):ωro σ l= .frz:=by
 unfold ωro;rw[Ab (Bv h)]
theorem Ov:∀ (a b:List PV) (i:Nat),i<a.length→Aa (a++b) i=Aa a i
 |[],_,_,h=>by cases h
 |_::_,_,0,_=>rfl
 |_::a,b,i+1,h=>Ov a b i (by simpa using h)
theorem Oa:∀ (a b:List PV) (i:Nat),Aa (a++b) (a.length+i)=Aa b i
 |[],_,_=>by simp
 | _::a,b,i=>by
   have:=Oa a b i
   simp only[B1,AX,TM]
   exact this
theorem Q9:∀ (a b:List V) (i:Nat),i<a.length→get (a++b) i=get a i
 |[],_,_,h=>by cases h
 |_::_,_,0,_=>rfl
 |_::a,b,i+1,h=>Q9 a b i (by simpa using h)
theorem Q5:∀ (a b:List V) (i:Nat),get (a++b) (a.length+i)=get b i
 |[],_,_=>by simp
 | _::a,b,i=>by
   have:=Q5 a b i
   simp only[B1,AX,TM]
   exact this
theorem Q1:∀ (l:List V) (o n i:Nat),i<n→get ((l.drop o).take n) i=get l (o+i)
 |[],o,n,i,_=>by simp[get]
 |c::r,0,0,i,h=>by cases h
 |c::r,0,n+1,0,_=>rfl
 | c::r,0,n+1,i+1,h=>by
   have:=Q1 r 0 n i (by omega)
   simp only[Bd] at this
   simp only[MK,Tv,get,Bd]
   simpa using this
 | c::r,o+1,n,i,h=>by
   have:=Q1 r o n i h
   rw[List.drop_succ_cons,this,TM]
   rfl
theorem Ww{w:Nat}:∀ (es:List (List PV)) (i j:Nat),(∀ e∈es,e.length=w)→j<w→i<es.length→Aa es.flatten (i*w+j)=Aa (Aw es i) j
 |[],i,_,_,_,h=>by cases h
 | e::r,0,j,hw,hj,_=>by
   have he:=hw e (Jk ..)
   rw[Hc,Bd,Gn,Ov _ _ _ (by omega)]
   rfl
 | e::r,i+1,j,hw,hj,h=>by
   have he:=hw e (Jk ..)
   rw[Gn,show (i+1)*w+j=e.length+(i*w+j) by rw[he,Jo];omega,Oa]
   exact Ww r i j (fun e h=>hw e (List.mem_cons_of_mem _ h)) hj (by simpa using h)
theorem Xk {α:Type}(f:α→List PV):∀ (l:List α) (i:Nat) (h:i<l.length),Aw (l.map f) i=f l[i]
 |[],_,h=>by cases h
 |_::_,0,_=>rfl
 |_::l,i+1,h=>Xk f l i (by simpa using h)
theorem Mo{σ:Ac}:∀ (ty:Ty) {cs:List V},ty.good=true→Sh σ ty cs→∃ x:DL ty.cts,DL.wf ty.cts x ∧
 (∀ i,RC σ (ωro σ) .fz (Aa (DL.enc ty.cts x) i) (get cs i))∧∀ i hd p,RC σ (ωro σ) (.at hd p) (Aa (DL.encF ty.cts x) i) (get cs i)
 | .int k,cs,_,⟨n,h,hw⟩=>by
   subst h;exact⟨(n,()),⟨hw,trivial⟩,fun i=>by cases i<;>first|exact .v _ _ rfl|exact .undef _ _,fun i hd p=>by cases i<;>first|exact .v _ _ rfl|exact .undef _ _⟩
 | .bool,cs,_,⟨b,h⟩=>by
   subst h;exact⟨(b,()),⟨trivial,trivial⟩,fun i=>by cases i<;>first|exact .v _ _ rfl|exact .undef _ _,fun i hd p=>by cases i<;>first|exact .v _ _ rfl|exact .undef _ _⟩
 | .str,cs,_,⟨s,h,hl⟩=>by
   subst h;exact⟨(s,()),⟨hl,trivial⟩,fun i=>by cases i<;>first|exact .v _ _ rfl|exact .undef _ _,fun i hd p=>by cases i<;>first|exact .v _ _ rfl|exact .undef _ _⟩
 | .unit,cs,_,h=>by
   have h:cs=[]:=h;subst h;exact⟨(),trivial,fun i=>.undef _ _,fun i hd p=>.undef _ _⟩
 | .pair a b,cs,hg,⟨xs,ys,h,h1,h2⟩=>by
   simp only[Ty.good,Ai] at hg;obtain⟨x,x1,x2,x3⟩:=Mo a hg.1 h1;obtain⟨y,y1,y2,y3⟩:=Mo b hg.2 h2;have hl:=h1.len;subst h;refine⟨DL.app _ _ x y,DL.app_wf _ _ x y x1 y1,fun i=>?_,fun i hd p=>?_⟩
   · simp only[Ty.cts];rw[DL.app_enc];by_cases hi:i<a.w
     · rw[Ov _ _ _ (by rw[DL.len,G8];exact hi),Q9 _ _ _ (by rw[hl];exact hi)];exact x2 i
     · obtain⟨j,rfl⟩:=Nat.exists_eq_add_of_le (Nat.le_of_not_lt hi);have e1:=Oa (DL.enc a.cts x) (DL.enc b.cts y) j;have e2:=Q5 xs ys j;rw[DL.len,G8] at e1;rw[hl] at e2;rw[e1,e2];exact y2 j
   · simp only[Ty.cts];rw[DL.app_encF];by_cases hi:i<a.w
     · rw[Ov _ _ _ (by rw[DL.lenF,G8];exact hi),Q9 _ _ _ (by rw[hl];exact hi)];exact x3 i hd p
     · obtain⟨j,rfl⟩:=Nat.exists_eq_add_of_le (Nat.le_of_not_lt hi);have e1:=Oa (DL.encF a.cts x) (DL.encF b.cts y) j;have e2:=Q5 xs ys j;rw[DL.lenF,G8] at e1;rw[hl] at e2;rw[e1,e2];exact y3 j hd p
 | .sl t,cs,hg,h=>by
   simp only[Ty.good,Ai] at hg;have hw0:0<t.w:=BR hg.1
   have hne:t.cts≠[]:=by intro e;have:=G8 t;rw[e] at this;simp only[AY] at this;omega
   rcases h with h|⟨l,n,bs,h,hb,hbl,hn,he⟩
   · subst h;refine⟨(([]:List (EU t.cts).D),()),⟨⟨Ig _,fun x hx=>by cases hx⟩,trivial⟩,fun i=>?_,fun i hd p=>?_⟩
     · cases i<;>first|exact .nil _ _|exact .undef _ _
     · cases i<;>first|exact .nil _ _|exact .undef _ _
   · subst h
     have ex:∀ i,∃ x:DL t.cts,i<n→DL.wf t.cts x∧(∀ k,RC σ (ωro σ) .fz (Aa (DL.enc t.cts x) k) (get ((bs.drop (i*t.w)).take t.w) k)):=by
      intro i;by_cases hi:i<n
      · obtain⟨x,h1,h2,_⟩:=Mo t hg.2 (he i hi);exact⟨x,fun _=>⟨h1,h2⟩⟩
      · have h0:∀ l:List CT,Nonempty (DL l):=by
         intro l
         induction l with
         |nil=>exact⟨()⟩
         |cons a r ih=>obtain⟨y⟩:=ih;exact⟨(a.dflt,y)⟩
        obtain⟨y⟩:=h0 t.cts;exact⟨y,fun h=>absurd h hi⟩
     let f:Nat→DL t.cts:=fun i=>Classical.choose (ex i)
     have hf:∀ i,i<n→DL.wf t.cts (f i)∧∀ k,RC σ (ωro σ) .fz (Aa (DL.enc t.cts (f i)) k) (get ((bs.drop (i*t.w)).take t.w) k):=fun i hi=>Classical.choose_spec (ex i) hi
     let L:List (EU t.cts).D:=(List.range n).map fun i=>DL.rt t.cts (f i)
     have hL:L.length=n:=by simp[L]
     have hLw:∀ e∈L.map (RT.enc (EU t.cts)),e.length=t.w:=by
      intro e he;obtain⟨y,hy,rfl⟩:=List.mem_map.mp he;obtain⟨i,_,rfl⟩:=List.mem_map.mp hy;rw[DL.rt_enc _ _ hne,DL.len,G8]
     have hcell:∀ k,k<L.length*t.w→RC σ (ωro σ) .fz (Aa (L.map (RT.enc (EU t.cts))).flatten k) (get bs (0+k)):=by
      intro k hk
      have hdm:k / t.w*t.w+k % t.w=k:=by rw[Qd];exact PQ k t.w
      have hmod:=Ha k hw0
      have hdiv:k / t.w<n:=by rw[hL] at hk;exact(P3 hw0).2 hk
      have e1:=Ww (L.map (RT.enc (EU t.cts))) (k / t.w) (k % t.w) hLw hmod (by rw[Bg,hL];exact hdiv);rw[hdm] at e1;rw[e1,Xk _ _ _ (by rw[hL];exact hdiv),Bd];have e2:=Q1 bs (k / t.w*t.w) t.w (k % t.w) hmod;rw[hdm] at e2
      have e3:L[k / t.w]'(by rw[hL];exact hdiv)=DL.rt t.cts (f (k / t.w)):=by simp[L]
      rw[e3,DL.rt_enc _ _ hne,← e2];exact(hf _ hdiv).2 _
     have hwf:∀ x∈L,RT.wf (EU t.cts) x:=by
      intro x hx;obtain⟨i,hi,rfl⟩:=List.mem_map.mp hx;exact DL.rt_wf _ _ hne (hf i (List.mem_range.mp hi)).1
     have hle:0+(L.map (RT.enc (EU t.cts))).length*t.w≤bs.length:=by rw[Bg,hL,hbl];omega
     refine⟨(L,()),⟨⟨by rw[hL];exact hn,hwf⟩,trivial⟩,fun i=>?_,fun i hd p=>?_⟩
     · cases i with
       |succ i=>exact .undef _ _
       |zero=>exact .sl _ _ _ _ _ _ _ hb (by simp) (ωro_frz hb) (fun e=>by cases e) (by rw[Bg,hL]) hLw hle fun k hk=>hcell k (by rw[Bg] at hk;exact hk)
     · cases i with
       |succ i=>exact .undef _ _
       |zero=>exact .sl _ _ _ _ _ _ _ hb (by simp) (ωro_frz hb) (fun _ e=>by rcases e with e|⟨_,_,e⟩<;>cases e) (by rw[Bg,hL]) hLw hle fun k hk=>hcell k (by rw[Bg] at hk;exact hk)
structure ArgD (σ:Ac) (v:PV) (u:V):Prop where
 rc:∀ hd p c,RC σ (ωro σ) (.at hd p) (v.fcell c) (u.fcell c)
 sh:Ay v u
 nx:∀ c i pb tp,(v.fcell c).q≠some (.bor (.x i) pb tp)
theorem jR{v:V}(h:v.cell=true):(∀ us,v≠.agg us)∧∀ us,v≠.tup us:=by
 constructor<;>rintro us rfl<;>cases h
theorem TY:∀ (l:List CT) (x:DL l) (i:Nat) (a:Hd) (pb:List Nat) (tp:Bool),(Aa (DL.encF l x) i).q≠some (.bor a pb tp)
 |[],_,_,_,_,_=>by simp[DL.encF,Aa,PV.q]
 |c::r,x,0,a,pb,tp=>by cases c<;>simp[DL.encF,Aa,CT.dv,DV.enc,PV.q]
 |_::r,x,i+1,a,pb,tp=>TY r x.2 i a pb tp
theorem Xb{σ:Ac}{a:Ty×Bool}{u:V}(hg:PF a=true)(h:ArgOk σ a u):∃ x:(Iu a).D,(Iu a).wf x∧ArgD σ ((Iu a).dv x).enc u:=by
 obtain⟨ty,b⟩:=a
 cases b with
 | true=>
   obtain⟨cs,rfl,hs,hc⟩:=h;obtain⟨x,h1,_,h3⟩:=Mo ty hg hs;have hle:=hs.len;refine⟨DL.ag ty.cts x,DL.ag_wf _ _ h1,?_⟩
   have he:((Iu (ty,true)).dv (DL.ag ty.cts x)).enc= .agg (DL.encF ty.cts x):=by
    show PV.agg _=PV.agg _;rw[DL.ag_enc]
   rw[he];refine⟨fun hd p c=>?_,⟨cs,rfl,by rw[hle,DL.lenF,G8]⟩,fun c i pb tp=>?_⟩
   · match c with
     |[]=>exact .undef _ _
     |[c]=>exact h3 c hd p
     |_::_::_=>exact .undef _ _
   · match c with
     |[]=>simp[PV.fcell,PV.q]
     |[c]=>exact TY _ _ _ _ _ _
     |_::_::_=>simp[PV.fcell,PV.q]
 | false =>
   obtain⟨hs,hc⟩:=h;simp only[PF,Ai,AA] at hg;obtain⟨x,h1,_,h3⟩:=Mo ty hg.1 hs
   have key:∀ (l:List CT) (x:DL l),l.length=1→DL.wf l x→(∀ i hd p,RC σ (ωro σ) (.at hd p) (Aa (DL.encF l x) i) (get [u] i)) →
    ∃ y:(match l with|[c]=>HT.one .frz c|_=>HT.agg []).D,(match l with|[c]=>HT.one .frz c|_=>HT.agg []).wf y∧ArgD σ ((match l with|[c]=>HT.one .frz c|_=>HT.agg []).dv y).enc u:=by
    intro l x hl hwf h3
    match l,x,hl,hwf,h3 with
    | [c],x,_,hwf,h3=>
      have hsc:=jR hc
      have hnf:∀ p,p≠[0]→((CT.dv .frz c x.1).enc).fcell p= .fl .undef:=by
       intro p hp;cases c<;>(match p with|[]=>rfl|[0]=>exact absurd rfl hp|(_+1)::_=>rfl|0::_::_=>rfl)
      have hf0:((CT.dv .frz c x.1).enc).fcell [0]=(CT.dv .frz c x.1).enc:=by cases c<;>rfl
      have hu0:u.fcell [0]=u:=by cases u<;>first|rfl|exact absurd rfl (hsc.1 _)|exact absurd rfl (hsc.2 _)
      refine⟨x.1,hwf.1,⟨fun hd p q=>?_,?_,fun q i pb tp=>?_⟩⟩
      · by_cases hq:q=[0]
        · subst hq;show RC σ (ωro σ) (.at hd p) (((CT.dv .frz c x.1).enc).fcell [0]) (u.fcell [0]);rw[hf0,hu0];exact h3 0 hd p
        · show RC σ (ωro σ) (.at hd p) (((CT.dv .frz c x.1).enc).fcell q) (u.fcell q);rw[hnf q hq];exact .undef _ _
      · show Ay ((CT.dv .frz c x.1).enc) u;cases c<;>exact hsc
      · show (((CT.dv .frz c x.1).enc).fcell q).q≠_;by_cases hq:q=[0]
        · subst hq;rw[hf0];exact TY [c] x 0 _ _ _
        · rw[hnf q hq];simp[PV.q]
   exact key ty.cts x hg.2 h1 h3
theorem Rt{σ:Ac}:∀ {tys:List (Ty×Bool)} {us:List V},tys.all PF=true→KM σ tys us→∃ x:TuX (tys.map Iu),TuX.wf _ x∧us.length=tys.length ∧
 ∀ t,ArgD σ (Aa (DV.encL (Ck (tys.map Iu) x)) t) (get us t)
 |[],[],_,_=>⟨(),trivial,rfl,fun t=>⟨fun hd p c=>by
  have:(PV.fl V.undef).fcell c= .fl .undef:=by match c with|[]=>rfl|[0]=>rfl|(_+1)::_=>rfl|0::_::_=>rfl
  show RC σ (ωro σ) (.at hd p) ((PV.fl V.undef).fcell c) _
  rw[this];exact .undef _ _,trivial,fun c i pb tp=>by
  have:(PV.fl V.undef).fcell c= .fl .undef:=by match c with|[]=>rfl|[0]=>rfl|(_+1)::_=>rfl|0::_::_=>rfl
  show ((PV.fl V.undef).fcell c).q≠_
  rw[this];simp[PV.q]⟩⟩
 | [a],[u],hg,h=>by
   simp only[Ea,List.all_nil,Jr] at hg;obtain⟨x,h1,h2⟩:=Xb hg h.1;obtain⟨_,_,_,h4⟩:=Rt (σ:=σ) (tys:=[]) (us:=[]) rfl trivial;refine⟨x,h1,rfl,fun t=>?_⟩
   cases t with
   |zero=>exact h2
   |succ t=>exact h4 t
 | a::b::r,u::us,hg,h=>by
   rw[Ea,Ai] at hg;obtain⟨x,h1,h2⟩:=Xb hg.1 h.1;obtain⟨y,h3,h4,h5⟩:=Rt (tys:=b::r) (us:=us) hg.2 h.2;refine⟨(x,y),⟨h1,h3⟩,by simp[h4],fun t=>?_⟩
   cases t with
   |zero=>exact h2
   |succ t=>exact h5 t
 |[_],_::_::_,_,h=>h.2.elim
 |[_],[],_,h=>h.elim
 |_::_::_,[],_,h=>h.elim
 |[],_::_,_,h=>h.elim
theorem lv{σ:Ac}{as:List PV}{us:List V}(hl:as.length=us.length)(h:∀ t,ArgD σ (Aa as t) (get us t)):RS σ (ωro σ) (ωro σ) (fun _=>0) ⟨as,[],[]⟩ ⟨us,[],σ⟩ X0:=by
 have no:∀ l hd p,ωro σ l≠.own hd p:=by intro l hd p e;unfold ωro at e;split at e<;>cases e
 have nop:∀ l i,ωro σ l≠.ptr i:=by intro l i e;unfold ωro at e;split at e<;>cases e
 have hund:∀ c,(PV.fl V.undef).fcell c= .fl .undef:=by
  intro c;match c with|[]=>rfl|[0]=>rfl|(_+1)::_=>rfl|0::_::_=>rfl
 have cat:∀ (c:List Nat) (l:List V),(AF [] l c).1= .fl .undef:=by
  intro c l;match c with|[]=>rfl|[_]=>rfl|_::_::_=>rfl
 refine⟨⟨fun hd p=>?_,fun l l' hd p e=>absurd e (no l hd p),fun l l' i e=>absurd e (nop l i),fun l e=>?_,fun l e=>?_⟩,fun t=>(h t).sh,fun i=>trivial,hl,rfl,fun i=>rfl,fun i c=>rfl,fun i c=>rfl,fun i hi=>(by cases hi),fun l i e=>absurd e (nop l i),fun l i p e=>absurd e (no l _ p),⟨Ba _,fun l _ _=>⟨rfl,rfl⟩,fun l hlt e=>(by rw[e];simp),fun l i e=>e⟩,fun hd p i pb tp=>?_⟩
 · cases hd with
   |s t=>exact(h t).rc _ _ _
   |b i=>show RC σ (ωro σ) _ (AF [] (Au [] i) p).1 _;rw[cat];exact .undef _ _
   |h i=>show RC σ (ωro σ) _ (AF [] _ p).1 _;rw[cat];exact .undef _ _
   |x i=>show RC σ (ωro σ) _ ((PV.fl V.undef).fcell p) _;rw[hund];exact .undef _ _
 · rcases e with⟨hd,p,e⟩|⟨i,e⟩
   · exact absurd e (no l hd p)
   · exact absurd e (nop l i)
 · unfold ωro at e;split at e
   · assumption
   · cases e
 · cases hd with
   |s t=>exact(h t).nx p i pb tp
   |b j=>show (AF [] (Au [] j) p).1.q≠_;rw[cat];simp[PV.q]
   |h j=>show (AF [] _ p).1.q≠_;rw[cat];simp[PV.q]
   |x j=>show ((PV.fl V.undef).fcell p).q≠_;rw[hund];simp[PV.q]
theorem ki {f:DFun} {tys:List (Ty×Bool)} {hs:List HT} {s:AE} (hsp:CG s (CF f.er)) (hhs:tys.map Iu=hs) (hg:tys.all PF=true) (ho:AllD f.body.obs)
 (hst:Ll f hs (.one (.one .own .bool))=true) (hc:∀ x,Lh f hs (.one (.one .own .bool)) x=true)
 (law:∀ x:TuX hs,TuX.wf hs x→JB f hs (.one (.one .own .bool)) x∧JK f hs (.one (.one .own .bool)) x=true) (σ:Ac) (us:List V) (hro:C3 σ) (ha:KM σ tys us):s us σ fun r _=>r= .bool true:=by
 subst hhs
 obtain⟨x,h1,h2,h3⟩:=Rt hg ha
 obtain⟨l1,l2⟩:=law x h1
 have hlen:(DV.encL (Ck (tys.map Iu) x)).length=us.length:=by rw[Dm,KD,Bg,h2]
 refine hsp σ (ωro σ) (fun _=>0) _ us [] (fun r _=>r= .fl (.bool true)) _ (lv hlen h3) (fun l hd p e=>?_) ?_ fun u h' r H' ω' ρ' hQ R' _=>?_
 · exfalso;unfold ωro at e;split at e<;>cases e
 · refine Xj ho hst x (hc x) l1 fun H=>?_
   rw[l2];rfl
 · subst hQ
   have r:=R'.core.rc (.x 0) [0];have hs:=R'.shx 0;have r:RC h' ω' (.at (.x 0) [0]) (.fl (.bool true)) (u.fcell [0]):=r
   have hu:u.fcell [0]=u:=by
    have hs:Ay (.fl (.bool true)) u:=hs
    cases u<;>first|rfl|exact absurd rfl (hs.1 _)|exact absurd rfl (hs.2 _)
   rw[hu] at r;cases r;rfl
def rk(pu:Bool)(res:List ARes)(h0:Ac)(Q:V→Ac→Prop):DW:=QA ⟨0,0,0,pu,res,.skip⟩ h0 Q
@[congr] theorem me {c:ACode} {k:DW} {st st':St} (h:st=st'):C6 c k st=C6 c k st':=by rw[h]
@[congr] theorem mc {o:List AOper} {k:St→Prop} {st st':St} (h:st=st'):BT o k st=BT o k st':=by rw[h]
@[congr] theorem mf {o:AOp} {d:Option Nat} {k:St→Prop} {st st':St} (h:st=st'):AH o d k st=AH o d k st':=by rw[h]
@[congr] theorem ma {n:St→Prop} {k:DW} {e e':AExit} {st st':St} (he:e=e') (h:st=st'):JF n k e st=JF n k e' st':=by rw[he,h]
@[congr] theorem l7 {i:Nat} {k:DW} {e e':AExit} {st st':St} (he:e=e') (h:st=st'):KX i k e st=KX i k e' st':=by rw[he,h]
@[congr] theorem mg {pu:Bool} {res:List ARes} {h0:Ac} {Q:V→Ac→Prop} {e e':AExit} {st st':St} (he:e=e') (h:st=st'):rk pu res h0 Q e st=rk pu res h0 Q e' st':=by rw[he,h]
def kS:V→Option V
 |.nils=>some (.int .i64 0)
 |.slice _ _ n=>some (.int .i64 n)
 |_=>none
def XD(hp:Ac)(n:Option Nat):V→Option V
 |.ptr l o=>(rd hp l o (n.getD 1)).bind fun cs=>Cg n cs
 |_=>none
def RZ(bx:List (List V))(hp:Ac)(n:Nat)(a x:V):Option (V×List (List V)×Ac):=match a with
 |.ptr l o=>if x.cells.length=n∧x.cells.all V.cell then (wr hp l o x.cells).bind fun h=>some (.undef,bx,h) else none
 |_=>none
theorem bind_some{α:Type}(o:Option α):(o.bind fun x=>some x)=o:=by cases o<;>rfl
section
variable {α:Type}
def Lr(f:α→Int→α×Int):List α→Int→List α×Int
 |[],m=>([],m)
 |a::r,m=>((f a m).1::(Lr f r (f a m).2).1,(Lr f r (f a m).2).2)
end
def ln:IntKind→Int→Int
 |.i64,m=>m
 |k,m=>k.wrap m
mutual
def CT.mkI:(t:CT)→t.D→Int→t.D×Int
 |.int k,_,m=>(ln k m,IntKind.i64.wrap (m+1))
 |.bool,_,m=>((m.tmod 3 == 0:Bool),IntKind.i64.wrap (m+1))
 |.str,s,m=>(s,m)
 |.ifc,b,m=>(b,m)
 |.sl r,l,m=>Lr (RT.mkI r) l m
def RT.mkI:(r:RT)→r.D→Int→r.D×Int
 |.one t,x,m=>CT.mkI t x m
 |.cons t r,x,m=>(((CT.mkI t x.1 m).1,(RT.mkI r x.2 (CT.mkI t x.1 m).2).1),(RT.mkI r x.2 (CT.mkI t x.1 m).2).2)
end
mutual
def CT.wl:(t:CT)→t.D→Prop
 |.sl r,l=>l.length≤9223372036854775807∧∀ a:r.D,List.Mem a l→RT.wl r a
 |_,_=>True
def RT.wl:(r:RT)→r.D→Prop
 |.one t,x=>CT.wl t x
 |.cons t r,x=>CT.wl t x.1∧RT.wl r x.2
end
section
variable {h h':Ac} {ω:Nat→W} {hd:Hd} {p:List Nat}
abbrev Jy (ω:Nat→W) (hd:Hd) (p:List Nat):Nat→Prop:=fun l=>∃ q,ω l= .own hd (p++q)
abbrev MS (h:Ac) (ω:Nat→W) (hd:Hd) (p:List Nat) (r:RT) (l:List r.D) (u:V):Prop:=RC h ω (.inn hd p) (.sl .own (l.map r.enc)) u
theorem MS.len{r:RT}{l:List r.D}{u:V}(M:MS h ω hd p r l u):kS u=some (.int .i64 (l.length:Int)):=by
 unfold MS at M;generalize he:l.map r.enc=es at M
 have hl:l.length=es.length:=by rw[← he,Bg]
 cases M with
 |nil=>rw[hl];rfl
 |sl _ _ _ l o n b h1 hk hc hne hn hw hle hr=>rw[hl,← hn];rfl
theorem MS.ok1{r:RT}{l:List r.D}{u:V}(M:MS h ω hd p r l u):u.ok1=true∧u.cell=true:=by
 unfold MS at M;generalize l.map r.enc=es at M;cases M<;>exact⟨rfl,rfl⟩
theorem MS.slice{r:RT}{l:List r.D}{u:V}(M:MS h ω hd p r l u)(hl:0<l.length):∃ b,u= .slice b 0 l.length:=by
 unfold MS at M;generalize he:l.map r.enc=es at M
 have hl':l.length=es.length:=by rw[← he,Bg]
 cases M with
 |nil=>rw[hl'] at hl;simp at hl
 | sl _ _ _ b o n bk h1 hk hc hne hn hw hle hr=>
   obtain⟨_,rfl,_⟩:=hc;exact⟨b,by rw[hl',hn]⟩
theorem MS.upd {r:RT} {l:List r.D} {b n:Nat} (M:MS h ω hd p r l (.slice b 0 n)) {i off:Nat} (hi:i<l.length) (hoff:off<r.w) {y:r.D} {c:PV} (hy:r.enc y=Ao (r.enc (l.getD i r.dflt)) off [c])
 {bk:Blk} (h1:h[b]?=some bk) {cs':List V} (h1':h'[b]?=some { bk with cs:=cs' }) (hcl:cs'.length=bk.cs.length) {v:V} (hcs:∀ k,get cs' k=if k=i*r.w+off then v else get bk.cs k)
 (hO:∀ x,x≠b→(∀ q,ω x≠.own hd (p++(i*r.w+off)::q))→h'[x]?=h[x]?) (hc:RC h' ω (.inn hd (p++[i*r.w+off])) c v):MS h' ω hd p r (l.set i y) (.slice b 0 n):=by
 unfold MS at M ⊢
 rw[← Mb,hy,← E8 r l i hi]
 generalize he:l.map r.enc=es at M
 have hl':l.length=es.length:=by rw[← he,Bg]
 have hwr:∀ e∈es,e.length=r.w:=by rw[← he];intro e h;obtain⟨x,_,rfl⟩:=List.mem_map.1 h;exact H8 r x
 have hi':i<es.length:=by rw[← hl'];exact hi
 cases M with
 | sl _ _ _ _ o _ bk' h1b hk hch hne hn hw hle hr=>
   rw[h1] at h1b;cases h1b
   have hbw:bk.w=r.w:=by rw[← hw _ (D9 (l:=es) hi')];exact hwr _ (D9 hi')
   have hel:=I4 hw hi';obtain⟨hb1,_,hb3⟩:=hch
   refine RC.sl _ .own _ b 0 n { bk with cs:=cs' } h1' hk ⟨hb1,rfl,hb3⟩ (fun _ _ h=>by have:=congrArg List.length h;rw[Dn] at this;simp only[AY] at this;omega) (by rw[Dn];exact hn) (ML hw (by rw[Ej];exact hel)) (by rw[Dn];simp only[hcl];exact hle) fun k hk'=>?_
   simp only[Dn] at hk';rw[O5 hw hi' (by rw[hbw];simp only[AX,AY];omega) k hk',Bd,hcs];simp only[AX,AY,hbw];by_cases hkk:k=i*r.w+off
   · subst hkk;rw[Ab ⟨by omega,by omega⟩,Ab rfl,P7];exact hc
   · rw[Ad (by omega),Ad hkk];have r0:=hr k hk';rw[Bd] at r0;refine r0.inn0 (f:=Ren.id) (T:=fun x=>x=b∨∃ q,ω x= .own hd (p++(i*r.w+off)::q)) ⟨fun x e=>⟨e,hO x (by rintro rfl;rw[hb1] at e;cases e) (fun q e'=>by rw[e] at e';cases e')⟩,fun x a q e hn=>⟨by rw[e];rfl,hO x (fun h=>hn (.inl h)) (fun q' e'=>hn (.inr ⟨q',e'⟩))⟩⟩ (fun x q e hT=>?_) (fun q=>rfl);rcases hT with rfl|⟨q',e'⟩
     · rw[hb1] at e;simp only[W.own.injEq] at e;have:=congrArg List.length e.2;simp at this
     · rw[e] at e';simp only[W.own.injEq,Bm,B1,B7,List.append_cancel_left_eq,Fe] at e';exact hkk e'.2.1
theorem MS.store {r:RT} {l:List r.D} {b n:Nat} (M:MS h ω hd p r l (.slice b 0 n)) {i off:Nat} (hi:i<l.length) (hoff:off<r.w) {v:V} (hv:v.flat=true) (hvc:v.cells=[v]) {y:r.D} (hy:r.enc y=Ao (r.enc (l.getD i r.dflt)) off [.fl v])
 (hinj:∀ l l' a q,ω l= .own a q→ω l'= .own a q→l=l') (bx:List (List V)):∃ h',RZ bx h 1 (.ptr b (i*r.w+off)) v=some (.undef,bx,h')∧Only (Jy ω hd p) h h'∧MS h' ω hd p r (l.set i y) (.slice b 0 n):=by
 have M0:=M
 unfold MS at M0
 generalize he:l.map r.enc=es at M0
 have hl':l.length=es.length:=by rw[← he,Bg]
 have hwr:∀ e∈es,e.length=r.w:=by rw[← he];intro e h;obtain⟨x,_,rfl⟩:=List.mem_map.1 h;exact H8 r x
 have hi':i<es.length:=by rw[← hl'];exact hi
 cases M0 with
 | sl _ _ _ _ o _ bk h1 hk hch hne hn hw hle hr=>
   have hbw:bk.w=r.w:=by rw[← hw _ (D9 (l:=es) hi')];exact hwr _ (D9 hi')
   obtain⟨hb1,_,hb3⟩:=hch
   have hlt:i*r.w+off<bk.cs.length:=by
    have:(i+1)*r.w≤es.length*r.w:=Gf _ hi';rw[CJ,Ih] at this;rw[hbw] at hle;omega
   have hb:b<h.length:=Bv h1
   have hset:∀ k,(h.set b { bk with cs:=splice bk.cs (i*r.w+off) [v] })[k]?=if k=b then some { bk with cs:=splice bk.cs (i*r.w+off) [v] } else h[k]?:=by
    intro k;rw[ED];by_cases hk:b=k
    · subst hk;simp[hb]
    · rw[Ad hk,Ad (fun h'=>hk h'.symm)]
   have hvcell:[v].all V.cell=true:=by
    cases v<;>first|rfl|(simp[V.flat] at hv)
   refine⟨h.set b { bk with cs:=splice bk.cs (i*r.w+off) [v] },?_,⟨by simp,fun x hx=>?_,fun x bx' hx=>?_⟩,M.upd hi hoff hy h1 (cs':=splice bk.cs (i*r.w+off) [v]) (v:=v) (by rw[hset,Ab rfl]) (D3 _ _ _) (fun k=>?_) (fun x hx _=>by rw[hset,Ad hx]) (.v _ _ hv)⟩
   · have hwr':wr h b (i*r.w+off) [v]=some (h.set b { bk with cs:=splice bk.cs (i*r.w+off) [v] }):=by
      rw[wr,h1];simp only;rw[Ab ⟨hb3,by simp only[AX,AY];omega⟩]
     simp only[RZ,hvc,hvcell,AX,AY,hwr'];rfl
   · rw[hset,Ad];rintro rfl;exact hx ⟨[],by rw[hb1];simp⟩
   · by_cases hxb:x=b
     · subst hxb;rw[h1] at hx;cases hx;exact⟨{ bk with cs:=splice bk.cs (i*r.w+off) [v] },by rw[hset,Ab rfl],rfl,rfl,D3 _ _ _⟩
     · exact⟨bx',by rw[hset,Ad hxb];exact hx,rfl,rfl,rfl⟩
   · rw[LP _ _ _ _ (by simp only[AX,AY];omega)];simp only[AX,AY];by_cases hkk:k=i*r.w+off
     · subst hkk;rw[Ab ⟨by omega,by omega⟩,Ab rfl,P7];rfl
     · rw[Ad (by omega),Ad hkk]
theorem MS.load{r:RT}{l:List r.D}{b n:Nat}(M:MS h ω hd p r l (.slice b 0 n)){i off:Nat}(hi:i<l.length)(hoff:off<r.w){r':RT}{l':List r'.D}(hx:Aa (r.enc (l.getD i r.dflt)) off= .sl .own (l'.map r'.enc)) :
 ∃ u,XD h none (.ptr b (i*r.w+off))=some u∧MS h ω hd (p++[i*r.w+off]) r' l' u∧∃ bk,h[b]?=some bk∧get bk.cs (i*r.w+off)=u:=by
 have M0:=M
 unfold MS at M0
 rw[← E8 r l i hi] at hx
 generalize he:l.map r.enc=es at M0 hx
 have hl':l.length=es.length:=by rw[← he,Bg]
 have hwr:∀ e∈es,e.length=r.w:=by rw[← he];intro e h;obtain⟨x,_,rfl⟩:=List.mem_map.1 h;exact H8 r x
 have hi':i<es.length:=by rw[← hl'];exact hi
 cases M0 with
 | sl _ _ _ _ o _ bk h1 hk hch hne hn hw hle hr=>
   have hbw:bk.w=r.w:=by rw[← hw _ (D9 (l:=es) hi')];exact hwr _ (D9 hi')
   have hm:(i+1)*r.w≤es.length*r.w:=Gf _ hi';rw[CJ,Ih] at hm
   have hlt:i*r.w+off<bk.cs.length:=by rw[hbw] at hle;omega
   have r0:=hr (i*r.w+off) (by rw[hbw];omega);rw[Bd] at r0;have hf:Aa es.flatten (i*r.w+off)=Aa (Aw es i) off:=Fz (w:=r.w) (by rw[← hbw];exact hw) i off hoff;rw[hf,hx] at r0;refine⟨get bk.cs (i*r.w+off),?_,r0,bk,h1,rfl⟩
   have e1:rd h b (i*r.w+off) 1=some ((bk.cs.drop (i*r.w+off)).take 1):=by
    rw[rd,h1];simp only;rw[Ab ⟨hk,by omega⟩]
   show (rd h b (i*r.w+off) 1).bind (Cg none)=_;rw[e1];rw[Ti hlt];simp only[Tv,List.take_zero,Et,Cg,Cf,AQ hlt];rfl
theorem MS.sub {r:RT} {l:List r.D} {b n:Nat} (M:MS h ω hd p r l (.slice b 0 n)) {i off:Nat} (hi:i<l.length) (hoff:off<r.w) {u:V} {bk:Blk} (h1:h[b]?=some bk) (hu:get bk.cs (i*r.w+off)=u)
 (hO:Only (Jy ω hd (p++[i*r.w+off])) h h') {r':RT} {l':List r'.D} (hr:MS h' ω hd (p++[i*r.w+off]) r' l' u) {y:r.D} (hy:r.enc y=Ao (r.enc (l.getD i r.dflt)) off [.sl .own (l'.map r'.enc)]) :
 Only (Jy ω hd p) h h'∧MS h' ω hd p r (l.set i y) (.slice b 0 n):=by
 have hb1:ω b= .own hd p:=by
  have M0:=M;unfold MS at M0;generalize l.map r.enc=es at M0
  cases M0 with
  |sl _ _ _ _ o _ bk h1 hk hch hne hn hw hle hr=>exact hch.1
 refine⟨hO.mono fun x ⟨q,e⟩=>⟨(i*r.w+off)::q,by rw[e];simp⟩,M.upd hi hoff hy h1 (cs':=bk.cs) (v:=u) ?_ rfl (fun k=>?_) (fun x _ hx=>hO.off x (fun⟨q,e⟩=>hx q (by rw[e];simp))) hr⟩
 · rw[hO.off b]
   · exact h1
   · rintro⟨q,e⟩;rw[hb1] at e;simp only[W.own.injEq] at e;have:=congrArg List.length e.2;simp at this
 · split
   · rename_i hk;rw[hk,hu]
   · rfl
theorem MS.frame{r:RT}{l:List r.D}{u:V}(M:MS h ω hd p r l u){i:Nat}(hi:i<l.length):MS h ω hd p r (l.set i (l.getD i r.dflt)) u:=by
 have:l.set i (l.getD i r.dflt)=l:=by
  rw[Ey,AQ hi];simp
 rw[this];exact M
theorem Rq{r:RT}{l:List r.D}{i:Nat}(hi:i<l.length)(x:r.D):(l.set i x).getD i r.dflt=x:=by
 rw[Ey,List.getElem?_set_self (by simpa using hi)];rfl
theorem MS.st {r:RT} {l:List r.D} {b n i:Nat} {x:r.D} (M:MS h ω hd p r (l.set i x) (.slice b 0 n)) (hi:i<l.length) {off:Nat} (hoff:off<r.w) {v:V} (hv:v.flat=true) (hvc:v.cells=[v]) {y:r.D} (hy:r.enc y=Ao (r.enc x) off [.fl v])
 (hinj:∀ l l' a q,ω l= .own a q→ω l'= .own a q→l=l') (bx:List (List V)):∃ h',RZ bx h 1 (.ptr b (i*r.w+off)) v=some (.undef,bx,h')∧Only (Jy ω hd p) h h'∧MS h' ω hd p r (l.set i y) (.slice b 0 n):=by
 obtain⟨h',e1,e2,e3⟩:=M.store (i:=i) (off:=off) (by simpa using hi) hoff hv hvc (y:=y) (by rw[Rq hi];exact hy) hinj bx
 rw[List.set_set] at e3
 exact⟨h',e1,e2,e3⟩
theorem MS.sb{r:RT}{l:List r.D}{b n i:Nat}{x:r.D}(M:MS h ω hd p r (l.set i x) (.slice b 0 n))(hi:i<l.length){off:Nat}(hoff:off<r.w){r':RT}{l':List r'.D}(hx:Aa (r.enc x) off= .sl .own (l'.map r'.enc)) :
 ∃ u,XD h none (.ptr b (i*r.w+off))=some u∧MS h ω hd (p++[i*r.w+off]) r' l' u ∧
   ∀ (h':Ac) (l'':List r'.D) (y:r.D),Only (Jy ω hd (p++[i*r.w+off])) h h'→MS h' ω hd (p++[i*r.w+off]) r' l'' u→r.enc y=Ao (r.enc x) off [.sl .own (l''.map r'.enc)]→Only (Jy ω hd p) h h'∧MS h' ω hd p r (l.set i y) (.slice b 0 n):=by
 obtain⟨u,e1,e2,bk,e3,e4⟩:=M.load (i:=i) (off:=off) (by simpa using hi) hoff (r':=r') (l':=l') (by rw[Rq hi];exact hx)
 refine⟨u,e1,e2,fun h' l'' y hO hM hy=>?_⟩
 obtain⟨k1,k2⟩:=M.sub (i:=i) (off:=off) (by simpa using hi) hoff e3 e4 hO hM (y:=y) (by rw[Rq hi];exact hy)
 rw[List.set_set] at k2
 exact⟨k1,k2⟩
theorem RC.flat1{H:Ac}{m:Md}{x u:V}(r:RC H ω m (.fl x) u)(hx:x≠.undef):u=x:=by
 cases r with
 |undef=>exact absurd rfl hx
 |v=>rfl
end
def SlC(s:AE)(r:RT):Prop:=∀ (h:Ac) (ω:Nat→W) (hd:Hd) (p:List Nat) (l:List r.D) (u:V) (m:Int) (Q:V→Ac→Prop),CT.wl (.sl r) l→(∀ l l' a q,ω l= .own a q→ω l'= .own a q→l=l')→MS h ω hd p r l u →
 (∀ h',Only (Jy ω hd p) h h'→MS h' ω hd p r (Lr r.mkI l m).1 u→Q (.int .i64 (Lr r.mkI l m).2) h')→s [u,.int .i64 m] h Q
def lK(r:RT):DMk:=⟨.one (.sl r),false,fun l=>CT.wl (.sl r) l,fun l m=>Lr r.mkI l m,false⟩
theorem SlC.sound{s:AE}{r:RT}(hs:SlC s r):Tm s (lK r).P:=by
 rintro h ω hd P b AD us u m K Q hinj hu hl hr ⟨x,rfl,hok,hK⟩ hQ;have hu:us=[u]:=hu;subst hu;have h0:=hr 0 (by show 0<1;omega)
 refine hs h ω hd (P++[b]) x u m Q hok hinj h0 fun h' hO hM=>?_
 refine hQ _ _ h' hK rfl (hO.mono fun l ⟨q,e⟩=>⟨0,_,q,by show 0<1;omega,rfl,by rw[e];simp⟩) fun c hc=>?_
 have:c=0:=by have:c<1:=hc;omega
 subst this;exact hM
structure Fn where
 d:DFun
 h:List HT
 q:QT
@[irreducible] def Fn.S(F:Fn):AE:=EA F.d.er.er
@[irreducible] def Fn.P(F:Fn):Bj:=CF F.d.er
@[irreducible] def Fn.V(F:Fn)(x:TuX F.h):F.q.D:=(shut fun x=>JK F.d F.h F.q x).1 x
@[irreducible] def Fn.O(F:Fn)(x:TuX F.h):Prop:=(shut fun x=>JB F.d F.h F.q x).1 x
def Fn.D(F:Fn):ER:=Il F.h F.q F.O F.V
theorem Fn.v(F:Fn)(x:TuX F.h):F.V x=JK F.d F.h F.q x:=by unfold Fn.V;exact congrFun (shut _).2 x
theorem Fn.o(F:Fn)(x:TuX F.h):F.O x=JB F.d F.h F.q x:=by unfold Fn.O;exact congrFun (shut _).2 x
def Fn.A(F:Fn):Prop:=CG F.S F.P
def Fn.B(F:Fn):Prop:=Ik F.P F.D
theorem D0{F:Fn}(o:AllP F.d.er.body.obs):F.A:=by unfold Fn.A Fn.S Fn.P;exact F9 o
theorem Ef{F:Fn}(o:AllD F.d.body.obs)(st:Ll F.d F.h F.q=true)(c:∀ x,Lh F.d F.h F.q x=true):F.B:=by
 unfold Fn.B Fn.P;exact fx o st c (fun x h=>Eq.mp (F.o x) h) (fun x=>(F.v x).symm)
@[reducible] def oF (i d:Nat) (F:Fn) (args:List Opnd):DOper:=⟨i,some d,.call false F.S F.P F.D args,none,[]⟩
theorem lF{P:Program}(hm:P.follows .mixedOrders=true){F:Fn}{f:FuncId}{fn:Func}{obs:List (FuncId×AE)}(hf:P.funcs[f]?=some fn)(hk:EJ P fn F.d.er.er=true)(ho:EK P fn F.d.er.er=obs)(hob:AllSound P obs):AK P f F.S:=by
 unfold Fn.S;exact F7 hm hf hk ho hob
section
set_option maxRecDepth 8000
def bf:DCode:=(.seq [0] (.region [oa 0 2 (.mv (.c (.bool false)))]) (.seq [2] (.region [om 0 3 0,oa 1 4 (.bin .geq (.t 3) (.c (.int .i64 1))),om 2 5 4,og 3 6 (.mv (.t 0)) 5 true,og 4 7 (.bin .leq (.t 6) (.c (.int .i64 56))) 5 true,oa 5 8 (.pick (.t 5) (.t 7) (.c (.bool false))),om 6 2 8]) .ret))
def DG:Fn:=⟨⟨1,9,0,true,[.tmp 2],bf⟩,[.one .frz (.int .i64)],.one (.one .own (.bool))⟩
theorem QZ:DG.A:=D0 trivial
def Fv:Int→Bool:=DG.V
def J0:Int→Prop:=DG.O
theorem QW:DG.B:=Ef trivial (by kernel_rfl) (fun x=>by kernel_rfl)
def aU:DCode:=(.seq [0] (.region [oa 0 2 (.mv (.c (.bool false)))]) (.seq [2] (.region [om 0 3 0,oa 1 4 (.bin .geq (.t 3) (.c (.int .i64 1))),om 2 5 4,og 3 6 (.mv (.t 0)) 5 true,og 4 7 (.bin .leq (.t 6) (.c (.int .i64 15))) 5 true,oa 5 8 (.pick (.t 5) (.t 7) (.c (.bool false))),om 6 2 8]) .ret))
def CB:Fn:=⟨⟨1,9,0,true,[.tmp 2],aU⟩,[.one .frz (.int .i64)],.one (.one .own (.bool))⟩
theorem QX:CB.A:=D0 trivial
def Kb:Int→Bool:=CB.V
def IH:Int→Prop:=CB.O
theorem QY:CB.B:=Ef trivial (by kernel_rfl) (fun x=>by kernel_rfl)
def aE:DCode:=(.seq [0] (.region [oa 0 2 (.mv (.c (.bool false)))]) (.seq [2] (.region [om 0 3 0,oa 1 4 (.bin .geq (.t 3) (.c (.int .i64 1))),om 2 5 4,og 3 6 (.mv (.t 0)) 5 true,og 4 7 (.bin .leq (.t 6) (.c (.int .i64 3))) 5 true,oa 5 8 (.pick (.t 5) (.t 7) (.c (.bool false))),om 6 2 8]) .ret))
def DE:Fn:=⟨⟨1,9,0,true,[.tmp 2],aE⟩,[.one .frz (.int .i64)],.one (.one .own (.bool))⟩
theorem UC:DE.A:=D0 trivial
def Od:Int→Bool:=DE.V
def Ly:Int→Prop:=DE.O
theorem UK:DE.B:=Ef trivial (by kernel_rfl) (fun x=>by kernel_rfl)
def aa:DCode:=(.seq [1] (.region [oa 0 1 (.boxB 0 4 (.t 0)),oa 1 2 (.mv (.c (.bool false)))]) (.seq [] (.seq [4,1] (.region [oa 0 3 (.fieldA 0 (.t 1)),oa 1 4 (.loadB 0 none (.t 3))]) (.block 0 (.seq [5,4,1] (.seq [5,4,1] (.region [oa 0 6 (.bin .eql (.t 4) (.c (.int .i64 0))),om 1 5 6]) (.cond (.t 5) .skip (.seq [5,4,1] (.region [oa 0 7 (.bin .eql (.t 4) (.c (.int .i64 1))),om 1 5 7]) (.cond (.t 5) .skip (.region [oa 0 8 (.bin .eql (.t 4) (.c (.int .i64 10))),om 1 5 8]))))) (.cond (.t 5) (.seq [2] (.region [oa 0 9 (.fieldA 1 (.t 1)),oa 1 10 (.loadB 0 none (.t 9)),oa 2 11 (.bin .eql (.t 10) (.c (.int .i64 0))),om 3 12 11,og 4 13 (.fieldA 2 (.t 1)) 12 true,og 5 14 (.loadB 0 none (.t 13)) 12 true,og 6 15 (.bin .eql (.t 14) (.c (.int .i64 0))) 12 true,oa 7 16 (.pick (.t 12) (.t 15) (.c (.bool false))),om 8 17 16,og 9 18 (.fieldA 3 (.t 1)) 17 true,og 10 19 (.loadB 0 none (.t 18)) 17 true,og 11 20 (.bin .eql (.t 19) (.c (.int .i64 0))) 17 true,oa 12 21 (.pick (.t 17) (.t 20) (.c (.bool false))),om 13 2 21]) .ret) (.seq [22,4,1] (.region [oa 0 23 (.bin .eql (.t 4) (.c (.int .i64 2))),om 1 22 23]) (.cond (.t 22) (.seq [2] (.region [oa 0 24 (.fieldA 3 (.t 1)),oa 1 25 (.loadB 0 none (.t 24)),oa 2 26 (.bin .eql (.t 25) (.c (.int .i64 0))),om 3 27 26,og 4 28 (.fieldA 1 (.t 1)) 27 true,og 5 29 (.loadB 0 none (.t 28)) 27 true,og 6 30 (.bin .eql (.t 29) (.c (.int .i64 0))) 27 true,og 7 31 (.mv (.t 30)) 27 true,og 8 32 (.fieldA 1 (.t 1)) 31 false,og 9 33 (.loadB 0 none (.t 32)) 31 false,⟨10,some 34,.call false DG.S DG.P DG.D [(.t 33)],(some (31,false)),[]⟩,og 11 35 (.pick (.t 31) (.c (.bool true)) (.t 34)) 27 true,oa 12 36 (.pick (.t 27) (.t 35) (.c (.bool false))),om 13 37 36,og 14 38 (.fieldA 2 (.t 1)) 37 true,og 15 39 (.loadB 0 none (.t 38)) 37 true,og 16 40 (.bin .eql (.t 39) (.c (.int .i64 0))) 37 true,og 17 41 (.mv (.t 40)) 37 true,og 18 42 (.fieldA 2 (.t 1)) 41 false,og 19 43 (.loadB 0 none (.t 42)) 41 false,⟨20,some 44,.call false CB.S CB.P CB.D [(.t 43)],(some (41,false)),[]⟩,og 21 45 (.pick (.t 41) (.c (.bool true)) (.t 44)) 37 true,oa 22 46 (.pick (.t 37) (.t 45) (.c (.bool false))),om 23 47 46,og 24 48 (.fieldA 1 (.t 1)) 47 true,og 25 49 (.loadB 0 none (.t 48)) 47 true,og 26 50 (.bin .neq (.t 49) (.c (.int .i64 0))) 47 true,og 27 51 (.mv (.t 50)) 47 true,og 28 52 (.fieldA 2 (.t 1)) 51 false,og 29 53 (.loadB 0 none (.t 52)) 51 false,og 30 54 (.bin .neq (.t 53) (.c (.int .i64 0))) 51 false,og 31 55 (.pick (.t 51) (.c (.bool true)) (.t 54)) 47 true,oa 32 56 (.pick (.t 47) (.t 55) (.c (.bool false))),om 33 2 56]) .ret) (.seq [57,4,1] (.seq [57,4,1] (.region [oa 0 58 (.bin .eql (.t 4) (.c (.int .i64 3))),om 1 57 58]) (.cond (.t 57) .skip (.region [oa 0 59 (.bin .eql (.t 4) (.c (.int .i64 4))),om 1 57 59]))) (.cond (.t 57) (.seq [2] (.region [oa 0 60 (.fieldA 1 (.t 1)),oa 1 61 (.loadB 0 none (.t 60)),oa 2 62 (.bin .eql (.t 61) (.c (.int .i64 0))),om 3 63 62,og 4 64 (.fieldA 2 (.t 1)) 63 true,og 5 65 (.loadB 0 none (.t 64)) 63 true,og 6 66 (.bin .eql (.t 65) (.c (.int .i64 0))) 63 true,oa 7 67 (.pick (.t 63) (.t 66) (.c (.bool false))),om 8 68 67,og 9 69 (.fieldA 3 (.t 1)) 68 true,og 10 70 (.loadB 0 none (.t 69)) 68 true,⟨11,some 71,.call false DE.S DE.P DE.D [(.t 70)],(some (68,true)),[]⟩,oa 12 72 (.pick (.t 68) (.t 71) (.c (.bool false))),om 13 2 72]) .ret) (.seq [73,4,1] (.region [oa 0 74 (.bin .eql (.t 4) (.c (.int .i64 5))),om 1 73 74]) (.cond (.t 73) (.seq [2] (.region [oa 0 75 (.fieldA 1 (.t 1)),oa 1 76 (.loadB 0 none (.t 75)),oa 2 77 (.bin .eql (.t 76) (.c (.int .i64 0))),om 3 78 77,og 4 79 (.fieldA 2 (.t 1)) 78 true,og 5 80 (.loadB 0 none (.t 79)) 78 true,og 6 81 (.bin .eql (.t 80) (.c (.int .i64 0))) 78 true,oa 7 82 (.pick (.t 78) (.t 81) (.c (.bool false))),om 8 83 82,og 9 84 (.fieldA 3 (.t 1)) 83 true,og 10 85 (.loadB 0 none (.t 84)) 83 true,og 11 86 (.bin .geq (.t 85) (.c (.int .i64 0))) 83 true,oa 12 87 (.pick (.t 83) (.t 86) (.c (.bool false))),om 13 88 87,og 14 89 (.fieldA 3 (.t 1)) 88 true,og 15 90 (.loadB 0 none (.t 89)) 88 true,og 16 91 (.bin .leq (.t 90) (.c (.int .i64 3))) 88 true,oa 17 92 (.pick (.t 88) (.t 91) (.c (.bool false))),om 18 2 92]) .ret) (.seq [93,4,1] (.region [oa 0 94 (.bin .eql (.t 4) (.c (.int .i64 9))),om 1 93 94]) (.cond (.t 93) (.seq [2] (.region [oa 0 95 (.fieldA 1 (.t 1)),oa 1 96 (.loadB 0 none (.t 95)),oa 2 97 (.bin .eql (.t 96) (.c (.int .i64 0))),om 3 98 97,og 4 99 (.fieldA 2 (.t 1)) 98 true,og 5 100 (.loadB 0 none (.t 99)) 98 true,og 6 101 (.bin .eql (.t 100) (.c (.int .i64 0))) 98 true,oa 7 102 (.pick (.t 98) (.t 101) (.c (.bool false))),om 8 103 102,og 9 104 (.fieldA 3 (.t 1)) 103 true,og 10 105 (.loadB 0 none (.t 104)) 103 true,og 11 106 (.bin .geq (.t 105) (.c (.int .i64 0))) 103 true,oa 12 107 (.pick (.t 103) (.t 106) (.c (.bool false))),om 13 108 107,og 14 109 (.fieldA 3 (.t 1)) 108 true,og 15 110 (.loadB 0 none (.t 109)) 108 true,og 16 111 (.bin .leq (.t 110) (.c (.int .i64 3))) 108 true,oa 17 112 (.pick (.t 108) (.t 111) (.c (.bool false))),om 18 2 112]) .ret) (.seq [113,4,1] (.region [oa 0 114 (.bin .eql (.t 4) (.c (.int .i64 6))),om 1 113 114]) (.cond (.t 113) (.seq [2] (.region [oa 0 115 (.fieldA 1 (.t 1)),oa 1 116 (.loadB 0 none (.t 115)),oF 2 117 DG [(.t 116)],om 3 118 117,og 4 119 (.fieldA 2 (.t 1)) 118 true,og 5 120 (.loadB 0 none (.t 119)) 118 true,⟨6,some 121,.call false CB.S CB.P CB.D [(.t 120)],(some (118,true)),[]⟩,oa 7 122 (.pick (.t 118) (.t 121) (.c (.bool false))),om 8 123 122,og 9 124 (.fieldA 3 (.t 1)) 123 true,og 10 125 (.loadB 0 none (.t 124)) 123 true,og 11 126 (.bin .eql (.t 125) (.c (.int .i64 0))) 123 true,oa 12 127 (.pick (.t 123) (.t 126) (.c (.bool false))),om 13 2 127]) .ret) (.seq [128,4,1] (.region [oa 0 129 (.bin .eql (.t 4) (.c (.int .i64 7))),om 1 128 129]) (.cond (.t 128) (.seq [2] (.region [oa 0 130 (.fieldA 1 (.t 1)),oa 1 131 (.loadB 0 none (.t 130)),oF 2 132 DG [(.t 131)],om 3 133 132,og 4 134 (.fieldA 2 (.t 1)) 133 true,og 5 135 (.loadB 0 none (.t 134)) 133 true,og 6 136 (.bin .eql (.t 135) (.c (.int .i64 0))) 133 true,oa 7 137 (.pick (.t 133) (.t 136) (.c (.bool false))),om 8 138 137,og 9 139 (.fieldA 3 (.t 1)) 138 true,og 10 140 (.loadB 0 none (.t 139)) 138 true,⟨11,some 141,.call false DE.S DE.P DE.D [(.t 140)],(some (138,true)),[]⟩,oa 12 142 (.pick (.t 138) (.t 141) (.c (.bool false))),om 13 2 142]) .ret) (.seq [143,1] (.region [oa 0 144 (.bin .eql (.t 4) (.c (.int .i64 8))),om 1 143 144]) (.cond (.t 143) (.seq [2] (.region [oa 0 145 (.fieldA 1 (.t 1)),oa 1 146 (.loadB 0 none (.t 145)),oa 2 147 (.bin .eql (.t 146) (.c (.int .i64 0))),om 3 148 147,og 4 149 (.fieldA 2 (.t 1)) 148 true,og 5 150 (.loadB 0 none (.t 149)) 148 true,⟨6,some 151,.call false CB.S CB.P CB.D [(.t 150)],(some (148,true)),[]⟩,oa 7 152 (.pick (.t 148) (.t 151) (.c (.bool false))),om 8 153 152,og 9 154 (.fieldA 3 (.t 1)) 153 true,og 10 155 (.loadB 0 none (.t 154)) 153 true,og 11 156 (.bin .eql (.t 155) (.c (.int .i64 0))) 153 true,oa 12 157 (.pick (.t 153) (.t 156) (.c (.bool false))),om 13 2 157]) .ret) .skip)))))))))))))))))) (.seq [2] (.region [oa 0 2 (.mv (.c (.bool false)))]) .ret)))
def Ft:Fn:=⟨⟨1,158,1,true,[.tmp 2],aa⟩,[.agg [(.frz,.int .i64),(.frz,.int .i64),(.frz,.int .i64),(.frz,.int .i64)]],.one (.one .own (.bool))⟩
theorem Ux:Ft.A:=D0 ⟨QZ,QX,UC,QZ,QX,QZ,UC,QX,trivial⟩
def Eh:Int×Int×Int×Int→Bool:=Ft.V
def Lw:Int×Int×Int×Int→Prop:=Ft.O
theorem Uv:Ft.B:=Ef ⟨QW,QY,UK,QW,QY,QW,UK,QY,trivial⟩ (by kernel_rfl) (fun x=>by kernel_rfl)
end
section
set_option maxRecDepth 100000
@[irreducible] def CR(x:Int×Int×Int):Bool:=(bAnd (iGe x.1 x.2.1) (iLe x.1 x.2.2))
@[irreducible] def F5(x:Int×Int×Int):Prop:=True
@[irreducible] def HA(x:Int×Int×Int×Int):Bool:=(bSel (bOr (iEq x.1 0) (bOr (iEq x.1 1) (iEq x.1 10))) (bAnd (iEq x.2.1 0) (bAnd (iEq x.2.2.1 0) (iEq x.2.2.2 0))) (bSel (iEq x.1 2) (bAnd (iEq x.2.2.2 0) (bSel (CR (x.2.1,1,56)) (bOr (CR (x.2.2.1,1,15)) (iEq x.2.2.1 0)) (bAnd (iEq x.2.1 0) (bAnd (CR (x.2.2.1,1,15)) (bOr (CR (x.2.2.1,1,15)) (iEq x.2.2.1 0)))))) (bSel (bOr (iEq x.1 3) (iEq x.1 4)) (bAnd (CR (x.2.2.2,1,3)) (bAnd (iEq x.2.1 0) (iEq x.2.2.1 0))) (bSel (bOr (iEq x.1 5) (iEq x.1 9)) (bAnd (CR (x.2.2.2,0,3)) (bAnd (iEq x.2.1 0) (iEq x.2.2.1 0))) (bSel (iEq x.1 6) (bAnd (CR (x.2.1,1,56)) (bAnd (CR (x.2.2.1,1,15)) (iEq x.2.2.2 0))) (bSel (iEq x.1 7) (bAnd (CR (x.2.1,1,56)) (bAnd (CR (x.2.2.2,1,3)) (iEq x.2.2.1 0))) (bAnd (iEq x.1 8) (bAnd (CR (x.2.2.1,1,15)) (bAnd (iEq x.2.1 0) (iEq x.2.2.2 0))))))))))
@[irreducible] def N3(x:Int×Int×Int×Int):Prop:=((F5 (x.2.1,1,56))∧((F5 (x.2.2.1,1,15))∧((F5 (x.2.2.2,1,3))∧(((bOr (iEq x.1 0) (bOr (iEq x.1 1) (iEq x.1 10)))=true→True)∧((bOr (iEq x.1 0) (bOr (iEq x.1 1) (iEq x.1 10)))=false→(((iEq x.1 2)=true→True)∧((iEq x.1 2)=false→(((bOr (iEq x.1 3) (iEq x.1 4))=true→True)∧((bOr (iEq x.1 3) (iEq x.1 4))=false→(((bOr (iEq x.1 5) (iEq x.1 9))=true→(F5 (x.2.2.2,0,3)))∧((bOr (iEq x.1 5) (iEq x.1 9))=false→True)))))))))))
theorem UL (x):Fv x=(bAnd (iGe x 1) (iLe x 56)):=(DG.v x).trans (by kernel_rfl)
theorem aY (x):J0 x=True:=(DG.o x).trans (by kernel_rfl)
theorem UP (x):Kb x=(bAnd (iGe x 1) (iLe x 15)):=(CB.v x).trans (by kernel_rfl)
theorem bB (x):IH x=True:=(CB.o x).trans (by kernel_rfl)
theorem UA (x):Od x=(bAnd (iGe x 1) (iLe x 3)):=(DE.v x).trans (by kernel_rfl)
theorem aM (x):Ly x=True:=(DE.o x).trans (by kernel_rfl)
theorem Uz (x):Eh x=(bSel (bOr (iEq x.1 0) (bOr (iEq x.1 1) (iEq x.1 10))) (bAnd (iEq x.2.1 0) (bAnd (iEq x.2.2.1 0) (iEq x.2.2.2 0))) (bSel (iEq x.1 2) (bAnd (iEq x.2.2.2 0) (bSel (iEq x.2.1 0) (bSel (iEq x.2.2.1 0) (bOr (iNe x.2.1 0) (iNe x.2.2.1 0)) (bAnd (Kb x.2.2.1) (bOr (iNe x.2.1 0) (iNe x.2.2.1 0)))) (bAnd (Fv x.2.1) (bSel (iEq x.2.2.1 0) (bOr (iNe x.2.1 0) (iNe x.2.2.1 0)) (bAnd (Kb x.2.2.1) (bOr (iNe x.2.1 0) (iNe x.2.2.1 0))))))) (bSel (bOr (iEq x.1 3) (iEq x.1 4)) (bAnd (iEq x.2.1 0) (bAnd (iEq x.2.2.1 0) (Od x.2.2.2))) (bSel (iEq x.1 5) (bAnd (iEq x.2.1 0) (bAnd (iEq x.2.2.1 0) (bAnd (iGe x.2.2.2 0) (iLe x.2.2.2 3)))) (bSel (iEq x.1 9) (bAnd (iEq x.2.1 0) (bAnd (iEq x.2.2.1 0) (bAnd (iGe x.2.2.2 0) (iLe x.2.2.2 3)))) (bSel (iEq x.1 6) (bAnd (Fv x.2.1) (bAnd (Kb x.2.2.1) (iEq x.2.2.2 0))) (bSel (iEq x.1 7) (bAnd (Fv x.2.1) (bAnd (iEq x.2.2.1 0) (Od x.2.2.2))) (bAnd (iEq x.1 8) (bAnd (iEq x.2.1 0) (bAnd (Kb x.2.2.1) (iEq x.2.2.2 0))))))))))):=(Ft.v x).trans (by kernel_rfl)
theorem Z5 (x):Lw x=(((bOr (iEq x.1 0) (bOr (iEq x.1 1) (iEq x.1 10)))=true→True)∧((bOr (iEq x.1 0) (bOr (iEq x.1 1) (iEq x.1 10)))=false→(((iEq x.1 2)=true→(((iEq x.2.2.2 0)=true→(((iEq x.2.1 0)=true→(((iEq x.2.2.1 0)=true→True)∧((iEq x.2.2.1 0)=false→(IH x.2.2.1))))∧((iEq x.2.1 0)=false→((J0 x.2.1)∧(((Fv x.2.1)=true→(((iEq x.2.2.1 0)=true→True)∧((iEq x.2.2.1 0)=false→(IH x.2.2.1))))∧((Fv x.2.1)=false→True))))))∧((iEq x.2.2.2 0)=false→True)))∧((iEq x.1 2)=false→(((bOr (iEq x.1 3) (iEq x.1 4))=true→(((iEq x.2.1 0)=true→(((iEq x.2.2.1 0)=true→(Ly x.2.2.2))∧((iEq x.2.2.1 0)=false→True)))∧((iEq x.2.1 0)=false→True)))∧((bOr (iEq x.1 3) (iEq x.1 4))=false→(((iEq x.1 5)=true→True)∧((iEq x.1 5)=false→(((iEq x.1 9)=true→True)∧((iEq x.1 9)=false→(((iEq x.1 6)=true→((J0 x.2.1)∧(((Fv x.2.1)=true→(IH x.2.2.1))∧((Fv x.2.1)=false→True))))∧((iEq x.1 6)=false→(((iEq x.1 7)=true→((J0 x.2.1)∧(((Fv x.2.1)=true→(((iEq x.2.2.1 0)=true→(Ly x.2.2.2))∧((iEq x.2.2.1 0)=false→True)))∧((Fv x.2.1)=false→True))))∧((iEq x.1 7)=false→(((iEq x.1 8)=true→(((iEq x.2.1 0)=true→(IH x.2.2.1))∧((iEq x.2.1 0)=false→True)))∧((iEq x.1 8)=false→True)))))))))))))))):=(Ft.o x).trans (by kernel_rfl)
attribute [irreducible] Fv J0 Kb IH Od Ly Eh Lw
end
section
set_option maxRecDepth 8000
def au:DCode:=(.seq [1] (.region [oa 0 1 (.boxB 0 2 (.t 0)),oa 1 2 (.mv (.c (.bool false)))]) (.seq [1] (.seq [26,1] (.region [oa 0 7 (.fieldA 0 (.t 1)),oa 1 8 (.loadB 0 none (.t 7)),oa 2 9 (.bin .lss (.t 8) (.c (.int .i64 1))),om 3 10 9,og 4 11 (.fieldA 0 (.t 1)) 10 false,og 5 12 (.loadB 0 none (.t 11)) 10 false,og 6 13 (.bin .gtr (.t 12) (.c (.int .i64 32))) 10 false,oa 7 14 (.pick (.t 10) (.c (.bool true)) (.t 13)),om 8 15 14,og 9 16 (.fieldA 1 (.t 1)) 15 false,og 10 17 (.loadB 0 none (.t 16)) 15 false,og 11 18 (.len (.t 17)) 15 false,og 12 19 (.bin .lss (.t 18) (.c (.int .i64 1))) 15 false,oa 13 20 (.pick (.t 15) (.c (.bool true)) (.t 19)),om 14 21 20,og 15 22 (.fieldA 1 (.t 1)) 21 false,og 16 23 (.loadB 0 none (.t 22)) 21 false,og 17 24 (.len (.t 23)) 21 false,og 18 25 (.bin .gtr (.t 24) (.c (.int .i64 4))) 21 false,oa 19 26 (.pick (.t 21) (.c (.bool true)) (.t 25))]) (.cond (.t 26) (.seq [2] (.region [oa 0 2 (.mv (.c (.bool false)))]) .ret) .skip)) (.seq [] (.seq [30,29,28,1] (.region [oa 0 27 (.fieldA 1 (.t 1)),oa 1 28 (.loadB 0 none (.t 27)),oa 2 29 (.len (.t 28)),oi 3 30 0]) (.block 0 (.loop [1,28,29,30] 1 (.seq [31,30,29,28,1] (.region [oa 0 31 (.bin .lss (.t 30) (.t 29))]) (.seq [30,29,28,1] (.cond (.t 31) .skip (.exit 0)) (.seq [30,29,28,1] (.block 1 (.seq [30,29,28,4,3,1] (.region [om 0 32 30,oa 1 33 (.indexA 1 (.t 28) (.t 30)),oa 2 34 (.loadH none (.t 33)),om 3 3 32,on 4 4 34]) (.seq [30,29,28,4,3,1] (.seq [39,30,29,28,4,3,1] (.region [on 0 35 4,oa 1 36 (.len (.t 35)),oa 2 37 (.fieldA 0 (.t 1)),oa 3 38 (.loadB 0 none (.t 37)),oa 4 39 (.bin .neq (.t 36) (.t 38))]) (.cond (.t 39) (.seq [2] (.region [oa 0 2 (.mv (.c (.bool false)))]) .ret) .skip)) (.seq [42,41,40,30,29,28,3,1] (.region [on 0 40 4,oa 1 41 (.len (.t 40)),oi 2 42 0]) (.block 2 (.loop [1,3,28,29,30,40,41,42] 1 (.seq [43,42,41,40,30,29,28,3,1] (.region [oa 0 43 (.bin .lss (.t 42) (.t 41))]) (.seq [42,41,40,30,29,28,3,1] (.cond (.t 43) .skip (.exit 2)) (.seq [42,41,40,30,29,28,3,1] (.block 3 (.seq [42,41,40,30,29,28,6,3,1] (.region [oa 0 44 (.indexA 4 (.t 40) (.t 42)),ob 1 45 (.loadH (some 4) (.t 44)),oa 2 6 (.allocB 1 [(.int .i64 0),(.int .i64 0),(.int .i64 0),(.int .i64 0)]),os 3 (.storeB 1 4 (.t 6) (.t 45))]) (.seq [70,42,41,40,30,29,28,3,1] (.region [oa 0 46 (.loadB 1 (some 4) (.t 6)),oF 1 47 Ft [(.t 46)],oa 2 48 (.un .not (.t 47)),om 3 49 48,og 4 50 (.mv (.t 3)) 49 false,og 5 51 (.bin .eql (.t 50) (.c (.int .i64 0))) 49 false,og 6 52 (.mv (.t 51)) 49 false,og 7 53 (.fieldA 0 (.t 6)) 52 true,og 8 54 (.loadB 1 none (.t 53)) 52 true,og 9 55 (.bin .eql (.t 54) (.c (.int .i64 1))) 52 true,og 10 56 (.pick (.t 52) (.t 55) (.c (.bool false))) 49 false,oa 11 57 (.pick (.t 49) (.c (.bool true)) (.t 56)),om 12 58 57,og 13 59 (.fieldA 0 (.t 6)) 58 false,og 14 60 (.loadB 1 none (.t 59)) 58 false,og 15 61 (.bin .neq (.t 60) (.c (.int .i64 9))) 58 false,og 16 62 (.mv (.t 61)) 58 false,og 17 63 (.fieldA 3 (.t 6)) 62 true,og 18 64 (.loadB 1 none (.t 63)) 62 true,og 19 65 (.fieldA 1 (.t 1)) 62 true,og 20 66 (.loadB 0 none (.t 65)) 62 true,og 21 67 (.len (.t 66)) 62 true,og 22 68 (.bin .geq (.t 64) (.t 67)) 62 true,og 23 69 (.pick (.t 62) (.t 68) (.c (.bool false))) 58 false,oa 24 70 (.pick (.t 58) (.c (.bool true)) (.t 69))]) (.cond (.t 70) (.seq [2] (.region [oa 0 2 (.mv (.c (.bool false)))]) .ret) .skip)))) (.region [oa 0 71 (.bin .add (.t 42) (.c (.int .i64 1))),om 1 42 71])))))))))) (.region [oa 0 72 (.bin .add (.t 30) (.c (.int .i64 1))),om 1 30 72]))))))) (.seq [2] (.region [oa 0 2 (.mv (.c (.bool true)))]) .ret))))
def GQ:Fn:=⟨⟨1,73,2,true,[.tmp 2],au⟩,[.agg [(.frz,.int .i64),(.frz,.sl (.one (.sl Hv)))]],.one (.one .own (.bool))⟩
theorem aq:GQ.A:=D0 ⟨Ux,trivial⟩
def GP:Int×(List (List (Int×Int×Int×Int)))→Bool:=GQ.V
def N4:Int×(List (List (Int×Int×Int×Int)))→Prop:=GQ.O
theorem Z4:GQ.B:=Ef ⟨Uv,trivial⟩ (by kernel_rfl) (fun x=>by kernel_rfl)
end
section
set_option maxRecDepth 100000
@[irreducible] def Lz(x:Int×(List (List (Int×Int×Int×Int)))):Bool:=(bAnd (bNot (iLt (AN (fun(x0:Int)=>(bAnd (iLt x0 (lLen x.2)) (bAnd (bNot (iNe (lLen (lGet x.2 (iNat x0) [])) x.1)) (bNot (iLt (AN (fun(x1:Int)=>(bAnd (iLt x1 (lLen (lGet x.2 (iNat x0) []))) (bNot (bOr (bNot (HA ((lGet (lGet x.2 (iNat x0) []) (iNat x1) (0,0,0,0)).1,(lGet (lGet x.2 (iNat x0) []) (iNat x1) (0,0,0,0)).2.1,(lGet (lGet x.2 (iNat x0) []) (iNat x1) (0,0,0,0)).2.2.1,(lGet (lGet x.2 (iNat x0) []) (iNat x1) (0,0,0,0)).2.2.2))) (bSel (iEq (lGet (lGet x.2 (iNat x0) []) (iNat x1) (0,0,0,0)).1 1) (bOr (iEq x0 0) (bAnd (iNe (lGet (lGet x.2 (iNat x0) []) (iNat x1) (0,0,0,0)).1 9) (iGe (lGet (lGet x.2 (iNat x0) []) (iNat x1) (0,0,0,0)).2.2.2 (lLen x.2)))) (bAnd (iNe (lGet (lGet x.2 (iNat x0) []) (iNat x1) (0,0,0,0)).1 9) (iGe (lGet (lGet x.2 (iNat x0) []) (iNat x1) (0,0,0,0)).2.2.2 (lLen x.2)))))))) (fun(x1:Int)=>(iAdd .i64 x1 1)) 0) (lLen (lGet x.2 (iNat x0) []))))))) (fun(x0:Int)=>(iAdd .i64 x0 1)) 0) (lLen x.2))) (bAnd (CR (x.1,1,32)) (CR ((lLen x.2),1,4))))
@[irreducible] def QU(x:Int×(List (List (Int×Int×Int×Int)))):Prop:=((LoopOk (fun(x0:Int)=>(bAnd (iLt x0 (lLen x.2)) (bAnd (bNot (iNe (lLen (lGet x.2 (iNat x0) [])) x.1)) (bNot (iLt (AN (fun(x1:Int)=>(bAnd (iLt x1 (lLen (lGet x.2 (iNat x0) []))) (bNot (bOr (bNot (HA ((lGet (lGet x.2 (iNat x0) []) (iNat x1) (0,0,0,0)).1,(lGet (lGet x.2 (iNat x0) []) (iNat x1) (0,0,0,0)).2.1,(lGet (lGet x.2 (iNat x0) []) (iNat x1) (0,0,0,0)).2.2.1,(lGet (lGet x.2 (iNat x0) []) (iNat x1) (0,0,0,0)).2.2.2))) (bSel (iEq (lGet (lGet x.2 (iNat x0) []) (iNat x1) (0,0,0,0)).1 1) (bOr (iEq x0 0) (bAnd (iNe (lGet (lGet x.2 (iNat x0) []) (iNat x1) (0,0,0,0)).1 9) (iGe (lGet (lGet x.2 (iNat x0) []) (iNat x1) (0,0,0,0)).2.2.2 (lLen x.2)))) (bAnd (iNe (lGet (lGet x.2 (iNat x0) []) (iNat x1) (0,0,0,0)).1 9) (iGe (lGet (lGet x.2 (iNat x0) []) (iNat x1) (0,0,0,0)).2.2.2 (lLen x.2)))))))) (fun(x1:Int)=>(iAdd .i64 x1 1)) 0) (lLen (lGet x.2 (iNat x0) []))))))) (fun(x0:Int)=>(iAdd .i64 x0 1)) (fun(x0:Int)=>(((iLt x0 (lLen x.2))=true→((((0:Int)≤x0)∧(x0<(((List.length x.2):Int))))∧(((iNat x0)<(List.length x.2))∧(((iNe (lLen (lGet x.2 (iNat x0) [])) x.1)=true→True)∧((iNe (lLen (lGet x.2 (iNat x0) [])) x.1)=false→(LoopOk (fun(x1:Int)=>(bAnd (iLt x1 (lLen (lGet x.2 (iNat x0) []))) (bNot (bOr (bNot (HA ((lGet (lGet x.2 (iNat x0) []) (iNat x1) (0,0,0,0)).1,(lGet (lGet x.2 (iNat x0) []) (iNat x1) (0,0,0,0)).2.1,(lGet (lGet x.2 (iNat x0) []) (iNat x1) (0,0,0,0)).2.2.1,(lGet (lGet x.2 (iNat x0) []) (iNat x1) (0,0,0,0)).2.2.2))) (bSel (iEq (lGet (lGet x.2 (iNat x0) []) (iNat x1) (0,0,0,0)).1 1) (bOr (iEq x0 0) (bAnd (iNe (lGet (lGet x.2 (iNat x0) []) (iNat x1) (0,0,0,0)).1 9) (iGe (lGet (lGet x.2 (iNat x0) []) (iNat x1) (0,0,0,0)).2.2.2 (lLen x.2)))) (bAnd (iNe (lGet (lGet x.2 (iNat x0) []) (iNat x1) (0,0,0,0)).1 9) (iGe (lGet (lGet x.2 (iNat x0) []) (iNat x1) (0,0,0,0)).2.2.2 (lLen x.2)))))))) (fun(x1:Int)=>(iAdd .i64 x1 1)) (fun(x1:Int)=>((((0:Int)≤x0)∧(x0<(((List.length x.2):Int))))∧(((iNat x0)<(List.length x.2))∧(((iLt x1 (lLen (lGet x.2 (iNat x0) [])))=true→((((0:Int)≤x0)∧(x0<(((List.length x.2):Int))))∧(((iNat x0)<(List.length x.2))∧((((0:Int)≤x1)∧(x1<(((List.length (lGet x.2 (iNat x0) [])):Int))))∧(((iNat x1)<(List.length (lGet x.2 (iNat x0) [])))∧(N3 ((lGet (lGet x.2 (iNat x0) []) (iNat x1) (0,0,0,0)).1,(lGet (lGet x.2 (iNat x0) []) (iNat x1) (0,0,0,0)).2.1,(lGet (lGet x.2 (iNat x0) []) (iNat x1) (0,0,0,0)).2.2.1,(lGet (lGet x.2 (iNat x0) []) (iNat x1) (0,0,0,0)).2.2.2)))))))∧((iLt x1 (lLen (lGet x.2 (iNat x0) [])))=false→True))))) 0))))))∧((iLt x0 (lLen x.2))=false→True))) 0)∧(((iLt (AN (fun(x0:Int)=>(bAnd (iLt x0 (lLen x.2)) (bAnd (bNot (iNe (lLen (lGet x.2 (iNat x0) [])) x.1)) (bNot (iLt (AN (fun(x1:Int)=>(bAnd (iLt x1 (lLen (lGet x.2 (iNat x0) []))) (bNot (bOr (bNot (HA ((lGet (lGet x.2 (iNat x0) []) (iNat x1) (0,0,0,0)).1,(lGet (lGet x.2 (iNat x0) []) (iNat x1) (0,0,0,0)).2.1,(lGet (lGet x.2 (iNat x0) []) (iNat x1) (0,0,0,0)).2.2.1,(lGet (lGet x.2 (iNat x0) []) (iNat x1) (0,0,0,0)).2.2.2))) (bSel (iEq (lGet (lGet x.2 (iNat x0) []) (iNat x1) (0,0,0,0)).1 1) (bOr (iEq x0 0) (bAnd (iNe (lGet (lGet x.2 (iNat x0) []) (iNat x1) (0,0,0,0)).1 9) (iGe (lGet (lGet x.2 (iNat x0) []) (iNat x1) (0,0,0,0)).2.2.2 (lLen x.2)))) (bAnd (iNe (lGet (lGet x.2 (iNat x0) []) (iNat x1) (0,0,0,0)).1 9) (iGe (lGet (lGet x.2 (iNat x0) []) (iNat x1) (0,0,0,0)).2.2.2 (lLen x.2)))))))) (fun(x1:Int)=>(iAdd .i64 x1 1)) 0) (lLen (lGet x.2 (iNat x0) []))))))) (fun(x0:Int)=>(iAdd .i64 x0 1)) 0) (lLen x.2))=true→True)∧((iLt (AN (fun(x0:Int)=>(bAnd (iLt x0 (lLen x.2)) (bAnd (bNot (iNe (lLen (lGet x.2 (iNat x0) [])) x.1)) (bNot (iLt (AN (fun(x1:Int)=>(bAnd (iLt x1 (lLen (lGet x.2 (iNat x0) []))) (bNot (bOr (bNot (HA ((lGet (lGet x.2 (iNat x0) []) (iNat x1) (0,0,0,0)).1,(lGet (lGet x.2 (iNat x0) []) (iNat x1) (0,0,0,0)).2.1,(lGet (lGet x.2 (iNat x0) []) (iNat x1) (0,0,0,0)).2.2.1,(lGet (lGet x.2 (iNat x0) []) (iNat x1) (0,0,0,0)).2.2.2))) (bSel (iEq (lGet (lGet x.2 (iNat x0) []) (iNat x1) (0,0,0,0)).1 1) (bOr (iEq x0 0) (bAnd (iNe (lGet (lGet x.2 (iNat x0) []) (iNat x1) (0,0,0,0)).1 9) (iGe (lGet (lGet x.2 (iNat x0) []) (iNat x1) (0,0,0,0)).2.2.2 (lLen x.2)))) (bAnd (iNe (lGet (lGet x.2 (iNat x0) []) (iNat x1) (0,0,0,0)).1 9) (iGe (lGet (lGet x.2 (iNat x0) []) (iNat x1) (0,0,0,0)).2.2.2 (lLen x.2)))))))) (fun(x1:Int)=>(iAdd .i64 x1 1)) 0) (lLen (lGet x.2 (iNat x0) []))))))) (fun(x0:Int)=>(iAdd .i64 x0 1)) 0) (lLen x.2))=false→((F5 (x.1,1,32))∧(((CR (x.1,1,32))=true→(F5 ((lLen x.2),1,4)))∧((CR (x.1,1,32))=false→True))))))
theorem QR (x):GP x=(bAnd (bNot (bOr (iLt x.1 1) (bOr (iGt x.1 32) (bOr (iLt (lLen x.2) 1) (iGt (lLen x.2) 4))))) (bNot (iLt (AN (fun(x0:Int)=>(bAnd (iLt x0 (lLen x.2)) (bAnd (bNot (iNe (lLen (lGet x.2 (iNat x0) [])) x.1)) (bNot (iLt (AN (fun(x1:Int)=>(bAnd (iLt x1 (lLen (lGet x.2 (iNat x0) []))) (bNot (bOr (bNot (Eh ((lGet (lGet x.2 (iNat x0) []) (iNat x1) (0,0,0,0)).1,(lGet (lGet x.2 (iNat x0) []) (iNat x1) (0,0,0,0)).2.1,(lGet (lGet x.2 (iNat x0) []) (iNat x1) (0,0,0,0)).2.2.1,(lGet (lGet x.2 (iNat x0) []) (iNat x1) (0,0,0,0)).2.2.2))) (bSel (iEq x0 0) (bOr (iEq (lGet (lGet x.2 (iNat x0) []) (iNat x1) (0,0,0,0)).1 1) (bAnd (iNe (lGet (lGet x.2 (iNat x0) []) (iNat x1) (0,0,0,0)).1 9) (iGe (lGet (lGet x.2 (iNat x0) []) (iNat x1) (0,0,0,0)).2.2.2 (lLen x.2)))) (bAnd (iNe (lGet (lGet x.2 (iNat x0) []) (iNat x1) (0,0,0,0)).1 9) (iGe (lGet (lGet x.2 (iNat x0) []) (iNat x1) (0,0,0,0)).2.2.2 (lLen x.2)))))))) (fun(x1:Int)=>(iAdd .i64 x1 1)) 0) (lLen (lGet x.2 (iNat x0) []))))))) (fun(x0:Int)=>(iAdd .i64 x0 1)) 0) (lLen x.2)))):=(GQ.v x).trans (by kernel_rfl)
theorem ai (x):N4 x=(((bOr (iLt x.1 1) (bOr (iGt x.1 32) (bOr (iLt (lLen x.2) 1) (iGt (lLen x.2) 4))))=true→True)∧((bOr (iLt x.1 1) (bOr (iGt x.1 32) (bOr (iLt (lLen x.2) 1) (iGt (lLen x.2) 4))))=false→(LoopOk (fun(x0:Int)=>(bAnd (iLt x0 (lLen x.2)) (bAnd (bNot (iNe (lLen (lGet x.2 (iNat x0) [])) x.1)) (bNot (iLt (AN (fun(x1:Int)=>(bAnd (iLt x1 (lLen (lGet x.2 (iNat x0) []))) (bNot (bOr (bNot (Eh ((lGet (lGet x.2 (iNat x0) []) (iNat x1) (0,0,0,0)).1,(lGet (lGet x.2 (iNat x0) []) (iNat x1) (0,0,0,0)).2.1,(lGet (lGet x.2 (iNat x0) []) (iNat x1) (0,0,0,0)).2.2.1,(lGet (lGet x.2 (iNat x0) []) (iNat x1) (0,0,0,0)).2.2.2))) (bSel (iEq x0 0) (bOr (iEq (lGet (lGet x.2 (iNat x0) []) (iNat x1) (0,0,0,0)).1 1) (bAnd (iNe (lGet (lGet x.2 (iNat x0) []) (iNat x1) (0,0,0,0)).1 9) (iGe (lGet (lGet x.2 (iNat x0) []) (iNat x1) (0,0,0,0)).2.2.2 (lLen x.2)))) (bAnd (iNe (lGet (lGet x.2 (iNat x0) []) (iNat x1) (0,0,0,0)).1 9) (iGe (lGet (lGet x.2 (iNat x0) []) (iNat x1) (0,0,0,0)).2.2.2 (lLen x.2)))))))) (fun(x1:Int)=>(iAdd .i64 x1 1)) 0) (lLen (lGet x.2 (iNat x0) []))))))) (fun(x0:Int)=>(iAdd .i64 x0 1)) (fun(x0:Int)=>(((iLt x0 (lLen x.2))=true→((((0:Int)≤x0)∧(x0<(((List.length x.2):Int))))∧(((iNat x0)<(List.length x.2))∧(((iNe (lLen (lGet x.2 (iNat x0) [])) x.1)=true→True)∧((iNe (lLen (lGet x.2 (iNat x0) [])) x.1)=false→(LoopOk (fun(x1:Int)=>(bAnd (iLt x1 (lLen (lGet x.2 (iNat x0) []))) (bNot (bOr (bNot (Eh ((lGet (lGet x.2 (iNat x0) []) (iNat x1) (0,0,0,0)).1,(lGet (lGet x.2 (iNat x0) []) (iNat x1) (0,0,0,0)).2.1,(lGet (lGet x.2 (iNat x0) []) (iNat x1) (0,0,0,0)).2.2.1,(lGet (lGet x.2 (iNat x0) []) (iNat x1) (0,0,0,0)).2.2.2))) (bSel (iEq x0 0) (bOr (iEq (lGet (lGet x.2 (iNat x0) []) (iNat x1) (0,0,0,0)).1 1) (bAnd (iNe (lGet (lGet x.2 (iNat x0) []) (iNat x1) (0,0,0,0)).1 9) (iGe (lGet (lGet x.2 (iNat x0) []) (iNat x1) (0,0,0,0)).2.2.2 (lLen x.2)))) (bAnd (iNe (lGet (lGet x.2 (iNat x0) []) (iNat x1) (0,0,0,0)).1 9) (iGe (lGet (lGet x.2 (iNat x0) []) (iNat x1) (0,0,0,0)).2.2.2 (lLen x.2)))))))) (fun(x1:Int)=>(iAdd .i64 x1 1)) (fun(x1:Int)=>(((iLt x1 (lLen (lGet x.2 (iNat x0) [])))=true→((((0:Int)≤x1)∧(x1<(((List.length (lGet x.2 (iNat x0) [])):Int))))∧(((iNat x1)<(List.length (lGet x.2 (iNat x0) [])))∧(Lw ((lGet (lGet x.2 (iNat x0) []) (iNat x1) (0,0,0,0)).1,(lGet (lGet x.2 (iNat x0) []) (iNat x1) (0,0,0,0)).2.1,(lGet (lGet x.2 (iNat x0) []) (iNat x1) (0,0,0,0)).2.2.1,(lGet (lGet x.2 (iNat x0) []) (iNat x1) (0,0,0,0)).2.2.2)))))∧((iLt x1 (lLen (lGet x.2 (iNat x0) [])))=false→True))) 0))))))∧((iLt x0 (lLen x.2))=false→True))) 0))):=(GQ.o x).trans (by kernel_rfl)
attribute [irreducible] GP N4
end
section
set_option maxRecDepth 8000
def Zx:DCode:=(.seq [1] (.region [oa 0 1 (.boxB 0 4 (.t 0)),oa 1 2 (.mv (.c .nils))]) (.seq [1] (.seq [5,1] (.region [oa 0 3 (.loadB 0 (some 4) (.t 1)),oF 1 4 Ft [(.t 3)],oa 2 5 (.un .not (.t 4))]) (.cond (.t 5) (.seq [2] (.region [oa 0 2 (.mv (.c .nils))]) .ret) .skip)) (.seq [2] (.region [oa 0 6 (.fieldA 0 (.t 1)),oa 1 7 (.loadB 0 none (.t 6)),oa 2 8 (.bin .mul (.c (.int .i64 16)) (.t 7)),oa 3 9 (.fieldA 3 (.t 1)),oa 4 10 (.loadB 0 none (.t 9)),oa 5 11 (.bin .add (.t 8) (.t 10)),oa 6 12 (.conv .u8 (.t 11)),oa 7 13 (.fieldA 1 (.t 1)),oa 8 14 (.loadB 0 none (.t 13)),oa 9 15 (.conv .u8 (.t 14)),oa 10 16 (.fieldA 2 (.t 1)),oa 11 17 (.loadB 0 none (.t 16)),oa 12 18 (.conv .u8 (.t 17)),⟨13,some 19,.a false (.litSlice 1 3 [(.int .u8 0),(.int .u8 0),(.int .u8 0)] [(0,1,(.t 12)),(1,1,(.t 15)),(2,1,(.t 18))]) (some (.one (.int .u8))),none,[]⟩,om 14 2 19]) .ret)))
def GK:Fn:=⟨⟨1,20,1,false,[.tmp 2],Zx⟩,[.agg [(.frz,.int .i64),(.frz,.int .i64),(.frz,.int .i64),(.frz,.int .i64)]],.one (.one .own (.sl (.one (.int .u8))))⟩
theorem Zu:GK.A:=D0 ⟨Ux,trivial⟩
def IC:Int×Int×Int×Int→List (Int):=GK.V
def NM:Int×Int×Int×Int→Prop:=GK.O
theorem ZA:GK.B:=Ef ⟨Uv,trivial⟩ (by kernel_rfl) (fun x=>by kernel_rfl)
def Zy:DCode:=(.seq [1] (.region [oa 0 1 (.boxB 0 2 (.t 0)),oa 1 2 (.mv (.c .nils))]) (.seq [1] (.seq [10,1] (.region [oa 0 8 (.loadB 0 (some 2) (.t 1)),oF 1 9 GQ [(.t 8)],oa 2 10 (.un .not (.t 9))]) (.cond (.t 10) (.seq [2] (.region [oa 0 2 (.mv (.c .nils))]) .ret) .skip)) (.seq [3,1] (.region [oa 0 11 (.fieldA 0 (.t 1)),oa 1 12 (.loadB 0 none (.t 11)),oa 2 13 (.conv .u8 (.t 12)),oa 3 14 (.fieldA 1 (.t 1)),oa 4 15 (.loadB 0 none (.t 14)),oa 5 16 (.len (.t 15)),oa 6 17 (.conv .u8 (.t 16)),⟨7,some 18,.a false (.litSlice 1 2 [(.int .u8 0),(.int .u8 0)] [(0,1,(.t 13)),(1,1,(.t 17))]) (some (.one (.int .u8))),none,[]⟩,om 8 3 18]) (.seq [3] (.seq [22,21,20,3] (.region [oa 0 19 (.fieldA 1 (.t 1)),oa 1 20 (.loadB 0 none (.t 19)),oa 2 21 (.len (.t 20)),oi 3 22 0]) (.block 0 (.loop [3,20,21,22] 1 (.seq [23,22,21,20,3] (.region [oa 0 23 (.bin .lss (.t 22) (.t 21))]) (.seq [22,21,20,3] (.cond (.t 23) .skip (.exit 0)) (.seq [22,21,20,3] (.block 1 (.seq [22,21,20,5,3] (.region [oa 0 24 (.indexA 1 (.t 20) (.t 22)),oa 1 25 (.loadH none (.t 24)),on 2 5 25]) (.seq [28,27,26,22,21,20,3] (.region [on 0 26 5,oa 1 27 (.len (.t 26)),oi 2 28 0]) (.block 2 (.loop [3,20,21,22,26,27,28] 1 (.seq [29,28,27,26,22,21,20,3] (.region [oa 0 29 (.bin .lss (.t 28) (.t 27))]) (.seq [28,27,26,22,21,20,3] (.cond (.t 29) .skip (.exit 2)) (.seq [28,27,26,22,21,20,3] (.block 3 (.seq [28,27,26,22,21,20,7,3] (.region [oa 0 30 (.indexA 4 (.t 26) (.t 28)),ob 1 31 (.loadH (some 4) (.t 30)),oa 2 7 (.allocB 1 [(.int .i64 0),(.int .i64 0),(.int .i64 0),(.int .i64 0)]),os 3 (.storeB 1 4 (.t 7) (.t 31))]) (.region [om 0 32 3,oa 1 33 (.loadB 1 (some 4) (.t 7)),oF 2 34 GK [(.t 33)],oa 3 35 (.app 1 (.t 32) (.t 34)),om 4 3 35]))) (.region [oa 0 36 (.bin .add (.t 28) (.c (.int .i64 1))),om 1 28 36]))))))))) (.region [oa 0 37 (.bin .add (.t 22) (.c (.int .i64 1))),om 1 22 37]))))))) (.seq [2] (.region [om 0 38 3,om 1 2 38]) .ret)))))
def GI:Fn:=⟨⟨1,39,2,false,[.tmp 2],Zy⟩,[.agg [(.frz,.int .i64),(.frz,.sl (.one (.sl Hv)))]],.one (.one .own (.sl (.one (.int .u8))))⟩
theorem Zt:GI.A:=D0 ⟨aq,Zu,trivial⟩
def CP:Int×(List (List (Int×Int×Int×Int)))→List (Int):=GI.V
def Lt:Int×(List (List (Int×Int×Int×Int)))→Prop:=GI.O
theorem ZB:GI.B:=Ef ⟨Z4,ZA,trivial⟩ (by kernel_rfl) (fun x=>by kernel_rfl)
end
section
set_option maxRecDepth 100000
@[irreducible] def NR(x:Int×Int×Int×Int):List (Int):=(bSel (bNot (HA x)) [] [(iConv .u8 (iAdd .i64 (iMul .i64 16 x.1) x.2.2.2)),(iConv .u8 x.2.1),(iConv .u8 x.2.2.1)])
@[irreducible] def QL(x:Int×Int×Int×Int):Prop:=(N3 x)
def NJ(x:Int×(List (List (Int×Int×Int×Int))))(x0:((List Int)×Int)):Bool:=(iLt x0.2 (lLen x.2))
def Hw(x:Int×(List (List (Int×Int×Int×Int))))(x1:((List Int)×Int)):Bool:=(iLt x1.2 x.1)
def IA(x:Int×(List (List (Int×Int×Int×Int))))(x0:((List Int)×Int))(x1:((List Int)×Int)):((List Int)×Int):=((lApp x1.1 (NR (lGet (lGet x.2 (iNat x0.2) []) (iNat x1.2) (0,0,0,0)))),(iAdd .i64 x1.2 1))
def NG(x:Int×(List (List (Int×Int×Int×Int))))(x0:((List Int)×Int)):((List Int)×Int):=((AN (Hw x) (IA x x0) (x0.1,0)).1,(iAdd .i64 x0.2 1))
def NH(x:Int×(List (List (Int×Int×Int×Int))))(x0:((List Int)×Int))(x1:((List Int)×Int)):Prop:=(((iLt x1.2 x.1)=true→((((0:Int)≤x0.2)∧(x0.2<(((List.length x.2):Int))))∧(((iNat x0.2)<(List.length x.2))∧((((0:Int)≤x1.2)∧(x1.2<(((List.length (lGet x.2 (iNat x0.2) [])):Int))))∧(((iNat x1.2)<(List.length (lGet x.2 (iNat x0.2) [])))∧((QL (lGet (lGet x.2 (iNat x0.2) []) (iNat x1.2) (0,0,0,0)))∧(AW (((List.length x1.1)+(List.length (NR (lGet (lGet x.2 (iNat x0.2) []) (iNat x1.2) (0,0,0,0)))))*1))))))))∧((iLt x1.2 x.1)=false→True))
def QI(x:Int×(List (List (Int×Int×Int×Int))))(x0:((List Int)×Int)):Prop:=(((iLt x0.2 (lLen x.2))=true→(LoopOk (Hw x) (IA x x0) (NH x x0) (x0.1,0)))∧((iLt x0.2 (lLen x.2))=false→True))
@[irreducible] def QN(x:Int×(List (List (Int×Int×Int×Int)))):List (Int):=(bSel (bNot (Lz x)) [] (AN (NJ x) (NG x) ((lApp [] [(iConv .u8 x.1),(iConv .u8 (lLen x.2))]),0)).1)
@[irreducible] def Ur(x:Int×(List (List (Int×Int×Int×Int)))):Prop:=((QU x)∧(((bNot (Lz x))=true→True)∧((bNot (Lz x))=false→((AW 2)∧(LoopOk (NJ x) (NG x) (QI x) ((lApp [] [(iConv .u8 x.1),(iConv .u8 (lLen x.2))]),0))))))
theorem QM (x):IC x=(bSel (bNot (Eh x)) [] [(iConv .u8 (iAdd .i64 (iMul .i64 16 x.1) x.2.2.2)),(iConv .u8 x.2.1),(iConv .u8 x.2.2.1)]):=(GK.v x).trans (by kernel_rfl)
theorem ZD (x):NM x=(Lw x):=(GK.o x).trans (by kernel_rfl)
def JM(x:Int×(List (List (Int×Int×Int×Int))))(x0:((List Int)×Int)):Bool:=(iLt x0.2 (lLen x.2))
def GG(x:Int×(List (List (Int×Int×Int×Int))))(x0:((List Int)×Int))(x1:((List Int)×Int)):Bool:=(iLt x1.2 (lLen (lGet x.2 (iNat x0.2) [])))
def Hx(x:Int×(List (List (Int×Int×Int×Int))))(x0:((List Int)×Int))(x1:((List Int)×Int)):((List Int)×Int):=((lApp x1.1 (IC (lGet (lGet x.2 (iNat x0.2) []) (iNat x1.2) (0,0,0,0)))),(iAdd .i64 x1.2 1))
def JN(x:Int×(List (List (Int×Int×Int×Int))))(x0:((List Int)×Int)):((List Int)×Int):=((AN (GG x x0) (Hx x x0) (x0.1,0)).1,(iAdd .i64 x0.2 1))
def NI(x:Int×(List (List (Int×Int×Int×Int))))(x0:((List Int)×Int))(x1:((List Int)×Int)):Prop:=(((iLt x1.2 (lLen (lGet x.2 (iNat x0.2) [])))=true→((((0:Int)≤x1.2)∧(x1.2<(((List.length (lGet x.2 (iNat x0.2) [])):Int))))∧(((iNat x1.2)<(List.length (lGet x.2 (iNat x0.2) [])))∧((NM (lGet (lGet x.2 (iNat x0.2) []) (iNat x1.2) (0,0,0,0)))∧(AW (((List.length x1.1)+(List.length (IC (lGet (lGet x.2 (iNat x0.2) []) (iNat x1.2) (0,0,0,0)))))*1))))))∧((iLt x1.2 (lLen (lGet x.2 (iNat x0.2) [])))=false→True))
def QJ(x:Int×(List (List (Int×Int×Int×Int))))(x0:((List Int)×Int)):Prop:=(((iLt x0.2 (lLen x.2))=true→((((0:Int)≤x0.2)∧(x0.2<(((List.length x.2):Int))))∧(((iNat x0.2)<(List.length x.2))∧(LoopOk (GG x x0) (Hx x x0) (NI x x0) (x0.1,0)))))∧((iLt x0.2 (lLen x.2))=false→True))
theorem Us (x):CP x=(bSel (bNot (GP x)) [] (AN (JM x) (JN x) ([(iConv .u8 x.1),(iConv .u8 (lLen x.2))],0)).1):=(GI.v x).trans (by kernel_rfl)
theorem ZH (x):Lt x=((N4 x)∧(((bNot (GP x))=true→True)∧((bNot (GP x))=false→(LoopOk (JM x) (JN x) (QJ x) ([(iConv .u8 x.1),(iConv .u8 (lLen x.2))],0))))):=(GI.o x).trans (by kernel_rfl)
attribute [irreducible] IC NM CP Lt
end
section
set_option maxRecDepth 8000
def bQ:DCode:=(.seq [0] (.region [oa 0 2 (.mv (.c .undef))]) (.seq [3,0] (.region [on 0 5 0,oa 1 6 (.len (.t 5)),oa 2 7 (.bin .add (.c (.int .i64 10729)) (.t 6)),om 3 3 7]) (.seq [3,0] (.seq [4,3,0] (.region [oi 0 4 0]) (.block 0 (.loop [0,3,4] 1 (.seq [4,3,0] (.seq [15,4,3,0] (.region [om 0 8 4,on 1 9 0,oa 2 10 (.len (.t 9)),oa 3 11 (.bin .lss (.t 8) (.t 10)),om 4 12 11,og 5 13 (.mv (.t 4)) 12 true,og 6 14 (.bin .lss (.t 13) (.c (.int .i64 4000))) 12 true,oa 7 15 (.pick (.t 12) (.t 14) (.c (.bool false)))]) (.cond (.t 15) .skip (.exit 0))) (.seq [4,3,0] (.block 1 (.region [om 0 18 3,oa 1 19 (.bin .mul (.t 18) (.c (.int .i64 131))),on 2 20 0,om 3 21 4,oa 4 22 (.indexA 1 (.t 20) (.t 21)),oa 5 23 (.loadH none (.t 22)),oa 6 24 (.conv .i64 (.t 23)),oa 7 25 (.bin .add (.t 19) (.t 24)),oa 8 26 (.bin .add (.t 25) (.c (.int .i64 7))),oa 9 27 (.bin .and (.t 26) (.c (.int .i64 1073741823))),om 10 3 27])) (.region [om 0 16 4,oa 1 17 (.bin .add (.t 16) (.c (.int .i64 1))),om 2 4 17])))))) (.seq [2] (.region [om 0 28 0,om 1 29 3,oa 2 30 (.build [.nils,(.int .i64 0),(.int .i64 0)] [(0,1,(.t 28)),(2,1,(.t 29))]),oa 3 31 (.boxH 3 (.t 30)),om 4 2 31]) .ret))))
def HI:DFun:=⟨1,32,0,false,[.tmp 2],bQ⟩
@[irreducible] def Kd:AE:=EA HI.er.er
@[irreducible] def LM:Bj:=CF HI.er
theorem bP:CG Kd LM:=by unfold Kd LM;exact F9 (f:=HI.er) trivial
def OA:List HT:=[.one .frz (.sl (.one (.int .u8)))]
def Ox:List (Ql×CT):=[(.frz,.sl (.one (.int .u8))),(.own,.int .i64),(.own,.int .i64)]
@[irreducible] def GU(x:List (Int)):List (Int)×Int×Int:=(shut fun x=>NA HI OA Ox x).1 x
@[irreducible] def J7(x:List (Int)):Prop:=(shut fun x=>Nc HI OA Ox x).1 x
def Ve:Cs:=PA OA Ox J7 GU
theorem bS:Es LM Ve:=by unfold LM;exact V4 (f:=HI) (hs:=OA) (cs:=Ox) trivial (by kernel_rfl) (fun x=>by kernel_rfl) (fun x h=>by unfold J7 at h;exact Eq.mp (congrFun (shut _).2 x) h) (fun x=>by unfold GU;exact(congrFun (shut _).2 x).symm)
def bD:DCode:=(.seq [0] (.region [oi 0 2 0]) (.seq [0] (.region [om 0 4 0,om 1 5 0,oa 2 6 (.nilck (.t 5)),oa 3 7 (.fieldA 2 (.t 6)),oa 4 8 (.loadH none (.t 7)),oa 5 9 (.bin .mul (.t 8) (.c (.int .i64 6364136223846793005))),oa 6 10 (.bin .add (.t 9) (.c (.int .i64 1442695040888963407))),oa 7 11 (.nilck (.t 4)),oa 8 12 (.fieldA 2 (.t 11)),os 9 (.storeH 1 (.t 12) (.t 10))]) (.seq [3,0] (.region [om 0 13 0,xA 1 14 (.nilck (.t 13)) (rg 1),xA 2 15 (.fieldA 2 (.t 14)) (rg 2),xA 3 16 (.loadH none (.t 15)) (rg 3),xA 4 17 (.bin .shr (.t 16) (.c (.int .u64 33))) (rg 4),om 5 18 0,xA 6 19 (.nilck (.t 18)) [5],xA 7 20 (.fieldA 2 (.t 19)) [5,6],xA 8 21 (.loadH none (.t 20)) [5,6,7],xA 9 22 (.bin .shr (.t 21) (.c (.int .u64 45))) [5,6,7,8],xA 10 23 (.bin .xor (.t 17) (.t 22)) (rg 10),xA 11 24 (.bin .and (.t 23) (.c (.int .i64 255))) (rg 11),xA 12 3 (.mv (.t 24)) (rg 12)]) (.seq [3] (.seq [34,3,0] (.region [om 0 25 0,xA 1 26 (.nilck (.t 25)) (rg 1),xA 2 27 (.fieldA 1 (.t 26)) (rg 2),xA 3 28 (.loadH none (.t 27)) (rg 3),om 4 29 0,xA 5 30 (.nilck (.t 29)) [4],xA 6 31 (.fieldA 0 (.t 30)) [4,5],xA 7 32 (.loadH none (.t 31)) [4,5,6],xA 8 33 (.len (.t 32)) [4,5,6,7],xA 9 34 (.bin .lss (.t 28) (.t 33)) (rg 9)]) (.cond (.t 34) (.seq [3,0] (.region [om 0 35 3,om 1 36 0,xA 2 37 (.nilck (.t 36)) [1],xA 3 38 (.fieldA 0 (.t 37)) [1,2],xA 4 39 (.loadH none (.t 38)) [1,2,3],om 5 40 0,xA 6 41 (.nilck (.t 40)) [5],xA 7 42 (.fieldA 1 (.t 41)) [5,6],xA 8 43 (.loadH none (.t 42)) [5,6,7],xA 9 44 (.indexA 1 (.t 39) (.t 43)) [1,2,3,4,5,6,7,8],xA 10 45 (.loadH none (.t 44)) [1,2,3,4,5,6,7,8,9],xA 11 46 (.conv .i64 (.t 45)) [1,2,3,4,5,6,7,8,9,10],xA 12 47 (.bin .add (.t 35) (.t 46)) (rg 12),xA 13 48 (.bin .and (.t 47) (.c (.int .i64 255))) (rg 13),xA 14 3 (.mv (.t 48)) (rg 14)]) (.region [om 0 49 0,om 1 50 0,oa 2 51 (.nilck (.t 50)),oa 3 52 (.fieldA 1 (.t 51)),oa 4 53 (.loadH none (.t 52)),oa 5 54 (.bin .add (.t 53) (.c (.int .i64 1))),oa 6 55 (.nilck (.t 49)),oa 7 56 (.fieldA 1 (.t 55)),os 8 (.storeH 1 (.t 56) (.t 54))])) .skip)) (.seq [2] (.region [om 0 57 3,om 1 2 57]) .ret)))))
def HD:DFun:=⟨1,58,0,false,[.tmp 2],bD⟩
@[irreducible] def D2:AE:=EA HD.er.er
@[irreducible] def GS:Bj:=CF HD.er
theorem LD:CG D2 GS:=by unfold D2 GS;exact F9 (f:=HD.er) trivial
def Oq:List HT:=[]
def Oj:List (Ql×CT):=[(.frz,.sl (.one (.int .u8))),(.own,.int .i64),(.own,.int .i64)]
def Ou:QT:=.one (.one .own (.int .i64))
@[irreducible] def Bc(x:List (Int)×Int×Int):Int×(Int×Int):=(shut fun x=>Gx HD Oq Oj Ou x).1 x
@[irreducible] def F4(x:List (Int)×Int×Int):Prop:=(shut fun x=>Gq HD Oq Oj Ou x).1 x
def Kc:Cs:=G5 Oq Oj Ou F4 Bc
theorem LH:Es GS Kc:=by unfold GS;exact IM (f:=HD) (hs:=Oq) (cs:=Oj) (q:=Ou) trivial (by kernel_rfl) (fun x=>by kernel_rfl) (fun x h=>by unfold F4 at h;exact Eq.mp (congrFun (shut _).2 x) h) (fun x=>by unfold Bc;exact(congrFun (shut _).2 x).symm)
def aI:DCode:=(.seq [1,0] (.region [oi 0 4 0]) (.seq [1,0] (.seq [10,1,0] (.region [om 0 9 1,oa 1 10 (.bin .leq (.t 9) (.c (.int .i64 0)))]) (.cond (.t 10) (.seq [4] (.region [oi 0 4 0]) .ret) .skip)) (.seq [1,0] (.seq [12,1,0] (.region [om 0 11 1,oa 1 12 (.bin .leq (.t 11) (.c (.int .i64 256)))]) (.cond (.t 12) (.seq [4] (.region [om 0 13 0,op 1 14 D2 GS Kc [(.t 13)],om 2 15 1,oa 3 16 (.bin .rem (.t 14) (.t 15)),om 4 4 16]) .ret) .skip)) (.seq [5,1,0] (.region [om 0 17 0,op 1 18 D2 GS Kc [(.t 17)],om 2 5 18]) (.seq [6,5,1,0] (.region [om 0 19 0,op 1 20 D2 GS Kc [(.t 19)],om 2 6 20]) (.seq [7,6,5,1,0] (.region [om 0 21 0,op 1 22 D2 GS Kc [(.t 21)],om 2 7 22]) (.seq [8,7,6,5,1] (.region [om 0 23 0,op 1 24 D2 GS Kc [(.t 23)],om 2 8 24]) (.seq [4] (.region [om 0 25 5,oa 1 26 (.bin .mul (.t 25) (.c (.int .i64 16777216))),om 2 27 6,oa 3 28 (.bin .mul (.t 27) (.c (.int .i64 65536))),oa 4 29 (.bin .add (.t 26) (.t 28)),om 5 30 7,oa 6 31 (.bin .mul (.t 30) (.c (.int .i64 256))),oa 7 32 (.bin .add (.t 29) (.t 31)),om 8 33 8,oa 9 34 (.bin .add (.t 32) (.t 33)),om 10 35 1,oa 11 36 (.bin .rem (.t 34) (.t 35)),om 12 4 36]) .ret))))))))
def HB:DFun:=⟨2,37,0,false,[.tmp 4],aI⟩
@[irreducible] def Bu:AE:=EA HB.er.er
@[irreducible] def CA:Bj:=CF HB.er
theorem DB:CG Bu CA:=by unfold Bu CA;exact F9 (f:=HB.er) ⟨LD,LD,LD,LD,LD,trivial⟩
def N9:List HT:=[.one .frz (.int .i64)]
def N8:List (Ql×CT):=[(.frz,.sl (.one (.int .u8))),(.own,.int .i64),(.own,.int .i64)]
def Oc:QT:=.one (.one .own (.int .i64))
@[irreducible] def Al(x:(List (Int)×Int×Int)×Int):Int×(Int×Int):=(shut fun x=>Gx HB N9 N8 Oc x).1 x
@[irreducible] def Cu(x:(List (Int)×Int×Int)×Int):Prop:=(shut fun x=>Gq HB N9 N8 Oc x).1 x
def Dj:Cs:=G5 N9 N8 Oc Cu Al
theorem DD:Es CA Dj:=by unfold CA;exact IM (f:=HB) (hs:=N9) (cs:=N8) (q:=Oc) ⟨LH,LH,LH,LH,LH,trivial⟩ (by kernel_rfl) (fun x=>by kernel_rfl) (fun x h=>by unfold Cu at h;exact Eq.mp (congrFun (shut _).2 x) h) (fun x=>by unfold Al;exact(congrFun (shut _).2 x).symm)
def bz:DCode:=(.seq [1,0] (.region [oa 0 4 (.mv (.c (.bool false)))]) (.seq [4] (.region [om 0 5 0,om 1 6 1,op 2 7 Bu CA Dj [(.t 5),(.t 6)],oa 3 8 (.bin .eql (.t 7) (.c (.int .i64 0))),om 4 4 8]) .ret))
def HF:DFun:=⟨2,9,0,false,[.tmp 4],bz⟩
@[irreducible] def HJ:AE:=EA HF.er.er
@[irreducible] def J5:Bj:=CF HF.er
theorem U1:CG HJ J5:=by unfold HJ J5;exact F9 (f:=HF.er) ⟨DB,trivial⟩
def Om:List HT:=[.one .frz (.int .i64)]
def Of:List (Ql×CT):=[(.frz,.sl (.one (.int .u8))),(.own,.int .i64),(.own,.int .i64)]
def Og:QT:=.one (.one .own (.bool))
@[irreducible] def Cm(x:(List (Int)×Int×Int)×Int):Bool×(Int×Int):=(shut fun x=>Gx HF Om Of Og x).1 x
@[irreducible] def IG(x:(List (Int)×Int×Int)×Int):Prop:=(shut fun x=>Gq HF Om Of Og x).1 x
def Q7:Cs:=G5 Om Of Og IG Cm
theorem UT:Es J5 Q7:=by unfold J5;exact IM (f:=HF) (hs:=Om) (cs:=Of) (q:=Og) ⟨DD,trivial⟩ (by kernel_rfl) (fun x=>by kernel_rfl) (fun x h=>by unfold IG at h;exact Eq.mp (congrFun (shut _).2 x) h) (fun x=>by unfold Cm;exact(congrFun (shut _).2 x).symm)
def ZQ:DCode:=(.seq [1,0] (.region [oi 0 4 0]) (.seq [4] (.region [on 0 5 1,om 1 6 0,on 2 7 1,oa 3 8 (.len (.t 7)),op 4 9 Bu CA Dj [(.t 6),(.t 8)],oa 5 10 (.indexA 1 (.t 5) (.t 9)),ob 6 11 (.loadH none (.t 10)),om 7 4 11]) .ret))
def Hy:DFun:=⟨2,12,0,false,[.tmp 4],ZQ⟩
@[irreducible] def JU:AE:=EA Hy.er.er
@[irreducible] def Lx:Bj:=CF Hy.er
theorem ZM:CG JU Lx:=by unfold JU Lx;exact F9 (f:=Hy.er) ⟨DB,trivial⟩
def NW:List HT:=[.one .frz (.sl (.one (.int .i64)))]
def NZ:List (Ql×CT):=[(.frz,.sl (.one (.int .u8))),(.own,.int .i64),(.own,.int .i64)]
def N2:QT:=.one (.one .own (.int .i64))
@[irreducible] def E4(x:(List (Int)×Int×Int)×List (Int)):Int×(Int×Int):=(shut fun x=>Gx Hy NW NZ N2 x).1 x
@[irreducible] def JR(x:(List (Int)×Int×Int)×List (Int)):Prop:=(shut fun x=>Gq Hy NW NZ N2 x).1 x
def Uw:Cs:=G5 NW NZ N2 JR E4
theorem Z2:Es Lx Uw:=by unfold Lx;exact IM (f:=Hy) (hs:=NW) (cs:=NZ) (q:=N2) ⟨DD,trivial⟩ (by kernel_rfl) (fun x=>by kernel_rfl) (fun x h=>by unfold JR at h;exact Eq.mp (congrFun (shut _).2 x) h) (fun x=>by unfold E4;exact(congrFun (shut _).2 x).symm)
def cO:DCode:=(.seq [0] (.region [oa 0 2 (.mv (.c (.bool false)))]) (.seq [2] (.region [on 0 3 0,oa 1 4 (.len (.t 3)),oa 2 5 (.bin .gtr (.t 4) (.c (.int .i64 1048576))),om 3 2 5]) .ret))
def GY:Fn:=⟨⟨1,6,0,true,[.tmp 2],cO⟩,[.one .frz (.sl (.one (.int .u8)))],.one (.one .own (.bool))⟩
theorem dy:GY.A:=D0 trivial
def Kg:List (Int)→Bool:=GY.V
def OD:List (Int)→Prop:=GY.O
theorem dx:GY.B:=Ef trivial (by kernel_rfl) (fun x=>by kernel_rfl)
end
section
set_option maxRecDepth 100000
def QV(x:List (Int))(x0:(Int×Int)):Bool:=(bAnd (iLt x0.2 (lLen x)) (iLt x0.2 4000))
def UH(x:List (Int))(x0:(Int×Int)):(Int×Int):=((iAnd .i64 (iAdd .i64 (iAdd .i64 (iMul .i64 x0.1 131) (iConv .i64 (lGet x (iNat x0.2) 0))) 7) 1073741823),(iAdd .i64 x0.2 1))
def UG(x:List (Int))(x0:(Int×Int)):Prop:=(((bAnd (iLt x0.2 (lLen x)) (iLt x0.2 4000))=true→((((0:Int)≤x0.2)∧(x0.2<(((List.length x):Int))))∧((iNat x0.2)<(List.length x))))∧((bAnd (iLt x0.2 (lLen x)) (iLt x0.2 4000))=false→True))
theorem bH (x):GU x=(x,0,(AN (QV x) (UH x) ((iAdd .i64 10729 (lLen x)),0)).1):=by unfold GU;exact(congrFun (shut _).2 x).trans (by kernel_rfl)
theorem b7 (x):J7 x=(LoopOk (QV x) (UH x) (UG x) ((iAdd .i64 10729 (lLen x)),0)):=by unfold J7;exact(congrFun (shut _).2 x).trans (by kernel_rfl)
theorem bA (x):Bc x=((bSel (iLt x.2.1 (lLen x.1)) (iAnd .i64 (iAdd .i64 (iAnd .i64 (iXor .i64 (iShr .i64 (iAdd .i64 (iMul .i64 x.2.2 6364136223846793005) 1442695040888963407) 33) (iShr .i64 (iAdd .i64 (iMul .i64 x.2.2 6364136223846793005) 1442695040888963407) 45)) 255) (iConv .i64 (lGet x.1 (iNat x.2.1) 0))) 255) (iAnd .i64 (iXor .i64 (iShr .i64 (iAdd .i64 (iMul .i64 x.2.2 6364136223846793005) 1442695040888963407) 33) (iShr .i64 (iAdd .i64 (iMul .i64 x.2.2 6364136223846793005) 1442695040888963407) 45)) 255)),(bSel (iLt x.2.1 (lLen x.1)) (iAdd .i64 x.2.1 1) x.2.1),(iAdd .i64 (iMul .i64 x.2.2 6364136223846793005) 1442695040888963407)):=by unfold Bc;exact(congrFun (shut _).2 x).trans (by kernel_rfl)
theorem bp (x):F4 x=(((0:Int)≤33)∧(((0:Int)≤45)∧(((iLt x.2.1 (lLen x.1))=true→((((0:Int)≤x.2.1)∧(x.2.1<(((List.length x.1):Int))))∧((iNat x.2.1)<(List.length x.1))))∧((iLt x.2.1 (lLen x.1))=false→True)))):=by unfold F4;exact(congrFun (shut _).2 x).trans (by kernel_rfl)
theorem aB (x):Al x=(bSel (iLe x.2 0) (0,x.1.2) (bSel (iLe x.2 256) ((iRem (Bc x.1).1 x.2),(Bc x.1).2) ((iRem (iAdd .i64 (iAdd .i64 (iAdd .i64 (iMul .i64 (Bc x.1).1 16777216) (iMul .i64 (Bc (x.1.1,(Bc x.1).2)).1 65536)) (iMul .i64 (Bc (x.1.1,(Bc (x.1.1,(Bc x.1).2)).2)).1 256)) (Bc (x.1.1,(Bc (x.1.1,(Bc (x.1.1,(Bc x.1).2)).2)).2)).1) x.2),(Bc (x.1.1,(Bc (x.1.1,(Bc (x.1.1,(Bc x.1).2)).2)).2)).2))):=by unfold Al;exact(congrFun (shut _).2 x).trans (by kernel_rfl)
theorem aR (x):Cu x=(((iLe x.2 0)=true→True)∧((iLe x.2 0)=false→(((iLe x.2 256)=true→((F4 x.1)∧(x.2≠0)))∧((iLe x.2 256)=false→((F4 x.1)∧((F4 (x.1.1,(Bc x.1).2))∧((F4 (x.1.1,(Bc (x.1.1,(Bc x.1).2)).2))∧((F4 (x.1.1,(Bc (x.1.1,(Bc (x.1.1,(Bc x.1).2)).2)).2))∧(x.2≠0))))))))):=by unfold Cu;exact(congrFun (shut _).2 x).trans (by kernel_rfl)
theorem bd (x):Cm x=((iEq (Al x).1 0),(Al x).2):=by unfold Cm;exact(congrFun (shut _).2 x).trans (by kernel_rfl)
theorem bF (x):IG x=(Cu x):=by unfold IG;exact(congrFun (shut _).2 x).trans (by kernel_rfl)
theorem ZK (x):E4 x=((lGet x.2 (iNat (Al (x.1,(lLen x.2))).1) 0),(Al (x.1,(lLen x.2))).2):=by unfold E4;exact(congrFun (shut _).2 x).trans (by kernel_rfl)
theorem ZI (x):JR x=((Cu (x.1,(lLen x.2)))∧((((0:Int)≤(Al (x.1,(lLen x.2))).1)∧((Al (x.1,(lLen x.2))).1<(((List.length x.2):Int))))∧((iNat (Al (x.1,(lLen x.2))).1)<(List.length x.2)))):=by unfold JR;exact(congrFun (shut _).2 x).trans (by kernel_rfl)
theorem du (x):Kg x=(iGt (lLen x) 1048576):=(GY.v x).trans (by kernel_rfl)
theorem dt (x):OD x=True:=(GY.o x).trans (by kernel_rfl)
attribute [irreducible] Kg OD
end
open Go.RowKit
theorem HRel.below{ι:Am}{σ:Ac}{w w':World}(H:HRel ι σ w)(B:Below w.heap.size w w'):HRel ι σ w':=by
 have far:∀ (j:Nat) (b:Blk),σ[j]?=some b→b.k≠.dead→w'.heap[(ι j).b]?=w.heap[(ι j).b]?:=fun j b hj hbk=>B.block _ (H.there j b hj hbk)
 refine⟨fun l blk h hd i v hv=>?_,fun l blk h hk=>?_,H.apart,fun l blk h hd=>Hb (H.there l blk h hd) B.size⟩
 · obtain⟨c,x,hx,hr⟩:=H.cells l blk h hd i v hv;exact⟨c,x,by rw[PG (w:=w) (far l blk h hd)];exact hx,hr⟩
 · obtain⟨g1,g2,arr,e,g3,g4⟩:=H.own l blk h hk;exact⟨g1,g2,arr,e,by rw[far l blk h (by rw[hk];decide)];exact g3,g4⟩
theorem Step.below{ι:Am}{σ:Ac}{w w':World}(B:Below w.heap.size w w'):Step ι σ w ι σ w':=
 { Step.refl ι σ w with frame:=fun b hb _=>B.block b hb,size:=B.size,os:=B.os,output:=B.output,tape:=B.tape }
def fX(P:Program)(g:FuncId):Prop:=∃ gm,P.globalNamed "internal/bytealg.MaxLen"= some gm∧∀ (s sep:List UInt8) (m:Int) (w:World),s.length<4294967281→1≤sep.length→w.cell? ⟨gm,0,none⟩=some (.int .i64 m) →
 Calls P g #[.string ⟨s.toArray⟩,.string ⟨sep.toArray⟩] w fun e w'=>∃ T,e= .returned (.slice (some ⟨w.heap.size,0,none⟩) (Lib.split s sep).length (Lib.split s sep).length)∧w'=w.alloc (.cells ((Lib.split s sep).map fun s=>Value.string ⟨s.toArray⟩).toArray T)
theorem Gl.maxLen{P:Program}{ι:Am}{σ:Ac}{w:World}(h:Gl P ι σ w){gm:Nat}(hg:P.globalNamed "internal/bytealg.MaxLen"= some gm):∃ m,w.cell? ⟨gm,0,none⟩=some (.int .i64 m):=by
 obtain⟨cs,h1,h2⟩:=h.1 "internal/bytealg.MaxLen" (by simp[HW]) gm hg
 unfold Ju at h2;rw[Ad (by decide),Ab rfl] at h2;obtain⟨m,hm⟩:=h2
 exact⟨m,by
  have:w.cell? ⟨gm,0,none⟩=cs[0]?:=by
   simp only[World.var?,hg,Et] at h1;split at h1<;>simp_all [World.cell?]
  rw[this,hm]⟩
def dK(P:Program)(g:FuncId):Prop:=∃ gm,P.globalNamed "internal/bytealg.MaxLen"= some gm∧∀ (s sub:ByteArray) (m:Int) (w:World),s.size<4294967281→w.cell? ⟨gm,0,none⟩=some (.int .i64 m) →
 Calls P g #[.string s,.string sub] w fun e w'=>e= .returned (.int .i64 (Lib.index s.data.toList sub.data.toList))∧w'=w
def IB:AE:=fun args h Q=>∃ (s:List UInt8) (c:Int),args=[.str s,.int .u8 c]∧Q (.int .i64 (Lib.indexByte s c.toNat.toUInt8)) h
def bN(P:Program)(g:FuncId):Prop:=∀ (s:ByteArray) (c:Int) (w:World),Calls P g #[.string s,.int .u8 c] w fun e w'=>e= .returned (.int .i64 (Lib.indexByte s.data.toList c.toNat.toUInt8))∧w'=w
theorem aP{P:Program}{g:FuncId}(hs:bN P g):AK P g IB:=by
 rintro Φ ι σ w args xs Q hΦ H hargs ⟨s,b,rfl,hQ⟩ _;have hl:=hargs.1
 match xs,hl with
 | [x,y],_=>
   have hx:=H7 (hargs.2 0 _ _ rfl rfl (fun _=>0));have hy:=CU (hargs.2 1 _ _ rfl rfl (fun _=>0));subst hx;subst hy;refine(hs ⟨s.toArray⟩ b w).mono ?_;rintro e w' ⟨rfl,rfl⟩;exact⟨_,.int .i64 (Lib.indexByte s b.toNat.toUInt8),σ,ι,rfl,hQ,hΦ,fun β=>by simpa using Rel.int .i64 _,H,.refl _ _ _⟩
def LC:AE:=fun args h Q=>∃ s:List UInt8,args=[.str s]∧s.length≤18∧Q (.tup [.int .i64 ((Lib.atoi s).getD 0),.ifc (Lib.atoi s).isSome]) h
def WJ(P:Program)(g:FuncId):Prop:=∃ ge,P.globalNamed "strconv.ErrSyntax"= some ge ∧
 (∀ (s:ByteArray) (n:Int) (w:World),s.size≤18→Lib.atoi s.data.toList=some n→Calls P g #[.string s] w fun e w'=>e= .returned (.tuple #[.int .i64 n,.nilIface])∧Below w.heap.size w w') ∧
 ∀ (s:ByteArray) (t:TypeId) (p:Value) (w:World),s.size≤18→Lib.atoi s.data.toList=none→w.var? P "strconv.ErrSyntax"= some #[.iface t p]→Calls P g #[.string s] w fun e w'=>(∃ T v,e= .returned (.tuple #[.int .i64 0,.iface T v]))∧Below w.heap.size w w'
theorem XR{ι:Am}{σ:Ac}{β:Nat→Nat}{a b:V}{x y:Value}(ha:a.ok1=true)(hb:b.ok1=true)(h1:Rel ι σ β a x)(h2:Rel ι σ β b y):Rel ι σ β (.tup [a,b]) (.tuple #[x,y]):=by
 refine Rel.tup [a,b] [x,y] rfl (fun v hv=>?_) (fun i v w hv hw=>?_)
 · simp only[Bx,List.not_mem_nil,or_false] at hv;rcases hv with rfl|rfl
   · exact ha
   · exact hb
 · match i with
   |0=>cases hv;cases hw;exact h1
   |1=>cases hv;cases hw;exact h2
   |n+2=>cases hv
theorem dZ{P:Program}{g:FuncId}(hs:WJ P g):AK P g LC:=by
 obtain⟨ge,hge,hok,herr⟩:=hs;rintro Φ ι σ w args xs Q hΦ H hargs ⟨s,rfl,hlt,hQ⟩ hG;have hl:=hargs.1
 match xs,hl with
 | [x],_=>
   have hx:=H7 (hargs.2 0 _ _ rfl rfl (fun _=>0));subst hx
   have hsz:(ByteArray.mk s.toArray).size≤18:=by simpa [ByteArray.size] using hlt
   have hd:(ByteArray.mk s.toArray).data.toList=s:=by simp
   cases ha:Lib.atoi s with
   | some n=>
     rw[ha] at hQ;refine(hok ⟨s.toArray⟩ n w hsz (by rw[hd];exact ha)).mono ?_;rintro e w' ⟨rfl,B⟩;exact⟨_,.tup [.int .i64 n,.ifc true],σ,ι,rfl,hQ,hΦ,fun β=>XR rfl rfl (.int .i64 n) .nilIfc,H.below B,Step.below B⟩
   | none=>
     rw[ha] at hQ
     obtain⟨cs,h1,h2⟩:=hG.1 "strconv.ErrSyntax" (by simp[HW]) ge hge
     unfold Ju at h2;rw[Ab rfl] at h2;obtain⟨t,p,rfl⟩:=h2;refine(herr ⟨s.toArray⟩ t p w hsz (by rw[hd];exact ha) h1).mono ?_;rintro e w' ⟨⟨T,v,rfl⟩,B⟩;exact⟨_,.tup [.int .i64 0,.ifc false],σ,ι,rfl,hQ,hΦ,fun β=>XR rfl rfl (.int .i64 0) (.ifc T v),H.below B,Step.below B⟩
def LF:AE:=fun args h Q=>∃ i:Int,args=[.int .i64 i]∧-9223372036854775808≤i∧i≤9223372036854775807∧Q (.str (Lib.itoa i)) h
def WZ(P:Program)(g:FuncId):Prop:=∃ gt,P.globalNamed "internal/strconv.uint64pow10"= some gt∧∀ (i:Int) (_:-9223372036854775808≤i) (_:i≤9223372036854775807) (w:World),w.var? P "internal/strconv.uint64pow10"= some ((List.range 20).map fun i=>Value.int .u64 ((10^i:Nat):Int)).toArray →
 Calls P g #[.int .i64 i] w fun e w'=>e= .returned (.string ⟨(Lib.itoa i).toArray⟩)∧Below w.heap.size w w'
theorem dG{P:Program}{g:FuncId}(hs:WZ P g):AK P g LF:=by
 obtain⟨gt,hgt,hs⟩:=hs;rintro Φ ι σ w args xs Q hΦ H hargs ⟨i,rfl,h0,h1,hQ⟩ hG;have hl:=hargs.1
 match xs,hl with
 | [x],_=>
   have hx:=CU (hargs.2 0 _ _ rfl rfl (fun _=>0));subst hx
   obtain⟨cs,g1,g2⟩:=hG.1 "internal/strconv.uint64pow10" (by simp[HW]) gt hgt
   unfold Ju at g2;rw[Ad (by decide),Ad (by decide)] at g2;subst g2;refine(hs i h0 h1 w g1).mono ?_;rintro e w' ⟨rfl,B⟩;exact⟨_,.str (Lib.itoa i),σ,ι,rfl,hQ,hΦ,fun β=>.str _,H.below B,Step.below B⟩
section
set_option maxRecDepth 8000
def pL(hs:List HT)(q:QT)(ok:TuX hs→Prop)(v:TuX hs→q.D):Bj:=fun args H Q=>∃ x:TuX hs,DV.encL (Ck hs x)=args∧ok x∧Q (q.dv (v x)).enc H
theorem RO(hs:List HT)(q:QT)(ok:TuX hs→Prop)(v:TuX hs→q.D):Ik (pL hs q ok v) (Il hs q ok v):=by
 intro args g w Q h hg hQ;unfold Il at h
 cases hx:DX hs args with
 |none=>rw[hx] at h;cases h
 | some x=>
   rw[hx] at h;simp only[Ah,Aj] at h;obtain⟨rfl,rfl⟩:=h;exact⟨x,K6 hx,hg,hQ []⟩
theorem XH{h h0:Ac}{ω0 ω:Nat→W}{ρ:Nat→Nat}{args:List PV}{us:List V}{H:List (List PV)}(R:RS h0 ω0 ω ρ ⟨args,[],H⟩ ⟨us,[],h⟩ X0)(x:V)(hx:x.flat=true):RS h0 ω0 ω ρ ⟨[],[],H⟩ ⟨[],[],h⟩ (X1 (.fl x) x):=by
 have e:∀ p:List Nat,((PV.fl x).fcell p= .fl .undef)∨((PV.fl x).fcell p= .fl x∧x.fcell p=x):=by
  intro p
  match p with
  |[]=>exact .inl rfl
  |[0]=>right;cases x<;>first|exact⟨rfl,rfl⟩|cases hx
  |[n+1]=>exact .inl rfl
  |_::_::_=>exact .inl (by simp[PV.fcell])
 refine(R.forget).handx ?_ (fun p=>?_) (fun p i pb tp=>?_)
 · cases x<;>first|trivial|(refine⟨fun us h=>?_,fun us h=>?_⟩<;>cases h)|cases hx
 · rcases e p with e|⟨e1,e2⟩
   · rw[e];exact .undef _ _
   · rw[e1,e2];exact .v _ _ hx
 · rcases e p with e|⟨e1,e2⟩
   · rw[e];simp[PV.q]
   · rw[e1];simp[PV.q]
theorem Ys(x:V):(PV.fl x).nob:=by
 intro p hb pb tp
 match p with
 |[]=>simp[PV.fcell,PV.q]
 |[0]=>simp[PV.fcell,PV.q]
 |[n+1]=>simp[PV.fcell,PV.q]
 |_::_::_=>simp[PV.fcell,PV.q]
theorem Qj{h0:Ac}{ω0 ω:Nat→W}{ρ:Nat→Nat}{st:PS}{us:St}(R:RS h0 ω0 ω ρ st us X0)(t:Nat){v:PV}(hv:Aa st.sl t=v)(h1:∀ cs,v≠.agg cs)(h2:∀ vs,v≠.tup vs)(h3:v≠.fl .undef):RC us.hp ω (.at (.s t) [0]) v (get us.sl t):=by
 have r:RC us.hp ω (.at (.s t) [0]) ((Aa st.sl t).fcell [0]) ((get us.sl t).fcell [0]):=R.core.rc (.s t) [0];have sh:=R.sh t;rw[hv] at r sh
 have e1:v.fcell [0]=v:=by cases v<;>first|rfl|exact absurd rfl (h1 _)|exact absurd rfl (h2 _)
 have e2:(get us.sl t).fcell [0]=get us.sl t:=by
  have s1:(∀ us',get us.sl t≠.agg us')∧∀ us',get us.sl t≠.tup us':=by
   cases v with
   |agg cs=>exact absurd rfl (h1 _)
   |tup vs=>exact absurd rfl (h2 _)
   |fl x=>cases x<;>first|exact absurd rfl h3|exact sh
   |_=>exact sh
  generalize get us.sl t=u at s1
  cases u<;>first|rfl|exact absurd rfl (s1.1 _)|exact absurd rfl (s1.2 _)
 rw[e1,e2] at r;exact r
def UO:List HT:=[.one .frz (.int .i64)]
def UR:QT:=.one (.one .own .str)
@[irreducible] def J4(x:Int):List UInt8:=(shut fun(x:Int)=>Lib.itoa x).1 x
@[irreducible] def JX(x:Int):Prop:=(shut fun(x:Int)=>-9223372036854775808≤x∧x≤9223372036854775807).1 x
theorem UJ (x):J4 x=(Lib.itoa x):=by unfold J4;exact congrFun (shut _).2 x
theorem UF (x):JX x=(-9223372036854775808≤x∧x≤9223372036854775807):=by unfold JX;exact congrFun (shut _).2 x
def UW:ER:=Il UO UR JX J4
@[irreducible] def LB:Bj:=pL UO UR JX J4
theorem aJ:Ik LB UW:=by unfold LB;exact RO _ _ _ _
theorem aC:CG LF LB:=by
 unfold LB;rintro h ω0 ρ args us H Q K R hloc ⟨(x:Int),rfl,hok,hQ⟩ hK;have hlen:=R.lsl
 match us,hlen with
 | [u1],_=>
   have c1:RC h ω0 (.at (.s 0) [0]) (.fl (.int .i64 x)) u1:=Qj (us:=⟨[u1],[],h⟩) R 0 rfl (by simp) (by simp) (by simp)
   have e1:u1= .int .i64 x:=by cases c1;rfl
   subst e1;have hok:JX x:=hok;have hQ:Q (.fl (.str (J4 x))) H:=hQ;rw[UF] at hok;rw[UJ] at hQ;exact⟨x,rfl,hok.1,hok.2,hK _ _ _ _ _ _ hQ (XH R _ rfl) (Ys _)⟩
def Un:List HT:=[.one .frz .str,.one .frz (.int .u8)]
def Um:QT:=.one (.one .own (.int .i64))
@[irreducible] def C7(x:List UInt8×Int):Int:=(shut fun(x:List UInt8×Int)=>Lib.indexByte x.1 x.2.toNat.toUInt8).1 x
@[irreducible] def JL(x:List UInt8×Int):Prop:=(shut fun(x:List UInt8×Int)=>True).1 x
theorem QH (x):C7 x=(Lib.indexByte x.1 x.2.toNat.toUInt8):=by unfold C7;exact congrFun (shut _).2 x
theorem Ul (x):JL x=(True):=by unfold JL;exact congrFun (shut _).2 x
def QK:ER:=Il Un Um JL C7
@[irreducible] def JO:Bj:=pL Un Um JL C7
theorem Uj:Ik JO QK:=by unfold JO;exact RO _ _ _ _
theorem Uk:CG IB JO:=by
 unfold JO;rintro h ω0 ρ args us H Q K R hloc ⟨⟨(s:List UInt8),(c:Int)⟩,rfl,hok,hQ⟩ hK;have hlen:=R.lsl
 match us,hlen with
 | [u1,u2],_=>
   have c1:RC h ω0 (.at (.s 0) [0]) (.fl (.str s)) u1:=Qj (us:=⟨[u1,u2],[],h⟩) R 0 rfl (by simp) (by simp) (by simp);have c2:RC h ω0 (.at (.s 1) [0]) (.fl (.int .u8 c)) u2:=Qj (us:=⟨[u1,u2],[],h⟩) R 1 rfl (by simp) (by simp) (by simp)
   have e1:u1= .str s:=by cases c1;rfl
   have e2:u2= .int .u8 c:=by cases c2;rfl
   subst e1;subst e2;have hQ:Q (.fl (.int .i64 (C7 (s,c)))) H:=hQ;rw[QH] at hQ;exact⟨s,c,rfl,hK _ _ _ _ _ _ hQ (XH R _ rfl) (Ys _)⟩
def U3:List HT:=[.one .frz .str]
def UZ:QT:=.tup [.one .own (.int .i64),.one .own .ifc]
@[irreducible] def CQ(x:List UInt8):Int×Bool:=(shut fun(x:List UInt8)=>((Lib.atoi x).getD 0,(Lib.atoi x).isSome)).1 x
@[irreducible] def JZ(x:List UInt8):Prop:=(shut fun(x:List UInt8)=>x.length≤18).1 x
theorem UE (x):CQ x=(((Lib.atoi x).getD 0,(Lib.atoi x).isSome)):=by unfold CQ;exact congrFun (shut _).2 x
theorem UI (x):JZ x=(x.length≤18):=by unfold JZ;exact congrFun (shut _).2 x
def UM:ER:=Il U3 UZ JZ CQ
@[irreducible] def LG:Bj:=pL U3 UZ JZ CQ
theorem aG:Ik LG UM:=by unfold LG;exact RO _ _ _ _
theorem Xt{x:V}(hx:x.flat=true):Shp1 (.fl x) x:=by
 cases x<;>first|trivial|(refine⟨fun us h=>?_,fun us h=>?_⟩<;>cases h)|cases hx
theorem V6{x:V}(hx:x.flat=true):x.cells=[x]:=by
 cases x<;>first|rfl|cases hx
theorem jF{h h0:Ac}{ω0 ω:Nat→W}{ρ:Nat→Nat}{args:List PV}{us:List V}{H:List (List PV)}(R:RS h0 ω0 ω ρ ⟨args,[],H⟩ ⟨us,[],h⟩ X0)(x y:V)(hx:x.flat=true)(hy:y.flat=true) :
 RS h0 ω0 ω ρ ⟨[],[],H⟩ ⟨[],[],h⟩ (X1 (.tup [.fl x,.fl y]) (.tup [x,y]))∧(PV.tup [.fl x,.fl y]).nob:=by
 have e:∀ p:List Nat,((PV.tup [.fl x,.fl y]).fcell p= .fl .undef)∨∃ z,z.flat=true∧(PV.tup [.fl x,.fl y]).fcell p= .fl z∧(V.tup [x,y]).fcell p=z:=by
  intro p
  match p with
  |[]=>exact .inl rfl
  |[_]=>exact .inl rfl
  |[0,0]=>exact .inr ⟨x,hx,rfl,by show get x.cells 0=x;rw[V6 hx];rfl⟩
  |[1,0]=>exact .inr ⟨y,hy,rfl,by show get y.cells 0=y;rw[V6 hy];rfl⟩
  |[0,c+1]=>exact .inl rfl
  |[1,c+1]=>exact .inl rfl
  |[i+2,0]=>exact .inl rfl
  |[i+2,c+1]=>exact .inl rfl
  |_::_::_::_=>exact .inl rfl
 refine⟨(R.forget).handx ⟨[x,y],rfl,rfl,fun i=>?_⟩ (fun p=>?_) (fun p i pb tp=>?_),fun p hb pb tp=>?_⟩
 · match i with
   |0=>exact Xt hx
   |1=>exact Xt hy
   |n+2=>trivial
 · rcases e p with e|⟨z,hz,e1,e2⟩
   · rw[e];exact .undef _ _
   · rw[e1,e2];exact .v _ _ hz
 · rcases e p with e|⟨z,hz,e1,e2⟩
   · rw[e];simp[PV.q]
   · rw[e1];simp[PV.q]
 · rcases e p with e|⟨z,hz,e1,e2⟩
   · rw[e];simp[PV.q]
   · rw[e1];simp[PV.q]
theorem aD:CG LC LG:=by
 unfold LG;rintro h ω0 ρ args us H Q K R hloc ⟨(x:List UInt8),rfl,hok,hQ⟩ hK;have hlen:=R.lsl
 match us,hlen with
 | [u1],_=>
   have c1:RC h ω0 (.at (.s 0) [0]) (.fl (.str x)) u1:=Qj (us:=⟨[u1],[],h⟩) R 0 rfl (by simp) (by simp) (by simp)
   have e1:u1= .str x:=by cases c1;rfl
   subst e1;have hok:JZ x:=hok;have hQ:Q (.tup [.fl (.int .i64 (CQ x).1),.fl (.ifc (CQ x).2)]) H:=hQ;rw[UI] at hok;rw[UE] at hQ;have r:=jF R (.int .i64 ((Lib.atoi x).getD 0)) (.ifc (Lib.atoi x).isSome) rfl rfl;exact⟨x,rfl,hok,hK _ _ _ _ _ _ hQ r.1 r.2⟩
end
section
set_option maxRecDepth 8000
def Z0:DCode:=(.seq [0] (.region [oa 0 2 (.mv (.c (.str [])))]) (.seq [2] (.region [om 0 3 0,oc 1 4 LF LB UW [(.t 3)],om 2 2 4]) .ret))
def Eg:Fn:=⟨⟨1,5,0,true,[.tmp 2],Z0⟩,[.one .frz (.int .i64)],.one (.one .own (.str))⟩
theorem Uu:Eg.A:=D0 ⟨aC,trivial⟩
def E1:Int→List UInt8:=Eg.V
def Lv:Int→Prop:=Eg.O
theorem Ut:Eg.B:=Ef ⟨aJ,trivial⟩ (by kernel_rfl) (fun x=>by kernel_rfl)
end
section
set_option maxRecDepth 100000
theorem ZS (x):E1 x=(J4 x):=(Eg.v x).trans (by kernel_rfl)
theorem ZX (x):Lv x=(JX x):=(Eg.o x).trans (by kernel_rfl)
attribute [irreducible] E1 Lv
end
section
set_option maxRecDepth 8000
def aV:DCode:=(.seq [1,0] (.region [oa 0 4 (.mv (.c .undef))]) (.seq [5,1] (.region [on 0 6 0,op 1 7 Kd LM Ve [(.t 6)],om 2 5 7]) (.seq [5] (.region [om 0 8 5,om 1 9 5,oa 2 10 (.nilck (.t 9)),oa 3 11 (.fieldA 2 (.t 10)),oa 4 12 (.loadH none (.t 11)),om 5 13 1,oa 6 14 (.bin .mul (.c (.int .i64 7919)) (.t 13)),oa 7 15 (.bin .add (.t 12) (.t 14)),oa 8 16 (.nilck (.t 8)),oa 9 17 (.fieldA 2 (.t 16)),os 10 (.storeH 1 (.t 17) (.t 15))]) (.seq [4] (.region [om 0 18 5,om 1 4 18]) .ret))))
def HG:DFun:=⟨2,19,0,false,[.tmp 4],aV⟩
@[irreducible] def HH:AE:=EA HG.er.er
@[irreducible] def Ka:Bj:=CF HG.er
theorem UU:CG HH Ka:=by unfold HH Ka;exact F9 (f:=HG.er) ⟨bP,trivial⟩
def On:List HT:=[.one .frz (.sl (.one (.int .u8))),.one .frz (.int .i64)]
def Ow:List (Ql×CT):=[(.frz,.sl (.one (.int .u8))),(.own,.int .i64),(.own,.int .i64)]
@[irreducible] def GR(x:List (Int)×Int):List (Int)×Int×Int:=(shut fun x=>NA HG On Ow x).1 x
@[irreducible] def IE(x:List (Int)×Int):Prop:=(shut fun x=>Nc HG On Ow x).1 x
def Q2:Cs:=PA On Ow IE GR
theorem UY:Es Ka Q2:=by unfold Ka;exact V4 (f:=HG) (hs:=On) (cs:=Ow) ⟨bS,trivial⟩ (by kernel_rfl) (fun x=>by kernel_rfl) (fun x h=>by unfold IE at h;exact Eq.mp (congrFun (shut _).2 x) h) (fun x=>by unfold GR;exact(congrFun (shut _).2 x).symm)
def aX:DCode:=(.seq [4,1,0] (.region [oa 0 4 (.allocB 0 [(.int .i64 0),(.int .i64 0),(.int .i64 0),(.int .i64 0)])]) (.seq [5,4,1,0] (.region [om 0 8 0,op 1 9 Bu CA Dj [(.t 8),(.c (.int .i64 56))],oa 2 10 (.bin .add (.c (.int .i64 1)) (.t 9)),om 3 5 10]) (.seq [6,5,4,1,0] (.region [om 0 11 0,op 1 12 Bu CA Dj [(.t 11),(.c (.int .i64 15))],oa 2 13 (.bin .add (.c (.int .i64 1)) (.t 12)),om 3 6 13]) (.seq [6,5,4,1,0] (.seq [15,6,5,4,1,0] (.region [om 0 14 0,op 1 15 HJ J5 Q7 [(.t 14),(.c (.int .i64 2))]]) (.cond (.t 15) (.region [oi 0 6 2]) .skip)) (.seq [7,6,5,4,1,0] (.region [om 0 16 0,om 1 17 1,oa 2 18 (.bin .sub (.t 17) (.c (.int .i64 1))),oa 3 19 (.maxI (.c (.int .i64 1)) (.t 18)),op 4 20 Bu CA Dj [(.t 16),(.t 19)],oa 5 21 (.bin .add (.c (.int .i64 1)) (.t 20)),om 6 7 21]) (.seq [5,4] (.seq [23,7,6,5,4,1,0] (.region [om 0 22 0,op 1 23 Bu CA Dj [(.t 22),(.c (.int .i64 16))]]) (.block 0 (.seq [24,23,7,6,5,4,1,0] (.region [oa 0 25 (.bin .eql (.t 23) (.c (.int .i64 0))),om 1 24 25]) (.cond (.t 24) (.seq [4] (.region [om 0 26 5,om 1 27 6,oa 2 28 (.build [(.int .i64 0),(.int .i64 0),(.int .i64 0),(.int .i64 0)] [(0,1,(.c (.int .i64 2))),(1,1,(.t 26)),(2,1,(.t 27))]),os 3 (.storeB 0 4 (.t 4) (.t 28))]) .ret) (.seq [29,23,7,6,5,4,1,0] (.region [oa 0 30 (.bin .eql (.t 23) (.c (.int .i64 1))),om 1 29 30]) (.cond (.t 29) (.seq [4] (.region [om 0 31 6,oa 1 32 (.build [(.int .i64 0),(.int .i64 0),(.int .i64 0),(.int .i64 0)] [(0,1,(.c (.int .i64 2))),(2,1,(.t 31))]),os 2 (.storeB 0 4 (.t 4) (.t 32))]) .ret) (.seq [33,23,7,6,5,4,1,0] (.seq [33,23,7,6,5,4,1,0] (.region [oa 0 34 (.bin .eql (.t 23) (.c (.int .i64 2))),om 1 33 34]) (.cond (.t 33) .skip (.region [oa 0 35 (.bin .eql (.t 23) (.c (.int .i64 3))),om 1 33 35]))) (.cond (.t 33) (.seq [4] (.region [om 0 36 5,om 1 37 6,oa 2 38 (.build [(.int .i64 0),(.int .i64 0),(.int .i64 0),(.int .i64 0)] [(0,1,(.c (.int .i64 6))),(1,1,(.t 36)),(2,1,(.t 37))]),os 3 (.storeB 0 4 (.t 4) (.t 38))]) .ret) (.seq [39,23,7,6,5,4,1,0] (.region [oa 0 40 (.bin .eql (.t 23) (.c (.int .i64 4))),om 1 39 40]) (.cond (.t 39) (.seq [4] (.region [om 0 41 6,oa 1 42 (.build [(.int .i64 0),(.int .i64 0),(.int .i64 0),(.int .i64 0)] [(0,1,(.c (.int .i64 8))),(2,1,(.t 41))]),os 2 (.storeB 0 4 (.t 4) (.t 42))]) .ret) (.seq [43,23,7,5,4,1,0] (.region [oa 0 44 (.bin .eql (.t 23) (.c (.int .i64 5))),om 1 43 44]) (.cond (.t 43) (.seq [4] (.region [om 0 45 0,op 1 46 Bu CA Dj [(.t 45),(.c (.int .i64 4))],oa 2 47 (.build [(.int .i64 0),(.int .i64 0),(.int .i64 0),(.int .i64 0)] [(0,1,(.c (.int .i64 9))),(3,1,(.t 46))]),os 3 (.storeB 0 4 (.t 4) (.t 47))]) .ret) (.seq [48,23,7,5,4,1,0] (.region [oa 0 49 (.bin .eql (.t 23) (.c (.int .i64 6))),om 1 48 49]) (.cond (.t 48) (.seq [4] (.region [oa 0 50 (.build [(.int .i64 0),(.int .i64 0),(.int .i64 0),(.int .i64 0)] [(0,1,(.c (.int .i64 10)))]),os 1 (.storeB 0 4 (.t 4) (.t 50))]) .ret) (.seq [51,23,7,5,4,1,0] (.region [oa 0 52 (.bin .eql (.t 23) (.c (.int .i64 7))),om 1 51 52]) (.cond (.t 51) (.seq [4] (.region [om 0 53 0,om 1 54 1,oa 2 55 (.maxI (.c (.int .i64 1)) (.t 54)),op 3 56 Bu CA Dj [(.t 53),(.t 55)],oa 4 57 (.build [(.int .i64 0),(.int .i64 0),(.int .i64 0),(.int .i64 0)] [(0,1,(.c (.int .i64 5))),(3,1,(.t 56))]),os 5 (.storeB 0 4 (.t 4) (.t 57))]) .ret) (.seq [58,7,5,4,1,0] (.seq [58,23,7,5,4,1,0] (.region [oa 0 59 (.bin .eql (.t 23) (.c (.int .i64 8))),om 1 58 59]) (.cond (.t 58) .skip (.seq [58,23,7,5,4,1,0] (.region [oa 0 60 (.bin .eql (.t 23) (.c (.int .i64 9))),om 1 58 60]) (.cond (.t 58) .skip (.region [oa 0 61 (.bin .eql (.t 23) (.c (.int .i64 10))),om 1 58 61]))))) (.cond (.t 58) (.seq [63,7,5,4,0] (.region [om 0 62 1,oa 1 63 (.bin .gtr (.t 62) (.c (.int .i64 1)))]) (.cond (.t 63) (.seq [4] (.region [om 0 64 7,oa 1 65 (.build [(.int .i64 0),(.int .i64 0),(.int .i64 0),(.int .i64 0)] [(0,1,(.c (.int .i64 3))),(3,1,(.t 64))]),om 2 66 7,oa 3 67 (.build [(.int .i64 0),(.int .i64 0),(.int .i64 0),(.int .i64 0)] [(0,1,(.c (.int .i64 4))),(3,1,(.t 66))]),om 4 68 5,om 5 69 7,oa 6 70 (.build [(.int .i64 0),(.int .i64 0),(.int .i64 0),(.int .i64 0)] [(0,1,(.c (.int .i64 7))),(1,1,(.t 68)),(3,1,(.t 69))]),⟨7,some 71,.a false (.litSlice 4 3 [(.int .i64 0),(.int .i64 0),(.int .i64 0),(.int .i64 0),(.int .i64 0),(.int .i64 0),(.int .i64 0),(.int .i64 0),(.int .i64 0),(.int .i64 0),(.int .i64 0),(.int .i64 0)] [(0,4,(.t 65)),(4,4,(.t 67)),(8,4,(.t 70))]) (some Hv),none,[]⟩,om 8 72 0,op 9 73 Bu CA Dj [(.t 72),(.c (.int .i64 3))],oa 10 74 (.indexA 4 (.t 71) (.t 73)),ob 11 75 (.loadH (some 4) (.t 74)),os 12 (.storeB 0 4 (.t 4) (.t 75))]) .ret) .skip)) .skip)))))))))))))))))) (.seq [4] (.region [om 0 76 5,oa 1 77 (.build [(.int .i64 0),(.int .i64 0),(.int .i64 0),(.int .i64 0)] [(0,1,(.c (.int .i64 2))),(1,1,(.t 76))]),os 2 (.storeB 0 4 (.t 4) (.t 77))]) .ret)))))))
def HC:DFun:=⟨2,78,1,false,[.cell 4 (some 4)],aX⟩
@[irreducible] def J6:AE:=EA HC.er.er
@[irreducible] def LK:Bj:=CF HC.er
theorem bC:CG J6 LK:=by unfold J6 LK;exact F9 (f:=HC.er) ⟨DB,DB,U1,DB,DB,DB,DB,DB,trivial⟩
def Oh:List HT:=[.one .frz (.int .i64)]
def Oi:List (Ql×CT):=[(.frz,.sl (.one (.int .u8))),(.own,.int .i64),(.own,.int .i64)]
def Ot:QT:=.one (.agg [(.own,.int .i64),(.own,.int .i64),(.own,.int .i64),(.own,.int .i64)])
@[irreducible] def Br(x:(List (Int)×Int×Int)×Int):(Int×Int×Int×Int)×(Int×Int):=(shut fun x=>Gx HC Oh Oi Ot x).1 x
@[irreducible] def J3(x:(List (Int)×Int×Int)×Int):Prop:=(shut fun x=>Gq HC Oh Oi Ot x).1 x
def Vc:Cs:=G5 Oh Oi Ot J3 Br
theorem bc:Es LK Vc:=by unfold LK;exact IM (f:=HC) (hs:=Oh) (cs:=Oi) (q:=Ot) ⟨DD,DD,UT,DD,DD,DD,DD,DD,trivial⟩ (by kernel_rfl) (fun x=>by kernel_rfl) (fun x h=>by unfold J3 at h;exact Eq.mp (congrFun (shut _).2 x) h) (fun x=>by unfold Br;exact(congrFun (shut _).2 x).symm)
def bE:DCode:=(.seq [4,1,0] (.region [oa 0 4 (.allocB 0 [(.int .i64 0),.nils])]) (.seq [5,4,1,0] (.region [om 0 11 0,op 1 12 Bu CA Dj [(.t 11),(.c (.int .i64 4))],oa 2 13 (.bin .add (.c (.int .i64 1)) (.t 12)),om 3 5 13]) (.seq [6,5,4,1,0] (.region [om 0 14 1,oa 1 15 (.build [(.int .i64 0),.nils] [(0,1,(.t 14))]),oa 2 6 (.allocB 1 [(.int .i64 0),.nils]),os 3 (.storeB 1 2 (.t 6) (.t 15))]) (.seq [6,4] (.seq [7,6,5,4,1,0] (.region [oi 0 7 0]) (.block 0 (.loop [0,1,4,5,6,7] 1 (.seq [7,6,5,4,1,0] (.seq [18,7,6,5,4,1,0] (.region [om 0 16 7,om 1 17 5,oa 2 18 (.bin .lss (.t 16) (.t 17))]) (.cond (.t 18) .skip (.exit 0))) (.seq [7,6,5,4,1,0] (.block 1 (.seq [8,7,6,5,4,1,0] (.region [⟨0,some 21,.a false (.litSlice 4 0 [] []) (some Hv),none,[]⟩,om 1 8 21]) (.seq [8,7,6,5,4,1,0] (.seq [9,8,7,6,5,4,1,0] (.region [oi 0 9 0]) (.block 2 (.loop [0,1,4,5,6,7,8,9] 1 (.seq [9,8,7,6,5,4,1,0] (.seq [24,9,8,7,6,5,4,1,0] (.region [om 0 22 9,om 1 23 1,oa 2 24 (.bin .lss (.t 22) (.t 23))]) (.cond (.t 24) .skip (.exit 2))) (.seq [9,8,7,6,5,4,1,0] (.block 3 (.seq [10,9,8,7,6,5,4,1,0] (.region [om 0 27 0,om 1 28 5,op 2 29 J6 LK Vc [(.t 27),(.t 28)],oa 3 10 (.allocB 2 [(.int .i64 0),(.int .i64 0),(.int .i64 0),(.int .i64 0)]),os 4 (.storeB 2 4 (.t 10) (.t 29))]) (.seq [10,9,8,7,6,5,4,1,0] (.seq [35,10,9,8,7,6,5,4,1,0] (.region [om 0 30 7,oa 1 31 (.bin .gtr (.t 30) (.c (.int .i64 0))),om 2 32 31,og 3 33 (.mv (.t 0)) 32 true,⟨4,some 34,.callp false HJ J5 Q7 [(.t 33),(.c (.int .i64 3))],(some (32,true)),[]⟩,oa 5 35 (.pick (.t 32) (.t 34) (.c (.bool false)))]) (.cond (.t 35) (.region [oa 0 36 (.build [(.int .i64 0),(.int .i64 0),(.int .i64 0),(.int .i64 0)] [(0,1,(.c (.int .i64 1)))]),os 1 (.storeB 2 4 (.t 10) (.t 36))]) .skip)) (.region [om 0 37 8,ob 1 38 (.loadB 2 (some 4) (.t 10)),⟨2,some 39,.a false (.litSlice 4 1 [(.int .i64 0),(.int .i64 0),(.int .i64 0),(.int .i64 0)] [(0,4,(.t 38))]) (some Hv),none,[]⟩,oa 3 40 (.app 4 (.t 37) (.t 39)),om 4 8 40])))) (.region [om 0 25 9,oa 1 26 (.bin .add (.t 25) (.c (.int .i64 1))),om 2 9 26])))))) (.region [oa 0 41 (.fieldA 1 (.t 6)),ob 1 42 (.loadB 1 none (.t 41)),om 2 43 8,⟨3,some 44,.a false (.litSlice 1 1 [.nils] [(0,1,(.t 43))]) (some (.one (.sl Hv))),none,[]⟩,oa 4 45 (.app 1 (.t 42) (.t 44)),oa 5 46 (.fieldA 1 (.t 6)),os 6 (.storeB 1 1 (.t 46) (.t 45))])))) (.region [om 0 19 7,oa 1 20 (.bin .add (.t 19) (.c (.int .i64 1))),om 2 7 20])))))) (.seq [4] (.region [ob 0 47 (.loadB 1 (some 2) (.t 6)),os 1 (.storeB 0 2 (.t 4) (.t 47))]) .ret)))))
def HE:DFun:=⟨2,48,3,false,[.cell 4 (some 2)],bE⟩
@[irreducible] def J9:AE:=EA HE.er.er
@[irreducible] def LI:Bj:=CF HE.er
theorem bh:CG J9 LI:=by unfold J9 LI;exact F9 (f:=HE.er) ⟨DB,bC,U1,trivial⟩
def Ol:List HT:=[.one .frz (.int .i64)]
def Oe:List (Ql×CT):=[(.frz,.sl (.one (.int .u8))),(.own,.int .i64),(.own,.int .i64)]
def Oo:QT:=.one (.agg [(.own,.int .i64),(.own,.sl (.one (.sl Hv)))])
@[irreducible] def Cl(x:(List (Int)×Int×Int)×Int):(Int×(List (List (Int×Int×Int×Int))))×(Int×Int):=(shut fun x=>Gx HE Ol Oe Oo x).1 x
@[irreducible] def J2(x:(List (Int)×Int×Int)×Int):Prop:=(shut fun x=>Gq HE Ol Oe Oo x).1 x
def U5:Cs:=G5 Ol Oe Oo J2 Cl
theorem bl:Es LI U5:=by unfold LI;exact IM (f:=HE) (hs:=Ol) (cs:=Oe) (q:=Oo) ⟨DD,bc,UT,trivial⟩ (by kernel_rfl) (fun x=>by kernel_rfl) (fun x h=>by unfold J2 at h;exact Eq.mp (congrFun (shut _).2 x) h) (fun x=>by unfold Cl;exact(congrFun (shut _).2 x).symm)
def aF:DCode:=(.seq [4,1,0] (.region [oa 0 4 (.allocB 0 [(.int .i64 0),.nils])]) (.seq [5,4,1,0] (.region [om 0 9 0,om 1 10 1,op 2 11 J9 LI U5 [(.t 9),(.t 10)],oa 3 5 (.allocB 1 [(.int .i64 0),.nils]),os 4 (.storeB 1 2 (.t 5) (.t 11))]) (.seq [5,4] (.seq [6,5,4,1,0] (.region [om 0 12 0,op 1 13 Bu CA Dj [(.t 12),(.c (.int .i64 6))],om 2 6 13]) (.block 0 (.loop [0,1,4,5,6] 1 (.seq [6,5,4,1,0] (.seq [15,6,5,4,1,0] (.region [om 0 14 6,oa 1 15 (.bin .gtr (.t 14) (.c (.int .i64 0)))]) (.cond (.t 15) .skip (.exit 0))) (.seq [6,5,4,1,0] (.block 1 (.seq [7,6,5,4,1,0] (.region [om 0 18 0,oa 1 19 (.fieldA 1 (.t 5)),oa 2 20 (.loadB 1 none (.t 19)),oa 3 21 (.len (.t 20)),op 4 22 Bu CA Dj [(.t 18),(.t 21)],om 5 7 22]) (.seq [8,7,6,5,4,1,0] (.region [om 0 23 0,om 1 24 1,op 2 25 Bu CA Dj [(.t 23),(.t 24)],om 3 8 25]) (.seq [29,8,7,6,5,4,1,0] (.region [oa 0 26 (.fieldA 1 (.t 5)),oa 1 27 (.loadB 1 none (.t 26)),oa 2 28 (.len (.t 27)),oa 3 29 (.bin .gtr (.t 28) (.c (.int .i64 1)))]) (.cond (.t 29) (.region [⟨7,some 37,.a false (.litSlice 1 3 [(.int .i64 0),(.int .i64 0),(.int .i64 0)] [(0,1,(.c (.int .i64 4))),(1,1,(.c (.int .i64 5))),(2,1,(.c (.int .i64 3)))]) (some (.one (.int .i64))),none,[]⟩,oa 0 30 (.fieldA 1 (.t 5)),xA 1 31 (.loadB 1 none (.t 30)) (rg 1),om 2 32 7,xA 3 33 (.indexA 1 (.t 31) (.t 32)) (rg 3),xB 4 34 (.loadX 1 1 none (.t 33)) (rg 4),om 5 35 8,om 6 36 0,om 9 39 0,oa 10 40 (.fieldA 1 (.t 5)),xA 11 41 (.loadB 1 none (.t 40)) [10],xA 12 42 (.len (.t 41)) [10,11],xA 13 43 (.bin .sub (.t 42) (.c (.int .i64 1))) [10,11,12],⟨8,some 38,.callv true JU Lx Uw [(.t 36),(.t 37)] 1 1,none,[6,7]⟩,⟨14,some 44,.callv false Bu CA Dj [(.t 39),(.t 43)] 1 1,none,[6,7,8,9,10,11,12,13]⟩,xA 15 45 (.bin .add (.c (.int .i64 1)) (.t 44)) [6,7,8,9,10,11,12,13,14],xA 16 46 (.build [(.int .i64 0),(.int .i64 0),(.int .i64 0),(.int .i64 0)] [(0,1,(.t 38)),(3,1,(.t 45))]) [6,7,8,9,10,11,12,13,14,15],xA 17 47 (.indexA 4 (.t 34) (.t 35)) (rg 17),xS 18 (.storeH 4 (.t 47) (.t 46)) (rg 18)]) .skip))))) (.region [om 0 16 6,oa 1 17 (.bin .sub (.t 16) (.c (.int .i64 1))),om 2 6 17])))))) (.seq [4] (.region [ob 0 48 (.loadB 1 (some 2) (.t 5)),os 1 (.storeB 0 2 (.t 4) (.t 48))]) .ret))))
def Hz:DFun:=⟨2,49,2,false,[.cell 4 (some 2)],aF⟩
@[irreducible] def J1:AE:=EA Hz.er.er
@[irreducible] def LA:Bj:=CF Hz.er
theorem aN:CG J1 LA:=by unfold J1 LA;exact F9 (f:=Hz.er) ⟨bh,DB,DB,DB,ZM,DB,trivial⟩
def N5:List HT:=[.one .frz (.int .i64)]
def N7:List (Ql×CT):=[(.frz,.sl (.one (.int .u8))),(.own,.int .i64),(.own,.int .i64)]
def N6:QT:=.one (.agg [(.own,.int .i64),(.own,.sl (.one (.sl Hv)))])
@[irreducible] def IF(x:(List (Int)×Int×Int)×Int):(Int×(List (List (Int×Int×Int×Int))))×(Int×Int):=(shut fun x=>Gx Hz N5 N7 N6 x).1 x
@[irreducible] def JY(x:(List (Int)×Int×Int)×Int):Prop:=(shut fun x=>Gq Hz N5 N7 N6 x).1 x
def U2:Cs:=G5 N5 N7 N6 JY IF
theorem aS:Es LA U2:=by unfold LA;exact IM (f:=Hz) (hs:=N5) (cs:=N7) (q:=N6) ⟨bl,DD,DD,DD,Z2,DD,trivial⟩ (by kernel_rfl) (fun x=>by kernel_rfl) (fun x h=>by unfold JY at h;exact Eq.mp (congrFun (shut _).2 x) h) (fun x=>by unfold IF;exact(congrFun (shut _).2 x).symm)
def ZC:DCode:=(.seq [6,2,1,0] (.region [oa 0 6 (.allocB 0 [(.int .i64 0),.nils])]) (.seq [6] (.region [on 0 7 0,om 1 8 1,op 2 9 HH Ka Q2 [(.t 7),(.t 8)],om 3 10 2,op 4 11 J1 LA U2 [(.t 9),(.t 10)],os 5 (.storeB 0 2 (.t 6) (.t 11))]) .ret))
def GH:Fn:=⟨⟨3,12,1,false,[.cell 6 (some 2)],ZC⟩,[.one .frz (.sl (.one (.int .u8))),.one .frz (.int .i64),.one .frz (.int .i64)],.one (.agg [(.own,.int .i64),(.own,.sl (.one (.sl Hv)))])⟩
theorem Zw:GH.A:=D0 ⟨UU,aN,trivial⟩
def Ct:List (Int)×Int×Int→Int×(List (List (Int×Int×Int×Int))):=GH.V
def NQ:List (Int)×Int×Int→Prop:=GH.O
theorem ZG:GH.B:=Ef ⟨UY,aS,trivial⟩ (by kernel_rfl) (fun x=>by kernel_rfl)
def Zr:DCode:=(.seq [2,1,0] (.region [oi 0 6 0]) (.seq [6] (.region [on 0 7 0,om 1 8 1,op 2 9 HH Ka Q2 [(.t 7),(.t 8)],om 3 10 2,op 4 11 Bu CA Dj [(.t 9),(.t 10)],om 5 6 11]) .ret))
def GJ:Fn:=⟨⟨3,12,0,true,[.tmp 6],Zr⟩,[.one .frz (.sl (.one (.int .u8))),.one .frz (.int .i64),.one .frz (.int .i64)],.one (.one .own (.int .i64))⟩
theorem Zq:GJ.A:=D0 ⟨UU,DB,trivial⟩
def C8:List (Int)×Int×Int→Int:=GJ.V
def NP:List (Int)×Int×Int→Prop:=GJ.O
theorem Zz:GJ.B:=Ef ⟨UY,DD,trivial⟩ (by kernel_rfl) (fun x=>by kernel_rfl)
end
section
set_option maxRecDepth 100000
theorem bj (x):GR x=((GU x.1).1,(GU x.1).2.1,(iAdd .i64 (GU x.1).2.2 (iMul .i64 7919 x.2))):=by unfold GR;exact(congrFun (shut _).2 x).trans (by kernel_rfl)
theorem br (x):IE x=(J7 x.1):=by unfold IE;exact(congrFun (shut _).2 x).trans (by kernel_rfl)
def E3(x:(List (Int)×Int×Int)×Int):=Al ((x.1.1,(Al (x.1,56)).2),15)
def BA(x:(List (Int)×Int×Int)×Int):=Cm ((x.1.1,(E3 x).2),2)
def Cz(x:(List (Int)×Int×Int)×Int):=Al ((x.1.1,(bSel (BA x).1 (BA x).2.1 (BA x).2.1),(bSel (BA x).1 (BA x).2.2 (BA x).2.2)),(iMax 1 (iSub .i64 x.2 1)))
def Ar(x:(List (Int)×Int×Int)×Int):=Al ((x.1.1,(Cz x).2),16)
def JW(x:(List (Int)×Int×Int)×Int):=Al ((x.1.1,(Ar x).2),4)
def GL(x:(List (Int)×Int×Int)×Int):=Al ((x.1.1,(Ar x).2),3)
def JT(x:(List (Int)×Int×Int)×Int):=Al ((x.1.1,(Ar x).2),(iMax 1 x.2))
theorem bw (x):Br x=(bSel (bAnd (bNot (iEq (Ar x).1 0)) (bAnd (bNot (iEq (Ar x).1 1)) (bAnd (bNot (bOr (iEq (Ar x).1 2) (iEq (Ar x).1 3))) (bAnd (bNot (iEq (Ar x).1 4)) (bAnd (bNot (iEq (Ar x).1 5)) (bAnd (bNot (iEq (Ar x).1 6)) (bAnd (bNot (iEq (Ar x).1 7)) (bOr (bNot (bOr (iEq (Ar x).1 8) (bOr (iEq (Ar x).1 9) (iEq (Ar x).1 10)))) (bNot (iGt x.2 1)))))))))) ((2,(iAdd .i64 1 (Al (x.1,56)).1),0,0),(bSel (bOr (iEq (Ar x).1 8) (bOr (iEq (Ar x).1 9) (iEq (Ar x).1 10))) (Ar x).2.1 (Ar x).2.1),(bSel (bOr (iEq (Ar x).1 8) (bOr (iEq (Ar x).1 9) (iEq (Ar x).1 10))) (Ar x).2.2 (Ar x).2.2)) (bSel (iEq (Ar x).1 0) ((2,(iAdd .i64 1 (Al (x.1,56)).1),(bSel (BA x).1 2 (iAdd .i64 1 (E3 x).1)),0),(Ar x).2) (bSel (iEq (Ar x).1 1) ((2,0,(bSel (BA x).1 2 (iAdd .i64 1 (E3 x).1)),0),(Ar x).2) (bSel (bOr (iEq (Ar x).1 2) (iEq (Ar x).1 3)) ((6,(iAdd .i64 1 (Al (x.1,56)).1),(bSel (BA x).1 2 (iAdd .i64 1 (E3 x).1)),0),(Ar x).2) (bSel (iEq (Ar x).1 4) ((8,0,(bSel (BA x).1 2 (iAdd .i64 1 (E3 x).1)),0),(Ar x).2) (bSel (iEq (Ar x).1 5) ((9,0,0,(JW x).1),(JW x).2) (bSel (iEq (Ar x).1 6) ((10,0,0,0),(Ar x).2) (bSel (iEq (Ar x).1 7) ((5,0,0,(JT x).1),(JT x).2) ((lGet [(3,0,0,(iAdd .i64 1 (Cz x).1)),(4,0,0,(iAdd .i64 1 (Cz x).1)),(7,(iAdd .i64 1 (Al (x.1,56)).1),0,(iAdd .i64 1 (Cz x).1))] (iNat (GL x).1) (0,0,0,0)),(GL x).2))))))))):=by unfold Br;exact(congrFun (shut _).2 x).trans (by kernel_rfl)
theorem bn (x):J3 x=((Cu (x.1,56))∧((Cu ((x.1.1,(Al (x.1,56)).2),15))∧((IG ((x.1.1,(E3 x).2),2))∧((Cu ((x.1.1,(bSel (BA x).1 (BA x).2.1 (BA x).2.1),(bSel (BA x).1 (BA x).2.2 (BA x).2.2)),(iMax 1 (iSub .i64 x.2 1))))∧((Cu ((x.1.1,(Cz x).2),16))∧(((iEq (Ar x).1 0)=true→True)∧((iEq (Ar x).1 0)=false→(((iEq (Ar x).1 1)=true→True)∧((iEq (Ar x).1 1)=false→(((bOr (iEq (Ar x).1 2) (iEq (Ar x).1 3))=true→True)∧((bOr (iEq (Ar x).1 2) (iEq (Ar x).1 3))=false→(((iEq (Ar x).1 4)=true→True)∧((iEq (Ar x).1 4)=false→(((iEq (Ar x).1 5)=true→(Cu ((x.1.1,(Ar x).2),4)))∧((iEq (Ar x).1 5)=false→(((iEq (Ar x).1 6)=true→True)∧((iEq (Ar x).1 6)=false→(((iEq (Ar x).1 7)=true→(Cu ((x.1.1,(Ar x).2),(iMax 1 x.2))))∧((iEq (Ar x).1 7)=false→(((bOr (iEq (Ar x).1 8) (bOr (iEq (Ar x).1 9) (iEq (Ar x).1 10)))=true→(((iGt x.2 1)=true→((Cu ((x.1.1,(Ar x).2),3))∧((((0:Int)≤(GL x).1)∧((GL x).1<(((List.length [(3,0,0,(iAdd .i64 1 (Cz x).1)),(4,0,0,(iAdd .i64 1 (Cz x).1)),(7,(iAdd .i64 1 (Al (x.1,56)).1),0,(iAdd .i64 1 (Cz x).1))]):Int))))∧((iNat (GL x).1)<(List.length [(3,0,0,(iAdd .i64 1 (Cz x).1)),(4,0,0,(iAdd .i64 1 (Cz x).1)),(7,(iAdd .i64 1 (Al (x.1,56)).1),0,(iAdd .i64 1 (Cz x).1))])))))∧((iGt x.2 1)=false→True)))∧((bOr (iEq (Ar x).1 8) (bOr (iEq (Ar x).1 9) (iEq (Ar x).1 10)))=false→True))))))))))))))))))))):=by unfold J3;exact(congrFun (shut _).2 x).trans (by kernel_rfl)
def ID(x:(List (Int)×Int×Int)×Int)(x0:(Int×((List (List (Int×(Int×(Int×Int)))))×(Int×Int)))):Bool:=(iLt x0.1 (iAdd .i64 1 (Al (x.1,4)).1))
def Fs(x:(List (Int)×Int×Int)×Int)(x1:((List (Int×(Int×(Int×Int))))×(Int×(Int×Int)))):Bool:=(iLt x1.2.1 x.2)
def F2(x:(List (Int)×Int×Int)×Int)(x0:(Int×((List (List (Int×(Int×(Int×Int)))))×(Int×Int))))(x1:((List (Int×(Int×(Int×Int))))×(Int×(Int×Int)))):((List (Int×(Int×(Int×Int))))×(Int×(Int×Int))):=((lApp x1.1 [((bSel (bAnd (iGt x0.1 0) (Cm ((x.1.1,(Br ((x.1.1,x1.2.2),(iAdd .i64 1 (Al (x.1,4)).1))).2),3)).1) 1 (Br ((x.1.1,x1.2.2),(iAdd .i64 1 (Al (x.1,4)).1))).1.1),(bSel (bAnd (iGt x0.1 0) (Cm ((x.1.1,(Br ((x.1.1,x1.2.2),(iAdd .i64 1 (Al (x.1,4)).1))).2),3)).1) 0 (Br ((x.1.1,x1.2.2),(iAdd .i64 1 (Al (x.1,4)).1))).1.2.1),(bSel (bAnd (iGt x0.1 0) (Cm ((x.1.1,(Br ((x.1.1,x1.2.2),(iAdd .i64 1 (Al (x.1,4)).1))).2),3)).1) 0 (Br ((x.1.1,x1.2.2),(iAdd .i64 1 (Al (x.1,4)).1))).1.2.2.1),(bSel (bAnd (iGt x0.1 0) (Cm ((x.1.1,(Br ((x.1.1,x1.2.2),(iAdd .i64 1 (Al (x.1,4)).1))).2),3)).1) 0 (Br ((x.1.1,x1.2.2),(iAdd .i64 1 (Al (x.1,4)).1))).1.2.2.2))]),(iAdd .i64 x1.2.1 1),(bSel (bAnd (iGt x0.1 0) (Cm ((x.1.1,(Br ((x.1.1,x1.2.2),(iAdd .i64 1 (Al (x.1,4)).1))).2),3)).1) (bSel (iGt x0.1 0) (Cm ((x.1.1,(Br ((x.1.1,x1.2.2),(iAdd .i64 1 (Al (x.1,4)).1))).2),3)).2.1 (Br ((x.1.1,x1.2.2),(iAdd .i64 1 (Al (x.1,4)).1))).2.1) (bSel (iGt x0.1 0) (Cm ((x.1.1,(Br ((x.1.1,x1.2.2),(iAdd .i64 1 (Al (x.1,4)).1))).2),3)).2.1 (Br ((x.1.1,x1.2.2),(iAdd .i64 1 (Al (x.1,4)).1))).2.1)),(bSel (bAnd (iGt x0.1 0) (Cm ((x.1.1,(Br ((x.1.1,x1.2.2),(iAdd .i64 1 (Al (x.1,4)).1))).2),3)).1) (bSel (iGt x0.1 0) (Cm ((x.1.1,(Br ((x.1.1,x1.2.2),(iAdd .i64 1 (Al (x.1,4)).1))).2),3)).2.2 (Br ((x.1.1,x1.2.2),(iAdd .i64 1 (Al (x.1,4)).1))).2.2) (bSel (iGt x0.1 0) (Cm ((x.1.1,(Br ((x.1.1,x1.2.2),(iAdd .i64 1 (Al (x.1,4)).1))).2),3)).2.2 (Br ((x.1.1,x1.2.2),(iAdd .i64 1 (Al (x.1,4)).1))).2.2)))
def JV(x:(List (Int)×Int×Int)×Int)(x0:(Int×((List (List (Int×(Int×(Int×Int)))))×(Int×Int)))):(Int×((List (List (Int×(Int×(Int×Int)))))×(Int×Int))):=((iAdd .i64 x0.1 1),(lApp x0.2.1 [(AN (Fs x) (F2 x x0) ([],0,x0.2.2)).1]),(AN (Fs x) (F2 x x0) ([],0,x0.2.2)).2.2)
def N1(x:(List (Int)×Int×Int)×Int)(x0:(Int×((List (List (Int×(Int×(Int×Int)))))×(Int×Int))))(x1:((List (Int×(Int×(Int×Int))))×(Int×(Int×Int)))):Prop:=(((iLt x1.2.1 x.2)=true→((J3 ((x.1.1,x1.2.2),(iAdd .i64 1 (Al (x.1,4)).1)))∧((((iGt x0.1 0)=true→(IG ((x.1.1,(Br ((x.1.1,x1.2.2),(iAdd .i64 1 (Al (x.1,4)).1))).2),3)))∧((iGt x0.1 0)=false→True))∧(AW (((List.length x1.1)+(List.length [((bSel (bAnd (iGt x0.1 0) (Cm ((x.1.1,(Br ((x.1.1,x1.2.2),(iAdd .i64 1 (Al (x.1,4)).1))).2),3)).1) 1 (Br ((x.1.1,x1.2.2),(iAdd .i64 1 (Al (x.1,4)).1))).1.1),(bSel (bAnd (iGt x0.1 0) (Cm ((x.1.1,(Br ((x.1.1,x1.2.2),(iAdd .i64 1 (Al (x.1,4)).1))).2),3)).1) 0 (Br ((x.1.1,x1.2.2),(iAdd .i64 1 (Al (x.1,4)).1))).1.2.1),(bSel (bAnd (iGt x0.1 0) (Cm ((x.1.1,(Br ((x.1.1,x1.2.2),(iAdd .i64 1 (Al (x.1,4)).1))).2),3)).1) 0 (Br ((x.1.1,x1.2.2),(iAdd .i64 1 (Al (x.1,4)).1))).1.2.2.1),(bSel (bAnd (iGt x0.1 0) (Cm ((x.1.1,(Br ((x.1.1,x1.2.2),(iAdd .i64 1 (Al (x.1,4)).1))).2),3)).1) 0 (Br ((x.1.1,x1.2.2),(iAdd .i64 1 (Al (x.1,4)).1))).1.2.2.2))]))*4)))))∧((iLt x1.2.1 x.2)=false→True))
def QS(x:(List (Int)×Int×Int)×Int)(x0:(Int×((List (List (Int×(Int×(Int×Int)))))×(Int×Int)))):Prop:=(((iLt x0.1 (iAdd .i64 1 (Al (x.1,4)).1))=true→((LoopOk (Fs x) (F2 x x0) (N1 x x0) ([],0,x0.2.2))∧(AW (((List.length x0.2.1)+(List.length [(AN (Fs x) (F2 x x0) ([],0,x0.2.2)).1]))*1))))∧((iLt x0.1 (iAdd .i64 1 (Al (x.1,4)).1))=false→True))
theorem aZ (x):Cl x=((x.2,(AN (ID x) (JV x) (0,[],(Al (x.1,4)).2)).2.1),(AN (ID x) (JV x) (0,[],(Al (x.1,4)).2)).2.2):=by unfold Cl;exact(congrFun (shut _).2 x).trans (by kernel_rfl)
theorem bg (x):J2 x=((Cu (x.1,4))∧(LoopOk (ID x) (JV x) (QS x) (0,[],(Al (x.1,4)).2))):=by unfold J2;exact(congrFun (shut _).2 x).trans (by kernel_rfl)
def JS(x0:(Int×((List (List (Int×(Int×(Int×Int)))))×(Int×Int)))):Bool:=(iGt x0.1 0)
def JQ(x:(List (Int)×Int×Int)×Int)(x0:(Int×((List (List (Int×(Int×(Int×Int)))))×(Int×Int)))):(Int×((List (List (Int×(Int×(Int×Int)))))×(Int×Int))):=((iSub .i64 x0.1 1),(bSel (iGt (lLen x0.2.1) 1) (lSet x0.2.1 (iNat (Al ((x.1.1,x0.2.2),(lLen x0.2.1))).1) (lSet (lGet x0.2.1 (iNat (Al ((x.1.1,x0.2.2),(lLen x0.2.1))).1) []) (iNat (Al ((x.1.1,(Al ((x.1.1,x0.2.2),(lLen x0.2.1))).2),x.2)).1) ((E4 ((x.1.1,(Al ((x.1.1,(Al ((x.1.1,x0.2.2),(lLen x0.2.1))).2),x.2)).2),[4,5,3])).1,0,0,(iAdd .i64 1 (Al ((x.1.1,(E4 ((x.1.1,(Al ((x.1.1,(Al ((x.1.1,x0.2.2),(lLen x0.2.1))).2),x.2)).2),[4,5,3])).2),(iSub .i64 (lLen x0.2.1) 1))).1)))) x0.2.1),(bSel (iGt (lLen x0.2.1) 1) (Al ((x.1.1,(E4 ((x.1.1,(Al ((x.1.1,(Al ((x.1.1,x0.2.2),(lLen x0.2.1))).2),x.2)).2),[4,5,3])).2),(iSub .i64 (lLen x0.2.1) 1))).2.1 (Al ((x.1.1,(Al ((x.1.1,x0.2.2),(lLen x0.2.1))).2),x.2)).2.1),(bSel (iGt (lLen x0.2.1) 1) (Al ((x.1.1,(E4 ((x.1.1,(Al ((x.1.1,(Al ((x.1.1,x0.2.2),(lLen x0.2.1))).2),x.2)).2),[4,5,3])).2),(iSub .i64 (lLen x0.2.1) 1))).2.2 (Al ((x.1.1,(Al ((x.1.1,x0.2.2),(lLen x0.2.1))).2),x.2)).2.2))
def QO(x:(List (Int)×Int×Int)×Int)(x0:(Int×((List (List (Int×(Int×(Int×Int)))))×(Int×Int)))):Prop:=(((iGt x0.1 0)=true→((Cu ((x.1.1,x0.2.2),(lLen x0.2.1)))∧((Cu ((x.1.1,(Al ((x.1.1,x0.2.2),(lLen x0.2.1))).2),x.2))∧(((iGt (lLen x0.2.1) 1)=true→((((0:Int)≤(Al ((x.1.1,x0.2.2),(lLen x0.2.1))).1)∧((Al ((x.1.1,x0.2.2),(lLen x0.2.1))).1<(((List.length x0.2.1):Int))))∧((((iNat (Al ((x.1.1,x0.2.2),(lLen x0.2.1))).1)<(List.length x0.2.1))∧((iNat (Al ((x.1.1,x0.2.2),(lLen x0.2.1))).1)<(List.length x0.2.1)))∧((JR ((x.1.1,(Al ((x.1.1,(Al ((x.1.1,x0.2.2),(lLen x0.2.1))).2),x.2)).2),[4,5,3]))∧((Cu ((x.1.1,(E4 ((x.1.1,(Al ((x.1.1,(Al ((x.1.1,x0.2.2),(lLen x0.2.1))).2),x.2)).2),[4,5,3])).2),(iSub .i64 (lLen x0.2.1) 1)))∧((((0:Int)≤(Al ((x.1.1,(Al ((x.1.1,x0.2.2),(lLen x0.2.1))).2),x.2)).1)∧((Al ((x.1.1,(Al ((x.1.1,x0.2.2),(lLen x0.2.1))).2),x.2)).1<(((List.length (lGet x0.2.1 (iNat (Al ((x.1.1,x0.2.2),(lLen x0.2.1))).1) [])):Int))))∧(((iNat (Al ((x.1.1,x0.2.2),(lLen x0.2.1))).1)<(List.length x0.2.1))∧((iNat (Al ((x.1.1,(Al ((x.1.1,x0.2.2),(lLen x0.2.1))).2),x.2)).1)<(List.length (lGet x0.2.1 (iNat (Al ((x.1.1,x0.2.2),(lLen x0.2.1))).1) []))))))))))∧((iGt (lLen x0.2.1) 1)=false→True)))))∧((iGt x0.1 0)=false→True))
theorem aO (x):IF x=(((Cl x).1.1,(AN JS (JQ x) ((Al ((x.1.1,(Cl x).2),6)).1,(Cl x).1.2,(Al ((x.1.1,(Cl x).2),6)).2)).2.1),(AN JS (JQ x) ((Al ((x.1.1,(Cl x).2),6)).1,(Cl x).1.2,(Al ((x.1.1,(Cl x).2),6)).2)).2.2):=by unfold IF;exact(congrFun (shut _).2 x).trans (by kernel_rfl)
theorem aH (x):JY x=((J2 x)∧((Cu ((x.1.1,(Cl x).2),6))∧(LoopOk JS (JQ x) (QO x) ((Al ((x.1.1,(Cl x).2),6)).1,(Cl x).1.2,(Al ((x.1.1,(Cl x).2),6)).2)))):=by unfold JY;exact(congrFun (shut _).2 x).trans (by kernel_rfl)
theorem Zs (x):Ct x=(IF ((GR (x.1,x.2.1)),x.2.2)).1:=(GH.v x).trans (by kernel_rfl)
theorem ZF (x):NQ x=((IE (x.1,x.2.1))∧(JY ((GR (x.1,x.2.1)),x.2.2))):=(GH.o x).trans (by kernel_rfl)
theorem ZE (x):C8 x=(Al ((GR (x.1,x.2.1)),x.2.2)).1:=(GJ.v x).trans (by kernel_rfl)
theorem Zv (x):NP x=((IE (x.1,x.2.1))∧(Cu ((GR (x.1,x.2.1)),x.2.2))):=(GJ.o x).trans (by kernel_rfl)
attribute [irreducible] Ct NQ C8 NP
end
section
set_option maxRecDepth 8000
def ak:DCode:=(.seq [0] (.region [oi 0 2 0,oa 1 3 (.mv (.c (.bool false)))]) (.seq [0] (.seq [13,0] (.region [om 0 6 0,oa 1 7 (.lenT (.t 6)),oa 2 8 (.bin .lss (.t 7) (.c (.int .i64 1))),om 3 9 8,og 4 10 (.mv (.t 0)) 9 false,og 5 11 (.lenT (.t 10)) 9 false,og 6 12 (.bin .gtr (.t 11) (.c (.int .i64 10))) 9 false,oa 7 13 (.pick (.t 9) (.c (.bool true)) (.t 12))]) (.cond (.t 13) (.seq [3,2] (.region [oi 0 2 0,oa 1 3 (.mv (.c (.bool false)))]) .ret) .skip)) (.seq [5,4,0] (.region [om 0 15 0,oc 1 16 LC LG UM [(.t 15)],om 2 14 16,oa 3 17 (.extract (.t 14) 0),oa 4 18 (.extract (.t 14) 1),om 5 4 17,om 6 5 18]) (.seq [4] (.seq [34,4] (.region [om 0 19 5,oa 1 20 (.eqN true (.t 19) (.c (.ifc true))),om 2 21 20,og 3 22 (.mv (.t 4)) 21 false,og 4 23 (.bin .lss (.t 22) (.c (.int .i64 (-999999999)))) 21 false,oa 5 24 (.pick (.t 21) (.c (.bool true)) (.t 23)),om 6 25 24,og 7 26 (.mv (.t 4)) 25 false,og 8 27 (.bin .gtr (.t 26) (.c (.int .i64 999999999))) 25 false,oa 9 28 (.pick (.t 25) (.c (.bool true)) (.t 27)),om 10 29 28,og 11 30 (.mv (.t 4)) 29 false,⟨12,some 31,.call false Eg.S Eg.P Eg.D [(.t 30)],(some (29,false)),[]⟩,og 13 32 (.mv (.t 0)) 29 false,og 14 33 (.bin .neq (.t 31) (.t 32)) 29 false,oa 15 34 (.pick (.t 29) (.c (.bool true)) (.t 33))]) (.cond (.t 34) (.seq [3,2] (.region [oi 0 2 0,oa 1 3 (.mv (.c (.bool false)))]) .ret) .skip)) (.seq [3,2] (.region [om 0 35 4,om 1 2 35,oa 2 3 (.mv (.c (.bool true)))]) .ret)))))
def GN:Fn:=⟨⟨1,36,0,true,[.tmp 2,.tmp 3],ak⟩,[.one .frz (.str)],.tup [.one .own (.int .i64),.one .own (.bool)]⟩
theorem Z7:GN.A:=D0 ⟨aD,Uu,trivial⟩
def F3:List UInt8→Int×Bool:=GN.V
def N0:List UInt8→Prop:=GN.O
theorem aA:GN.B:=Ef ⟨aG,Ut,trivial⟩ (by kernel_rfl) (fun x=>by kernel_rfl)
end
section
set_option maxRecDepth 100000
theorem ay (x):F3 x=(bSel (bOr (iLt (lLen x) 1) (iGt (lLen x) 10)) (0,false) (bSel (bOr (bNot (CQ x).2) (bOr (iLt (CQ x).1 (-999999999)) (bOr (iGt (CQ x).1 999999999) (sNe (E1 (CQ x).1) x)))) (0,false) ((CQ x).1,true))):=(GN.v x).trans (by kernel_rfl)
theorem ae (x):N0 x=(((bOr (iLt (lLen x) 1) (iGt (lLen x) 10))=true→True)∧((bOr (iLt (lLen x) 1) (iGt (lLen x) 10))=false→((JZ x)∧(((bNot (CQ x).2)=true→True)∧((bNot (CQ x).2)=false→(((iLt (CQ x).1 (-999999999))=true→True)∧((iLt (CQ x).1 (-999999999))=false→(((iGt (CQ x).1 999999999)=true→True)∧((iGt (CQ x).1 999999999)=false→(Lv (CQ x).1)))))))))):=(GN.o x).trans (by kernel_rfl)
attribute [irreducible] F3 N0
end
section
set_option maxRecDepth 8000
def ZW:DCode:=(.seq [0] (.region [oa 0 2 (.mv (.c (.str [])))]) (.seq [0] (.seq [8,0] (.region [on 0 6 0,oa 1 7 (.len (.t 6)),oa 2 8 (.bin .gtr (.t 7) (.c (.int .i64 2000)))]) (.cond (.t 8) (.seq [2] (.region [oa 0 2 (.mv (.c (.str [])))]) .ret) .skip)) (.seq [3,0] (.region [oa 0 3 (.mv (.c .nils))]) (.seq [3] (.seq [11,10,9,3] (.region [on 0 9 0,oa 1 10 (.len (.t 9)),oi 2 11 0]) (.block 0 (.loop [3,9,10,11] 1 (.seq [12,11,10,9,3] (.region [oa 0 12 (.bin .lss (.t 11) (.t 10))]) (.seq [11,10,9,3] (.cond (.t 12) .skip (.exit 0)) (.seq [11,10,9,3] (.block 1 (.seq [11,10,9,5,3] (.region [oa 0 13 (.indexA 1 (.t 9) (.t 11)),oa 1 14 (.loadH none (.t 13)),om 2 5 14]) (.region [om 0 15 3,om 1 16 5,xA 2 17 (.bin .shr (.t 16) (.c (.int .u64 4))) [1],xA 3 18 (.index (.c (.str [48,49,50,51,52,53,54,55,56,57,97,98,99,100,101,102])) (.t 17)) [1,2],om 4 19 5,xA 5 20 (.bin .and (.t 19) (.c (.int .u8 15))) [4],xA 6 21 (.index (.c (.str [48,49,50,51,52,53,54,55,56,57,97,98,99,100,101,102])) (.t 20)) [4,5],⟨7,some 22,.a false (.litSlice 1 2 [(.int .u8 0),(.int .u8 0)] [(0,1,(.t 18)),(1,1,(.t 21))]) (some (.one (.int .u8))),none,[1,2,3,4,5,6]⟩,xA 8 23 (.app 1 (.t 15) (.t 22)) (rg 8),xA 9 3 (.mv (.t 23)) (rg 9)]))) (.region [oa 0 24 (.bin .add (.t 11) (.c (.int .i64 1))),om 1 11 24]))))))) (.seq [2] (.region [on 0 25 3,oa 1 26 (.bstr (.t 25)),om 2 2 26]) .ret)))))
def GM:Fn:=⟨⟨1,27,0,true,[.tmp 2],ZW⟩,[.one .frz (.sl (.one (.int .u8)))],.one (.one .own (.str))⟩
theorem Z1:GM.A:=D0 trivial
def E2:List (Int)→List UInt8:=GM.V
def NU:List (Int)→Prop:=GM.O
theorem ZL:GM.B:=Ef trivial (by kernel_rfl) (fun x=>by kernel_rfl)
def ax:DCode:=(.seq [0] (.region [oa 0 2 (.mv (.c .nils)),oa 1 3 (.mv (.c (.bool false)))]) (.seq [0] (.seq [16,0] (.region [om 0 8 0,oa 1 9 (.lenT (.t 8)),oa 2 10 (.bin .rem (.t 9) (.c (.int .i64 2))),oa 3 11 (.bin .neq (.t 10) (.c (.int .i64 0))),om 4 12 11,og 5 13 (.mv (.t 0)) 12 false,og 6 14 (.lenT (.t 13)) 12 false,og 7 15 (.bin .gtr (.t 14) (.c (.int .i64 4000))) 12 false,oa 8 16 (.pick (.t 12) (.c (.bool true)) (.t 15))]) (.cond (.t 16) (.seq [3,2] (.region [oa 0 2 (.mv (.c .nils)),oa 1 3 (.mv (.c (.bool false)))]) .ret) .skip)) (.seq [4,0] (.region [oa 0 4 (.mv (.c .nils))]) (.seq [4] (.seq [5,4,0] (.region [oi 0 5 0]) (.block 0 (.loop [0,4,5] 1 (.seq [5,4,0] (.seq [20,5,4,0] (.region [om 0 17 5,om 1 18 0,oa 2 19 (.lenT (.t 18)),oa 3 20 (.bin .lss (.t 17) (.t 19))]) (.cond (.t 20) .skip (.exit 0))) (.seq [5,4,0] (.block 1 (.seq [7,6,5,4,0] (.region [om 0 23 0,om 1 24 5,xA 2 25 (.index (.t 23) (.t 24)) (rg 2),om 4 27 0,om 5 28 5,xA 6 29 (.bin .add (.t 28) (.c (.int .i64 1))) [5],xA 7 30 (.index (.t 27) (.t 29)) [4,5,6],xC 3 26 IB JO QK [(.c (.str [48,49,50,51,52,53,54,55,56,57,97,98,99,100,101,102])),(.t 25)] (rg 3),xC 8 31 IB JO QK [(.c (.str [48,49,50,51,52,53,54,55,56,57,97,98,99,100,101,102])),(.t 30)] (rg 8),xA 9 6 (.mv (.t 26)) (rg 9),xA 10 7 (.mv (.t 31)) (rg 10)]) (.seq [7,6,5,4,0] (.seq [37,7,6,5,4,0] (.region [om 0 32 6,oa 1 33 (.bin .lss (.t 32) (.c (.int .i64 0))),om 2 34 33,og 3 35 (.mv (.t 7)) 34 false,og 4 36 (.bin .lss (.t 35) (.c (.int .i64 0))) 34 false,oa 5 37 (.pick (.t 34) (.c (.bool true)) (.t 36))]) (.cond (.t 37) (.seq [3,2] (.region [oa 0 2 (.mv (.c .nils)),oa 1 3 (.mv (.c (.bool false)))]) .ret) .skip)) (.region [om 0 38 4,om 1 39 6,oa 2 40 (.bin .mul (.c (.int .i64 16)) (.t 39)),om 3 41 7,oa 4 42 (.bin .add (.t 40) (.t 41)),oa 5 43 (.conv .u8 (.t 42)),⟨6,some 44,.a false (.litSlice 1 1 [(.int .u8 0)] [(0,1,(.t 43))]) (some (.one (.int .u8))),none,[]⟩,oa 7 45 (.app 1 (.t 38) (.t 44)),om 8 4 45])))) (.region [om 0 21 5,oa 1 22 (.bin .add (.t 21) (.c (.int .i64 2))),om 2 5 22])))))) (.seq [3,2] (.region [om 0 46 4,om 1 2 46,oa 2 3 (.mv (.c (.bool true)))]) .ret)))))
def GO:Fn:=⟨⟨1,47,0,false,[.tmp 2,.tmp 3],ax⟩,[.one .frz (.str)],.tup [.one .own (.sl (.one (.int .u8))),.one .own (.bool)]⟩
theorem Z6:GO.A:=D0 ⟨Uk,Uk,trivial⟩
def Fu:List UInt8→List (Int)×Bool:=GO.V
def NX:List UInt8→Prop:=GO.O
theorem Z9:GO.B:=Ef ⟨Uj,Uj,trivial⟩ (by kernel_rfl) (fun x=>by kernel_rfl)
def ZT:DCode:=(.seq [0] (.region [oa 0 2 (.mv (.c (.bool false)))]) (.seq [0] (.seq [10,0] (.region [on 0 9 0,oF 1 10 GY [(.t 9)]]) (.cond (.t 10) (.seq [2] (.region [oa 0 2 (.mv (.c (.bool true)))]) .ret) .skip)) (.seq [3,0] (.region [on 0 11 0,oF 1 12 GJ [(.t 11),(.c (.int .i64 1)),(.c (.int .i64 2000000000))],oa 2 13 (.bin .sub (.t 12) (.c (.int .i64 1000000000))),om 3 3 13]) (.seq [5,4,3,0] (.region [om 0 15 3,oF 1 16 Eg [(.t 15)],oF 2 17 GN [(.t 16)],om 3 14 17,oa 4 18 (.extract (.t 14) 0),oa 5 19 (.extract (.t 14) 1),om 6 4 18,om 7 5 19]) (.seq [6,5,4,3] (.region [on 0 20 0,oF 1 21 GH [(.t 20),(.c (.int .i64 2)),(.c (.int .i64 3))],oF 2 22 GI [(.t 21)],on 3 6 22]) (.seq [8,7,6,5,4,3] (.region [on 0 24 6,oF 1 25 GM [(.t 24)],oF 2 26 GO [(.t 25)],om 3 23 26,oa 4 27 (.extract (.t 23) 0),oa 5 28 (.extract (.t 23) 1),on 6 7 27,om 7 8 28]) (.seq [2] (.region [om 0 29 5,om 1 30 3,oa 2 31 (.bin .geq (.t 30) (.c (.int .i64 (-999999999)))),om 3 32 31,og 4 33 (.mv (.t 3)) 32 true,og 5 34 (.bin .leq (.t 33) (.c (.int .i64 999999999))) 32 true,oa 6 35 (.pick (.t 32) (.t 34) (.c (.bool false))),oa 7 36 (.eqB false (.t 29) (.t 35)),om 8 37 36,og 9 38 (.mv (.t 5)) 37 true,og 10 39 (.un .not (.t 38)) 37 true,og 11 40 (.mv (.t 39)) 37 true,og 12 41 (.mv (.t 4)) 40 false,og 13 42 (.mv (.t 3)) 40 false,og 14 43 (.bin .eql (.t 41) (.t 42)) 40 false,og 15 44 (.pick (.t 40) (.c (.bool true)) (.t 43)) 37 true,oa 16 45 (.pick (.t 37) (.t 44) (.c (.bool false))),om 17 46 45,og 18 47 (.mv (.t 8)) 46 true,oa 19 48 (.pick (.t 46) (.t 47) (.c (.bool false))),om 20 49 48,⟨21,some 50,.a true (.mv (.t 7)) none,(some (49,true)),[]⟩,og 22 51 (.bstr (.t 50)) 49 true,⟨23,some 52,.a true (.mv (.t 6)) none,(some (49,true)),[]⟩,og 24 53 (.bstr (.t 52)) 49 true,og 25 54 (.bin .eql (.t 51) (.t 53)) 49 true,oa 26 55 (.pick (.t 49) (.t 54) (.c (.bool false))),om 27 2 55]) .ret)))))))
def E0:Fn:=⟨⟨1,56,0,true,[.tmp 2],ZT⟩,[.one .frz (.sl (.one (.int .u8)))],.one (.one .own (.bool))⟩
theorem ZU:E0.A:=D0 ⟨dy,Zq,Uu,Z7,Zw,Zt,Z1,Z6,trivial⟩
def NY:List (Int)→Bool:=E0.V
def NT:List (Int)→Prop:=E0.O
end
section
set_option maxRecDepth 100000
def Ls(x:List (Int))(x0:((List Int)×Int)):Bool:=(iLt x0.2 (lLen x))
def NK(x:List (Int))(x0:((List Int)×Int)):((List Int)×Int):=((lApp x0.1 [(sGet [(48:UInt8),49,50,51,52,53,54,55,56,57,97,98,99,100,101,102] (iShr .u8 (lGet x (iNat x0.2) 0) 4)),(sGet [(48:UInt8),49,50,51,52,53,54,55,56,57,97,98,99,100,101,102] (iAnd .u8 (lGet x (iNat x0.2) 0) 15))]),(iAdd .i64 x0.2 1))
def NL(x:List (Int))(x0:((List Int)×Int)):Prop:=(((iLt x0.2 (lLen x))=true→((((0:Int)≤x0.2)∧(x0.2<(((List.length x):Int))))∧(((iNat x0.2)<(List.length x))∧(((0:Int)≤4)∧((((0:Int)≤(iShr .u8 (lGet x (iNat x0.2) 0) 4))∧((iShr .u8 (lGet x (iNat x0.2) 0) 4)<(((List.length [(48:UInt8),49,50,51,52,53,54,55,56,57,97,98,99,100,101,102]):Int))))∧((((0:Int)≤(iAnd .u8 (lGet x (iNat x0.2) 0) 15))∧((iAnd .u8 (lGet x (iNat x0.2) 0) 15)<(((List.length [(48:UInt8),49,50,51,52,53,54,55,56,57,97,98,99,100,101,102]):Int))))∧(AW (((List.length x0.1)+(List.length [(sGet [(48:UInt8),49,50,51,52,53,54,55,56,57,97,98,99,100,101,102] (iShr .u8 (lGet x (iNat x0.2) 0) 4)),(sGet [(48:UInt8),49,50,51,52,53,54,55,56,57,97,98,99,100,101,102] (iAnd .u8 (lGet x (iNat x0.2) 0) 15))]))*1))))))))∧((iLt x0.2 (lLen x))=false→True))
theorem ZY (x):E2 x=(bSel (iGt (lLen x) 2000) [] (rowS (AN (Ls x) (NK x) ([],0)).1)):=(GM.v x).trans (by kernel_rfl)
theorem ZR (x):NU x=(((iGt (lLen x) 2000)=true→True)∧((iGt (lLen x) 2000)=false→(LoopOk (Ls x) (NK x) (NL x) ([],0)))):=(GM.o x).trans (by kernel_rfl)
def JP(x:List UInt8)(x0:((List Int)×Int)):Bool:=(bAnd (iLt x0.2 (lLen x)) (bNot (bOr (iLt (C7 ([(48:UInt8),49,50,51,52,53,54,55,56,57,97,98,99,100,101,102],(sGet x x0.2))) 0) (iLt (C7 ([(48:UInt8),49,50,51,52,53,54,55,56,57,97,98,99,100,101,102],(sGet x (iAdd .i64 x0.2 1)))) 0))))
def Lu(x:List UInt8)(x0:((List Int)×Int)):((List Int)×Int):=((lApp x0.1 [(iConv .u8 (iAdd .i64 (iMul .i64 16 (C7 ([(48:UInt8),49,50,51,52,53,54,55,56,57,97,98,99,100,101,102],(sGet x x0.2)))) (C7 ([(48:UInt8),49,50,51,52,53,54,55,56,57,97,98,99,100,101,102],(sGet x (iAdd .i64 x0.2 1))))))]),(iAdd .i64 x0.2 2))
def NN(x:List UInt8)(x0:((List Int)×Int)):Prop:=(((iLt x0.2 (lLen x))=true→((((0:Int)≤x0.2)∧(x0.2<(((List.length x):Int))))∧((((0:Int)≤(iAdd .i64 x0.2 1))∧((iAdd .i64 x0.2 1)<(((List.length x):Int))))∧((JL ([(48:UInt8),49,50,51,52,53,54,55,56,57,97,98,99,100,101,102],(sGet x x0.2)))∧((JL ([(48:UInt8),49,50,51,52,53,54,55,56,57,97,98,99,100,101,102],(sGet x (iAdd .i64 x0.2 1))))∧(((bOr (iLt (C7 ([(48:UInt8),49,50,51,52,53,54,55,56,57,97,98,99,100,101,102],(sGet x x0.2))) 0) (iLt (C7 ([(48:UInt8),49,50,51,52,53,54,55,56,57,97,98,99,100,101,102],(sGet x (iAdd .i64 x0.2 1)))) 0))=true→True)∧((bOr (iLt (C7 ([(48:UInt8),49,50,51,52,53,54,55,56,57,97,98,99,100,101,102],(sGet x x0.2))) 0) (iLt (C7 ([(48:UInt8),49,50,51,52,53,54,55,56,57,97,98,99,100,101,102],(sGet x (iAdd .i64 x0.2 1)))) 0))=false→(AW (((List.length x0.1)+(List.length [(iConv .u8 (iAdd .i64 (iMul .i64 16 (C7 ([(48:UInt8),49,50,51,52,53,54,55,56,57,97,98,99,100,101,102],(sGet x x0.2)))) (C7 ([(48:UInt8),49,50,51,52,53,54,55,56,57,97,98,99,100,101,102],(sGet x (iAdd .i64 x0.2 1))))))]))*1)))))))))∧((iLt x0.2 (lLen x))=false→True))
theorem aj (x):Fu x=(bSel (bOr (iNe (iRem (lLen x) 2) 0) (iGt (lLen x) 4000)) ([],false) (bSel (iLt (AN (JP x) (Lu x) ([],0)).2 (lLen x)) ([],false) ((AN (JP x) (Lu x) ([],0)).1,true))):=(GO.v x).trans (by kernel_rfl)
theorem ah (x):NX x=(((2:Int)≠0)∧(((bOr (iNe (iRem (lLen x) 2) 0) (iGt (lLen x) 4000))=true→True)∧((bOr (iNe (iRem (lLen x) 2) 0) (iGt (lLen x) 4000))=false→(LoopOk (JP x) (Lu x) (NN x) ([],0))))):=(GO.o x).trans (by kernel_rfl)
theorem ZN (x):NY x=(bOr (Kg x) (bSel (iGe (iSub .i64 (C8 (x,1,2000000000)) 1000000000) (-999999999)) (bAnd (bIff (F3 (E1 (iSub .i64 (C8 (x,1,2000000000)) 1000000000))).2 (iLe (iSub .i64 (C8 (x,1,2000000000)) 1000000000) 999999999)) (bSel (bNot (F3 (E1 (iSub .i64 (C8 (x,1,2000000000)) 1000000000))).2) (bAnd (Fu (E2 (CP (Ct (x,2,3))))).2 (sEq (rowS (Fu (E2 (CP (Ct (x,2,3))))).1) (rowS (CP (Ct (x,2,3)))))) (bAnd (iEq (F3 (E1 (iSub .i64 (C8 (x,1,2000000000)) 1000000000))).1 (iSub .i64 (C8 (x,1,2000000000)) 1000000000)) (bAnd (Fu (E2 (CP (Ct (x,2,3))))).2 (sEq (rowS (Fu (E2 (CP (Ct (x,2,3))))).1) (rowS (CP (Ct (x,2,3))))))))) (bAnd (bNot (F3 (E1 (iSub .i64 (C8 (x,1,2000000000)) 1000000000))).2) (bSel (bNot (F3 (E1 (iSub .i64 (C8 (x,1,2000000000)) 1000000000))).2) (bAnd (Fu (E2 (CP (Ct (x,2,3))))).2 (sEq (rowS (Fu (E2 (CP (Ct (x,2,3))))).1) (rowS (CP (Ct (x,2,3)))))) (bAnd (iEq (F3 (E1 (iSub .i64 (C8 (x,1,2000000000)) 1000000000))).1 (iSub .i64 (C8 (x,1,2000000000)) 1000000000)) (bAnd (Fu (E2 (CP (Ct (x,2,3))))).2 (sEq (rowS (Fu (E2 (CP (Ct (x,2,3))))).1) (rowS (CP (Ct (x,2,3))))))))))):=(E0.v x).trans (by kernel_rfl)
theorem ZO (x):NT x=((OD x)∧(((Kg x)=true→True)∧((Kg x)=false→((NP (x,1,2000000000))∧((Lv (iSub .i64 (C8 (x,1,2000000000)) 1000000000))∧((N0 (E1 (iSub .i64 (C8 (x,1,2000000000)) 1000000000)))∧((NQ (x,2,3))∧((Lt (Ct (x,2,3)))∧((NU (CP (Ct (x,2,3))))∧(NX (E2 (CP (Ct (x,2,3)))))))))))))):=(E0.o x).trans (by kernel_rfl)
attribute [irreducible] E2 NU Fu NX NY NT
end
end
end Go.Ag
