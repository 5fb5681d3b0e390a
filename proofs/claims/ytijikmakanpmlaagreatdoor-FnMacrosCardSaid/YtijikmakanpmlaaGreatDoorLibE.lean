/- Part 5 of what FnMacros needs. No conditions. -/
import Derived.WalkKit
import Derived.ProofKit
import Derived.OpenShut
import Derived.Carry
import Derived.ChangeSame
import Derived.Attr
import Derived.KernelRfl
import Derived.Below
import Derived.Lib.Join
import Derived.Lib.Split
import Derived.Lib.Bytealg
import Derived.Lib.ItoaNum
import Derived.Lib.Atoi
import Derived.Sort.Grow
import Derived.Test.YtijikmakanpmlaaGreatDoorLibD
namespace Go.Ag
set_option linter.unusedSimpArgs false
set_option linter.unusedVariables false
noncomputable section
theorem iv(d:DS)(c:Opnd)(t:Bool):ChgS d (setc d c t):=by
 cases c with
 |t g=>exact X4 d g t
 |c v=>exact ChgS.refl d
theorem jv{d:DS}{s:PS}{c:Opnd}{b:Bool}(hs:ES d s)(h:c.pev s.sl= .fl (.bool b)):ES (setc d c b) s:=by
 cases c with
 |t g=>exact je hs h
 |c v=>exact hs
theorem Ht:∀ (c:DCode) (d:DS),(dev c d).All (ChgS d)
 |.skip,d=>ChgS.refl d
 |.region ops,d=>Yu ops d (ChgS.refl d)
 | .regionU ops,d=>by
   simp only[dev]
   split
   · exact Yu ops d (ChgS.refl d)
   · trivial
 | .seq l a b,d=>by
   refine DT.then_all (Ht a d.clean) (fun st h=>?_) (fun st h=>h.rem)
   have h1:ChgS d (Li d (VQ l st)):=(h.trans (u6 l st)).rem
   exact DT.All.imp (fun _ h2=>h1.trans h2) (Ht b _)
 | .cond c a b,d=>by
   simp only[dev]
   cases hc:c.dev d.sl with
   | bool t=>
     cases t with
     |lit t=>cases t<;>first|exact Ht a d|exact Ht b d
     |dyn t=>exact⟨DT.All.imp (fun _ h=>(iv d c true).trans h) (Ht a _),DT.All.imp (fun _ h=>(iv d c false).trans h) (Ht b _)⟩
   |_=>trivial
 |.block i a,d=>DT.unexit_all i (Ht a d)
 |.loop live n a,d=>uq (fun d=>Ht a d.clean) d
 |.exit i,d=>ChgS.refl d
 |.ret,d=>ChgS.refl d
theorem F7:∀ (c:DCode),AllD c.obs→∀ {d d':DS} {s:PS} {e:AExit} {k:Fy},ES d s→(dev c d).ok.den→(dev c d).lf=some (e,d')→(∀ s',ES d' s'→k e s')→Gp c.er k s
 | .skip,_,d,d',s,e,k,hs,hok,hl,hk=>by
   simp only[dev,DT.lf,Ai,Aj] at hl
   obtain⟨rfl,rfl⟩:=hl
   exact hk s hs
 | .region ops,ho,d,d',s,e,k,hs,hok,hl,hk=>by
   have he:=kD ops hl
   subst he
   exact Y6 ops ho rfl hk d s hs hok hl
 | .regionU ops,ho,d,d',s,e,k,hs,hok,hl,hk=>by
   simp only[dev] at hok hl
   split at hok
   · rename_i hp
     rw[Ab hp] at hl
     have he:=kD ops hl
     subst he
     exact⟨hp,Y6 ops ho rfl hk d s hs hok hl⟩
   · exact hok.elim
 | .seq l a b,ho,d,d',s,e,k,hs,hok,hl,hk=>by
   obtain⟨h1,h2⟩:=ho.app
   obtain⟨hoa,hc⟩:=DT.then_s (Ht a d.clean) hok hl
   simp only[DCode.er,Gp]
   rcases hc with⟨st0,m,hla,hm,hch,hob,hlb⟩|⟨he,st0,hla,rfl⟩
   · refine F7 a h1 hs.clean hoa hla fun s' hs'=>?_
     exact F7 b h2 (((hm s' hs').trim l).rem) hob hlb hk
   · refine F7 a h1 hs.clean hoa hla fun s' hs'=>?_
     cases e<;>first|(cases he;done)|exact hk s' hs'.rem
 | .cond c a b,ho,d,d',s,e,k,hs,hok,hl,hk=>by
   obtain⟨h1,h2⟩:=ho.app
   have hv:=c.dev_ev hs
   simp only[dev] at hok hl
   simp only[DCode.er,Gp]
   cases hc:c.dev d.sl with
   | bool t=>
     rw[hc] at hok hl hv
     have hp:=hv.of (by simp)
     simp only[DV.enc] at hp
     rw[hp]
     simp only
     cases t with
     | lit t=>
       cases t with
       |true=>exact F7 a h1 hs hok hl hk
       |false=>exact F7 b h2 hs hok hl hk
     | dyn t=>
       have hok:=(PX.if_den _ _ _).mp hok
       cases t with
       |true=>exact F7 a h1 (jv hs hp) (hok.1 rfl) hl hk
       |false=>exact F7 b h2 (jv hs hp) (hok.2 rfl) hl hk
   |_=>rw[hc] at hok;exact hok.elim
 | .block i a,ho,d,d',s,e,k,hs,hok,hl,hk=>by
   simp only[dev,DT.unexit_ok,DT.unexit_lf] at hok hl
   obtain⟨e0,d0,h0⟩:=DT.ok_lf hok
   rw[h0] at hl
   simp only[Cc,Ai,Aj] at hl
   obtain⟨rfl,rfl⟩:=hl
   refine F7 a ho hs hok h0 fun s' hs'=>?_
   have:=hk s' hs'
   cases e0 with
   |normal=>exact this
   |ret=>exact this
   | exit j=>
     simp only[YJ]
     simp only[AExit.un] at this
     split
     · rename_i hj;rw[Ab hj] at this;exact this
     · rename_i hj;rw[Ad hj] at this;exact this
 | .loop live n a,ho,d,d',s,e,k,hs,hok,hl,hk=>by
   simp only[dev] at hok hl
   exact xG (fun d=>Ht a d.clean) (fun d s e d' k hs hok hl hk=>F7 a ho hs.clean hok hl hk) hs hok hl hk
 | .exit i,_,d,d',s,e,k,hs,hok,hl,hk=>by
   simp only[dev,DT.lf,Ai,Aj] at hl
   obtain⟨rfl,rfl⟩:=hl
   exact hk s hs
 | .ret,_,d,d',s,e,k,hs,hok,hl,hk=>by
   simp only[dev,DT.lf,Ai,Aj] at hl
   obtain⟨rfl,rfl⟩:=hl
   exact hk s hs
mutual
def DV.flt:DV→Bool
 |.bool _|.int _ _|.str _|.ifc _=>true
 |.agg cs=>DV.fltL cs
 |.tup vs=>DV.fltL vs
 |_=>false
def DV.fltL:List DV→Bool
 |[]=>true
 |v::r=>v.flt&&DV.fltL r
end
mutual
theorem YV:∀ (v:DV),v.flt=true→v.enc.flt=true
 |.bool _,_|.int _ _,_|.str _,_|.ifc _,_=>rfl
 |.agg cs,h=>Ye cs h
 |.tup cs,h=>Ye cs h
theorem Ye:∀ (l:List DV),DV.fltL l=true→PV.fltL (DV.encL l)=true
 |[],_=>rfl
 | v::r,h=>by
   simp only[DV.fltL,Af] at h
   simp only[DV.encL,PV.fltL,YV v h.1,Ye r h.2,CF]
end
theorem XT:∀ (l:List DV),IK l=true→DV.okL l=true
 |[],_=>rfl
 | v::r,h=>by
   simp only[IK,Af] at h
   have:v.ok=true:=by cases v<;>first|rfl|(have:=h.1;cases this)
   simp only[DV.okL,this,XT r h.2,CF]
theorem EBx.segm2{a:List DC}{b:List PV}{o n:Nat}(h:EBx a b)(hl:o+n≤a.length)(hk:DV.okL (BT (Bz a) o n)=true):Go.Ag.segm b o n=DV.encL (BT (Bz a) o n)∧o+n≤b.length:=by
 rcases h with rfl|h
 · simp only[AD,Nat.le_zero_eq,Nat.add_eq_zero_iff] at hl;obtain⟨rfl,rfl⟩:=hl;refine⟨?_,ED _⟩;cases b<;>rfl
 · exact⟨h.segm o n hk,by rw[← h.len];exact hl⟩
theorem Yj{st st':DS}{s:PS}{r:ARes}{v:DV}(hs:ES st s)(h:JX st r=some (v,st'))(hv:v.ok=true):∃ s',IB s r=some (v.enc,s')∧ES st' s':=by
 cases r with
 | tmp t=>
   simp only[JX] at h;split at h
   · rename_i hc;simp only[Af] at hc;simp only[Ai] at h
     have hk:(Ba (.t t) st).1.ok=true:=by
      have:(Ba (.t t) st).1=v:=by simp only[Ba,h]
      rw[this];exact hv
     obtain⟨m1,m2⟩:=Es (.t t) hs hk
     have hne:Bl st.sl t≠.any:=by intro e;rw[e] at hc;cases hc.2
     have hp:=(hs.sl.get t).of hne;simp only[Ba,h,mvOut] at m1 m2;refine⟨(EO (Aa s.sl t) t s).2,?_,m2⟩;simp only[IB];rw[Ab (by rw[hp];exact vq _ hc.1),← m1]
   · cases h
 | cell t n=>
   simp only[JX] at h;have hp:=hs.sl.get t
   cases hv:Bl st.sl t with
   | box i o=>
     rw[hv] at h hp;have hp:=hp.of (by simp);simp only at h;split at h
     · rename_i hc;simp only[Af] at hc;simp only[BH] at h;obtain⟨⟨g,r⟩,h1,h2⟩:=h;simp only at h2;subst h2;obtain⟨e1,e2⟩:=(hs.bx.get i).segm2 (CH hc.1) (XT _ hc.2)
       have hg:g= .tt:=by
        unfold Mp at h1;simp only[A4] at h1;split at h1
        · simp only[BH,Aj] at h1;obtain⟨_,_,rfl,_⟩:=h1;rfl
        · cases h1
       subst hg;obtain⟨s',e3,e4⟩:=dV (p:=.box i o) hs (.inr rfl) h1;refine⟨s',?_,e4⟩;simp only[IB,hp,DV.enc];rw[Ab ⟨e2,by rw[e1];exact Uq _ hc.2⟩];exact e3
     · cases h
   | ptr i o=>
     rw[hv] at h hp;have hp:=hp.of (by simp);simp only at h;split at h
     · rename_i hc;simp only[Af] at hc;simp only[BH] at h;obtain⟨⟨g,r⟩,h1,h2⟩:=h;simp only at h2;subst h2;obtain⟨e1,e2⟩:=(hs.hp.get i).segm2 (CH hc.1) (XT _ hc.2)
       have hg:g= .tt∧i<st.hp.length:=by
        unfold K0 at h1;simp only[A4] at h1;split at h1
        · rename_i hb;simp only[Af] at hb;simp only[BH,Aj] at h1;obtain⟨_,_,rfl,_⟩:=h1;exact⟨rfl,CH hb.1.1⟩
        · cases h1
       obtain⟨rfl,hi⟩:=hg;obtain⟨s',e3,e4⟩:=dS (p:=.ptr i o) hs (.inr rfl) h1 trivial;refine⟨s',?_,e4⟩;simp only[IB,hp,DV.enc];rw[Ab ⟨by rw[← hs.hp.len];exact hi,e2,by rw[e1];exact Uq _ hc.2⟩];exact e3
     · cases h
   |_=>rw[hv] at h;cases h
theorem XI:∀ {res:List ARes} {st st':DS} {s:PS} {vs:List DV},ES st s→Hu st res=some (vs,st')→DV.okL vs=true→∃ s',Hx s res=some (DV.encL vs,s')∧ES st' s'
 | [],st,st',s,vs,hs,h,_=>by
   simp only[Hu,Ai,Aj] at h
   obtain⟨rfl,rfl⟩:=h
   exact⟨s,rfl,hs⟩
 | r :: rs,st,st',s,vs,hs,h,hk=>by
   simp only[Hu] at h
   split at h
   · rename_i v st1 h1
     split at h
     · rename_i vs1 st2 h2
       simp only[Ai,Aj] at h
       obtain⟨rfl,rfl⟩:=h
       simp only[DV.okL,Af] at hk
       obtain⟨s1,e1,e2⟩:=Yj hs h1 hk.1
       obtain⟨s2,e3,e4⟩:=XI e2 h2 hk.2
       exact⟨s2,by simp only[Hx,e1,e3,DV.encL],e4⟩
     · cases h
   · cases h
theorem jF:∀ {res:List ARes} {st:DS} {s:PS} {v:DV},ES st s→Gc st res=some v→v.ok=true→∃ s',IJ s res=some (v.enc,s'):=by
 have gen:∀ {res:List ARes} {st:DS} {s:PS} {v:DV},ES st s→v.ok=true→(Hu st res).map (fun x=>DV.tup x.1)=some v→∃ s',(Hx s res).map (fun(vs,st)=>(PV.tup vs,st))=some (v.enc,s'):=fun hs hv h=>by
  simp only[BH] at h;obtain⟨⟨vs,st'⟩,h1,rfl⟩:=h;obtain⟨s',e1,_⟩:=XI hs h1 hv;exact⟨s',by rw[e1];rfl⟩
 intro res st s v hs h hv
 cases res with
 |nil=>exact gen (res:=[]) hs hv h
 | cons r rs=>
   cases rs with
   | nil=>
     simp only[Gc,BH] at h;obtain⟨⟨v',st'⟩,h1,rfl⟩:=h;obtain⟨s',e1,_⟩:=Yj hs h1 hv;exact⟨s',e1⟩
   |cons r2 rs=>exact gen (res:=r::r2::rs) hs hv h
theorem OL {res:List ARes}:∀ {t:DT} {g:PX} {v:DV},t.val res=(g,some v)→v≠.any→g.den →
 t.ok.den∧∃ e st v0,t.lf=some (e,st)∧(∀ i,e≠.exit i)∧Gc st res=some v0∧v0.ok=true∧v.enc=v0.enc
 | .leaf e st,g,v,h,hv,hg=>by
   have gen:(match Gc st res with|some v=>if (v.ok&&!v.hasPtr)=true then (PX.tt,some v) else (PX.ff,none)|none=>(PX.ff,none))=(g,some v)→Gc st res=some v∧v.ok=true:=fun h=>by
    split at h
    · split at h
      · rename_i h1 h2;simp only[Aj,Ai] at h;obtain⟨_,rfl⟩:=h;simp only[Af] at h2;exact⟨h1,h2.1⟩
      · simp at h
    · simp at h
   cases e with
   |exit i=>simp[DT.val] at h
   |normal=>obtain⟨h1,h2⟩:=gen h;exact⟨trivial,.normal,st,v,rfl,by simp,h1,h2,rfl⟩
   |ret=>obtain⟨h1,h2⟩:=gen h;exact⟨trivial,.ret,st,v,rfl,by simp,h1,h2,rfl⟩
 | .node c a b,g,v,h,hv,hg=>by
   simp only[DT.val] at h
   have hno:∀ {t:DT} {g:PX},t.val res=(g,none)→¬ g.den:=by
    intro t
    induction t with
    | leaf e st=>
      intro g h;cases e<;>simp only[DT.val] at h<;>(repeat' split at h)<;>simp only[Aj,reduceCtorEq,and_false,KV] at h<;>subst h<;>exact id
    | node c x y ih1 ih2=>
      intro g h hg;simp only[DT.val] at h
      cases h1:x.val res with
      | mk g1 v1=>
        cases h2:y.val res with
        | mk g2 v2=>
          rw[h1,h2] at h
          cases v1 with
          | none=>
            simp only[Aj] at h;obtain⟨rfl,rfl⟩:=h;have:=(PX.if_den _ _ _).mp hg
            cases c with
            |true=>exact ih1 h1 (this.1 rfl)
            |false=>exact ih2 h2 (this.2 rfl)
          |some v1=>cases v2<;>simp at h
    | chk g0 t ih=>
      intro g h hg;simp only[DT.val] at h
      cases h1:t.val res with
      | mk g1 v1=>
        rw[h1] at h;simp only[Aj] at h;obtain⟨rfl,rfl⟩:=h;exact ih h1 ((PX.land_den _ _).mp hg).2
    | bad=>
      intro g h;simp only[DT.val,Aj,KV] at h;subst h;exact id
   cases h1:a.val res with
   | mk g1 v1=>
     cases h2:b.val res with
     | mk g2 v2=>
       rw[h1,h2] at h
       have fin:∀ (v1 v2:DV),g=PX.if' c g1 g2→a.val res=(g1,some v1)→b.val res=(g2,some v2)→v=CY c v1 v2→(DT.node c a b).ok.den∧∃ e st v0,(DT.node c a b).lf=some (e,st)∧(∀ i,e≠.exit i)∧Gc st res=some v0∧v0.ok=true∧v.enc=v0.enc:=by
        intro v1 v2 hgg h1 h2 hvv;subst hgg;have hg:=(PX.if_den _ _ _).mp hg;have he:=(Vr c v1 v2).resolve_left (by rw[← hvv];exact hv);rw[← hvv] at he
        have n1:v1≠.any:=by rintro rfl;apply hv;rw[hvv];cases v2<;>rfl
        have n2:v2≠.any:=by rintro rfl;apply hv;rw[hvv];cases v1<;>rfl
        show (PX.if' c a.ok b.ok).den∧∃ e st v0,(DT.node c a b).lf=some (e,st)∧(∀ i,e≠.exit i)∧Gc st res=some v0∧v0.ok=true∧v.enc=v0.enc;rw[PX.if_den]
        cases c with
        | true=>
          obtain⟨k1,e,st,v0,k2,k3,k4,k5,k6⟩:=OL h1 n1 (hg.1 rfl);exact⟨⟨fun _=>k1,fun h=>by cases h⟩,e,st,v0,k2,k3,k4,k5,by rw[he];exact k6⟩
        | false=>
          obtain⟨k1,e,st,v0,k2,k3,k4,k5,k6⟩:=OL h2 n2 (hg.2 rfl);exact⟨⟨fun h=>(by cases h),fun _=>k1⟩,e,st,v0,k2,k3,k4,k5,by rw[he];exact k6⟩
       cases v1 with
       | none=>
         simp only[Aj] at h;obtain⟨rfl,rfl⟩:=h;have hg:=(PX.if_den _ _ _).mp hg;show (PX.if' c a.ok b.ok).den∧_;rw[PX.if_den]
         cases c with
         |true=>exact absurd (hg.1 rfl) (hno h1)
         | false=>
           obtain⟨k1,e,st,v0,k2,k3,k4,k5,k6⟩:=OL h2 hv (hg.2 rfl);exact⟨⟨fun h=>(by cases h),fun _=>k1⟩,e,st,v0,k2,k3,k4,k5,k6⟩
       | some v1=>
         cases v2 with
         | none=>
           simp only[Aj,Ai] at h;obtain⟨rfl,rfl⟩:=h;have hg:=(PX.if_den _ _ _).mp hg;show (PX.if' c a.ok b.ok).den∧_;rw[PX.if_den]
           cases c with
           |false=>exact absurd (hg.2 rfl) (hno h2)
           | true=>
             obtain⟨k1,e,st,v0,k2,k3,k4,k5,k6⟩:=OL h1 hv (hg.1 rfl);exact⟨⟨fun _=>k1,fun h=>by cases h⟩,e,st,v0,k2,k3,k4,k5,k6⟩
         | some v2=>
           simp only[Aj,Ai] at h;exact fin v1 v2 h.1.symm h1 h2 h.2.symm
 | .chk g0 t,g,v,h,hv,hg=>by
   simp only[DT.val] at h
   cases h1:t.val res with
   | mk g1 v1=>
     rw[h1] at h;simp only[Aj] at h;obtain⟨rfl,rfl⟩:=h;have hg:=(PX.land_den _ _).mp hg;obtain⟨k1,k2⟩:=OL h1 hv hg.2;exact⟨(PX.land_den _ _).mpr ⟨hg.1,k1⟩,k2⟩
 |.bad,g,v,h,hv,hg=>by simp[DT.val] at h
theorem EL.append:∀ {a:List DC} {b:List PV} {c:List DC} {d:List PV},EL a b→EL c d→EL (a++c) (b++d)
 |[],[],_,_,_,h=>h
 |_::_,_::_,_,_,h,h'=>⟨h.1,EL.append h.2 h'⟩
theorem Qb:∀ (n:Nat),EL (F5 n) (HO n)
 |0=>trivial
 |n+1=>⟨.inl rfl,Qb n⟩
theorem Qe:∀ (n:Nat),EB (F0 n) (J0 n)
 |0=>trivial
 |n+1=>⟨.inl rfl,Qe n⟩
theorem tc {f:DFun} (ho:AllD f.body.obs) {args:List DV} {g:PX} {v:DV} (h:Ru f args=(g,some v)) (hg:g.den) (hv:v≠.any) (hl:args.length=f.nparams) (hp:f.pure=true→v.flt=true)
 {Q:PV→List (List PV)→Prop} (hQ:∀ H,Q v.enc H):DH f.er (DV.encL args) [] Q:=by
 unfold Ru at h
 obtain⟨hok,e,st,v0,h1,h2,h3,h4,h5⟩:=OL h hv hg
 refine⟨by rw[Et];exact hl,fun _=>rfl,?_⟩
 refine F7 f.body ho (d:=⟨news args++F5 (f.nslots-f.nparams),F0 f.nbox,[]⟩) ⟨(EL.news args).append (Qb _),Qe _,trivial⟩ hok h1 fun s' hs'=>?_
 obtain⟨s2,e2⟩:=jF hs' h3 h4
 rw[← h5] at e2
 have fin:(match IJ s' f.res with|some (v,st)=>if f.pure=true then v.flt=true∧Q v [] else Q v st.hp|none=>False):=by
  rw[e2];simp only;split
  · rename_i hpu;exact⟨YV v (hp hpu),hQ _⟩
  · exact hQ _
 cases e with
 |normal=>exact fin
 |ret=>exact fin
 |exit i=>exact absurd rfl (h2 i)
def TuX:List HT→Type
 |[]=>Unit
 |[a]=>a.D
 |a::r=>a.D×TuX r
def Ff:(l:List HT)→List DV→Option (TuX l)
 |[],[]=>some ()
 |[a],[v]=>a.of v
 | a::b::r,v::vs=>(match a.of v,Ff (b::r) vs with
   |some x,some y=>some (x,y)
   |_,_=>none)
 |_,_=>none
def C9:(l:List HT)→TuX l→List DV
 |[],_=>[]
 |[a],x=>[a.dv x]
 |a::b::r,x=>a.dv x.1::C9 (b::r) x.2
inductive QT where
 |one (h:HT)|tup (l:List HT)
def QT.D:QT→Type
 |.one h=>h.D
 |.tup l=>TuX l
def QT.of:(q:QT)→DV→Option q.D
 |.one h,v=>h.of v
 |.tup l,.tup vs=>Ff l vs
 |.tup _,_=>none
def QT.dv:(q:QT)→q.D→DV
 |.one h,x=>h.dv x
 |.tup l,x=>.tup (C9 l x)
def QT.ofO(q:QT):Option DV→Option q.D
 |some v=>q.of v
 |none=>none
def Vl:(l:List (Ql×CT))→AgX l
 |[]=>()
 |[a]=>a.2.dflt
 |a::b::r=>(a.2.dflt,Vl (b::r))
def HT.dflt:(h:HT)→h.D
 |.one _ t=>t.dflt
 |.agg l=>Vl l
def kH:(l:List HT)→TuX l
 |[]=>()
 |[a]=>a.dflt
 |a::b::r=>(a.dflt,kH (b::r))
def QT.dflt:(q:QT)→q.D
 |.one h=>h.dflt
 |.tup l=>kH l
def HT.flt:HT→Bool
 |.one _ t=>t.flat
 |.agg l=>l.all fun a=>a.2.flat
def QT.flt:QT→Bool
 |.one h=>h.flt
 |.tup l=>l.all HT.flt
theorem OJ:∀ {l:List HT} {vs:List DV} {x:TuX l},Ff l vs=some x→DV.encL (C9 l x)=DV.encL vs
 |[],[],_,_=>rfl
 | [a],[v],x,h=>by
   show [(a.dv x).enc]=[v.enc]
   rw[(Rc (t:=a) h).1]
 | a :: b::r,v::vs,x,h=>by
   have h':(match a.of v,Ff (b::r) vs with|some x,some y=>some (x,y)|_,_=>none)=some x:=h
   clear h
   cases h1:a.of v with
   |none=>rw[h1] at h';cases h'
   | some p=>
     cases h2:Ff (b::r) vs with
     |none=>rw[h1,h2] at h';cases h'
     | some q=>
       rw[h1,h2] at h'
       have h':=CG h'
       subst h'
       show (a.dv p).enc::DV.encL (C9 (b::r) q)=v.enc::DV.encL vs
       rw[(Rc h1).1,OJ h2]
theorem ZZ{q:QT}{v:DV}{x:q.D}(h:q.of v=some x):(q.dv x).enc=v.enc∧v≠.any:=by
 cases q with
 |one t=>exact Rc (t:=t) h
 | tup l=>
   cases v<;>try (cases h;done)
   rename_i cs;refine⟨?_,by simp⟩;show PV.tup _=PV.tup _;rw[OJ (l:=l) h]
theorem N3:∀ (l:List HT) (x:TuX l),(C9 l x).length=l.length
 |[],_=>rfl
 |[_],_=>rfl
 | a::b::r,x=>by
   show (C9 (b::r) x.2).length+1=(b::r).length+1
   rw[N3 (b::r) x.2]
theorem ZG{q:Ql}{t:CT}{v:DV}{x:t.D}(hf:t.flat=true)(h:t.ofQ q v=some x):v.flt=true:=by
 cases t<;>first|(cases hf;done)|skip
 all_goals (cases v<;>first|rfl|(cases h;done))
theorem kK:∀ {l:List (Ql×CT)} {vs:List DV} {x:AgX l},l.all (fun a=>a.2.flat)=true→EJ l vs=some x→DV.fltL vs=true
 |[],[],_,_,_=>rfl
 | [a],[v],x,hf,h=>by
   simp only[Fv,List.all_nil,Mz] at hf
   simp only[DV.fltL,ZG (q:=a.1) hf h,CF]
 | a :: b::r,v::vs,x,hf,h=>by
   have h':(match a.2.ofQ a.1 v,EJ (b::r) vs with|some x,some y=>some (x,y)|_,_=>none)=some x:=h
   clear h
   rw[Fv,Af] at hf
   cases h1:a.2.ofQ a.1 v with
   |none=>rw[h1] at h';cases h'
   | some p=>
     cases h2:EJ (b::r) vs with
     |none=>rw[h1,h2] at h';cases h'
     |some q=>simp only[DV.fltL,ZG hf.1 h1,kK hf.2 h2,CF]
theorem Zl{t:HT}{v:DV}{x:t.D}(hf:t.flt=true)(h:t.of v=some x):v.flt=true:=by
 cases t with
 |one q t=>exact ZG (q:=q) (t:=t) hf h
 | agg l=>
   cases v<;>try (cases h;done)
   exact kK (l:=l) hf h
theorem kE:∀ {l:List HT} {vs:List DV} {x:TuX l},l.all HT.flt=true→Ff l vs=some x→DV.fltL vs=true
 |[],[],_,_,_=>rfl
 | [a],[v],x,hf,h=>by
   simp only[Fv,List.all_nil,Mz] at hf
   simp only[DV.fltL,Zl (t:=a) hf h,CF]
 | a :: b::r,v::vs,x,hf,h=>by
   have h':(match a.of v,Ff (b::r) vs with|some x,some y=>some (x,y)|_,_=>none)=some x:=h
   clear h
   rw[Fv,Af] at hf
   cases h1:a.of v with
   |none=>rw[h1] at h';cases h'
   | some p=>
     cases h2:Ff (b::r) vs with
     |none=>rw[h1,h2] at h';cases h'
     |some q=>simp only[DV.fltL,Zl hf.1 h1,kE hf.2 h2,CF]
theorem j9{q:QT}{v:DV}{x:q.D}(hf:q.flt=true)(h:q.of v=some x):v.flt=true:=by
 cases q with
 |one t=>exact Zl (t:=t) hf h
 | tup l=>
   cases v<;>try (cases h;done)
   exact kE (l:=l) hf h
def HI(hs:List HT)(q:QT)(ok:TuX hs→Prop)(v:TuX hs→q.D):Fh:=fun args=>match Ff hs args with
 |some x=>some (.p (ok x),q.dv (v x))
 |none=>none
def DT.valQ(q:QT)(res:List ARes):DT→PX×Option q.D
 |.leaf (.exit _) _=>(.ff,none)
 | .leaf _ st=>(match Gc st res with
   | some v=>if v.ok&&!v.hasPtr then (match q.of v with
     |some y=>(.tt,some y)
     |none=>(.ff,none)) else (.ff,none)
   |none=>(.ff,none))
 | .node c a b=>(match a.valQ q res,b.valQ q res with
   |(g,none),(g',y)=>(PX.if' c g g',y)
   |(g,x),(g',none)=>(PX.if' c g g',x)
   |(g,some x),(g',some y)=>(PX.if' c g g',some (bSel c x y)))
 | .chk g t=>(match t.valQ q res with
   |(g',v)=>(g.land g',v))
 |.bad=>(.ff,none)
theorem P7{q:QT}{res:List ARes}:∀ {t:DT} {g:PX},t.valQ q res=(g,none)→¬ g.den
 | .leaf e st,g,h=>by
   cases e<;>simp only[DT.valQ] at h<;>(repeat' split at h)<;>simp only[Aj,reduceCtorEq,and_false,KV] at h<;>subst h<;>exact id
 | .node c x y,g,h=>by
   intro hg
   simp only[DT.valQ] at h
   cases h1:x.valQ q res with
   | mk g1 v1=>
     cases h2:y.valQ q res with
     | mk g2 v2=>
       rw[h1,h2] at h
       cases v1 with
       | none=>
         simp only[Aj] at h
         obtain⟨rfl,rfl⟩:=h
         have:=(PX.if_den _ _ _).mp hg
         cases c with
         |true=>exact P7 h1 (this.1 rfl)
         |false=>exact P7 h2 (this.2 rfl)
       |some v1=>cases v2<;>simp at h
 | .chk g0 t,g,h=>by
   intro hg
   simp only[DT.valQ] at h
   cases h1:t.valQ q res with
   | mk g1 v1=>
     rw[h1] at h
     simp only[Aj] at h
     obtain⟨rfl,rfl⟩:=h
     exact P7 h1 ((PX.land_den _ _).mp hg).2
 | .bad,g,h=>by
   simp only[DT.valQ,Aj,KV] at h
   subst h;exact id
theorem Vn{q:QT}{res:List ARes}:∀ {t:DT} {g:PX} {y:q.D},t.valQ q res=(g,some y)→g.den →
 t.ok.den∧∃ e st v0,t.lf=some (e,st)∧(∀ i,e≠.exit i)∧Gc st res=some v0∧v0.ok=true∧q.of v0=some y
 | .leaf e st,g,y,h,hg=>by
   have gen:(match Gc st res with|some v=>if (v.ok&&!v.hasPtr)=true then (match q.of v with|some y=>(PX.tt,some y)|none=>(PX.ff,none)) else (PX.ff,none)|none=>(PX.ff,none))=(g,some y)→∃ v,Gc st res=some v∧v.ok=true∧q.of v=some y:=fun h=>by
    split at h
    · rename_i v hv;split at h
      · rename_i hc;simp only[Af] at hc;split at h
        · rename_i y' hy;simp only[Aj,Ai] at h;obtain⟨_,rfl⟩:=h;exact⟨v,hv,hc.1,hy⟩
        · simp at h
      · simp at h
    · simp at h
   cases e with
   |exit i=>simp[DT.valQ] at h
   |normal=>obtain⟨v,h1,h2,h3⟩:=gen h;exact⟨trivial,.normal,st,v,rfl,by simp,h1,h2,h3⟩
   |ret=>obtain⟨v,h1,h2,h3⟩:=gen h;exact⟨trivial,.ret,st,v,rfl,by simp,h1,h2,h3⟩
 | .node c a b,g,y,h,hg=>by
   simp only[DT.valQ] at h;show (PX.if' c a.ok b.ok).den∧∃ e st v0,(DT.node c a b).lf=some (e,st)∧(∀ i,e≠.exit i)∧Gc st res=some v0∧v0.ok=true∧q.of v0=some y;rw[PX.if_den]
   cases h1:a.valQ q res with
   | mk g1 v1=>
     cases h2:b.valQ q res with
     | mk g2 v2=>
       rw[h1,h2] at h
       have hgg:g=PX.if' c g1 g2:=by
        cases v1<;>cases v2<;>simp only[Aj] at h<;>exact h.1.symm
       subst hgg;have hg:=(PX.if_den _ _ _).mp hg
       cases c with
       | true=>
         have:v1=some y:=by
          cases v1 with
          |none=>exact absurd (hg.1 rfl) (P7 h1)
          |some v1=>cases v2<;>simp only[Aj,Ch] at h<;>exact h.2
         subst this;obtain⟨k1,k2⟩:=Vn h1 (hg.1 rfl);exact⟨⟨fun _=>k1,fun h=>by cases h⟩,k2⟩
       | false=>
         have:v2=some y:=by
          cases v2 with
          |none=>exact absurd (hg.2 rfl) (P7 h2)
          |some v2=>cases v1<;>simp only[Aj,BQ] at h<;>exact h.2
         subst this;obtain⟨k1,k2⟩:=Vn h2 (hg.2 rfl);exact⟨⟨fun h=>(by cases h),fun _=>k1⟩,k2⟩
 | .chk g0 t,g,y,h,hg=>by
   simp only[DT.valQ] at h
   cases h1:t.valQ q res with
   | mk g1 v1=>
     rw[h1] at h;simp only[Aj] at h;obtain⟨rfl,rfl⟩:=h;have hg:=(PX.land_den _ _).mp hg;obtain⟨k1,k2⟩:=Vn h1 hg.2;exact⟨(PX.land_den _ _).mpr ⟨hg.1,k1⟩,k2⟩
 |.bad,g,y,h,hg=>by simp[DT.valQ] at h
def QT.isB:QT→Bool
 |.one (.one _ .bool)=>true
 |_=>false
def RB(f:DFun)(hs:List HT)(q:QT)(x:TuX hs):PX×Option q.D:=
 if q.isB then ((Ru f (C9 hs x)).1,q.ofO (Ru f (C9 hs x)).2)
 else (dev f.body ⟨news (C9 hs x)++F5 (f.nslots-f.nparams),F0 f.nbox,[]⟩).valQ q f.res
def MQ(f:DFun)(hs:List HT)(q:QT)(x:TuX hs):q.D:=(RB f hs q x).2.getD q.dflt
def MF(f:DFun)(hs:List HT)(q:QT)(x:TuX hs):Prop:=(RB f hs q x).1.den
def Oz(f:DFun)(hs:List HT)(q:QT)(x:TuX hs):Bool:=(RB f hs q x).2.isSome
def OO(f:DFun)(hs:List HT)(q:QT):Bool:=hs.length == f.nparams&&(!f.pure||q.flt)
theorem iI {f:DFun} {hs:List HT} {q:QT} (ho:AllD f.body.obs) (hst:OO f hs q=true) (x:TuX hs) (hc:Oz f hs q x=true) (hok:MF f hs q x)
 {Q:PV→List (List PV)→Prop} (hQ:∀ H,Q (q.dv (MQ f hs q x)).enc H):DH f.er (DV.encL (C9 hs x)) [] Q:=by
 simp only[OO,Af,AY,BL,B9] at hst
 unfold Oz at hc
 unfold MQ at hQ
 unfold MF at hok
 unfold RB at hc hQ hok
 by_cases hb:q.isB=true
 · rw[Ab hb] at hc hQ hok
   cases hd:Ru f (C9 hs x) with
   | mk g o=>
     rw[hd] at hc hQ hok
     cases o with
     |none=>cases hc
     | some w=>
       obtain⟨y,hy⟩:=Option.isSome_iff_exists.mp hc;rw[hy] at hQ;have hy:q.of w=some y:=hy;obtain⟨h1,h2⟩:=ZZ hy
       refine tc ho hd hok h2 (by rw[N3];exact hst.1) (fun hp=>j9 (by simpa [hp] using hst.2) hy) fun H=>?_
       have:=hQ H;rw[Hv,h1] at this;exact this
 · rw[Ad hb] at hc hQ hok
   cases hd:(dev f.body ⟨news (C9 hs x)++F5 (f.nslots-f.nparams),F0 f.nbox,[]⟩).valQ q f.res with
   | mk g o=>
     rw[hd] at hc hQ hok
     cases o with
     |none=>cases hc
     | some y=>
       simp only[Hv] at hQ;obtain⟨k1,e,st,v0,k2,k3,k4,k5,k6⟩:=Vn hd hok;obtain⟨h1,h2⟩:=ZZ k6;refine⟨by rw[Et,N3];exact hst.1,fun _=>rfl,?_⟩
       refine F7 f.body ho (d:=⟨news (C9 hs x)++F5 (f.nslots-f.nparams),F0 f.nbox,[]⟩) ⟨(EL.news _).append (Qb _),Qe _,trivial⟩ k1 k2 fun s' hs'=>?_
       obtain⟨s2,e2⟩:=jF hs' k4 k5;rw[← h1] at e2
       have fin:(match IJ s' f.res with|some (v,st)=>if f.pure=true then v.flt=true∧Q v [] else Q v st.hp|none=>False):=by
        rw[e2];simp only;split
        · rename_i hpu;exact⟨by rw[h1];exact YV _ (j9 (by simpa [hpu] using hst.2) k6),hQ _⟩
        · exact hQ _
       cases e with
       |normal=>exact fin
       |ret=>exact fin
       |exit i=>exact absurd rfl (k3 i)
theorem tS{f:DFun}{hs:List HT}{q:QT}(ho:AllD f.body.obs)(hst:OO f hs q=true)(hc:∀ x,Oz f hs q x=true){ok:TuX hs→Prop}{v:TuX hs→q.D}(hok:∀ x,ok x→MF f hs q x)(hv:∀ x,MQ f hs q x=v x) :
 HC (DH f.er) (HI hs q ok v):=by
 intro args g w Q h hg hQ
 unfold HI at h
 cases hx:Ff hs args with
 |none=>rw[hx] at h;cases h
 | some x=>
   rw[hx] at h;simp only[Ai,Aj] at h;obtain⟨rfl,rfl⟩:=h;rw[← OJ hx]
   exact iI ho hst x (hc x) (hok x hg) fun H=>by rw[hv];exact hQ H
attribute [irreducible] RB MQ MF Oz OO
def Gg:List (Ql×CT)→List (Ql×CT)
 |[]=>[]
 |(.frz,_)::r=>Gg r
 |a::r=>a::Gg r
def HZ:List (Ql×CT)→List DV→List DV
 |[],_=>[]
 |(.frz,_)::r,vs=>.any::HZ r vs
 |_::r,v::vs=>v::HZ r vs
 |_::r,[]=>.any::HZ r []
def My:List (Ql×CT)→List DC→Option (List DV)
 |[],[]=>some []
 |(.frz,_)::r,c::l=>if c.d then none else My r l
 | _::r,c::l=>(match My r l with
   |some vs=>some (c.v::vs)
   |none=>none)
 |_,_=>none
def A5:List DV→List DC
 |[]=>[]
 |v::r=>⟨false,v⟩::A5 r
def ZX(st:DS):List ARes→Option (DV×DS)
 |[r]=>JX st r
 | rs=>(match Hu st rs with
   |some x=>some (.tup x.1,x.2)
   |none=>none)
def rP(q:QT)(cs:List (Ql×CT))(res:List ARes)(st:DS):Option (q.D×AgX (Gg cs)):=
 match ZX st res with
 | some (v,st')=>if v.ok&&!v.hasPtr then (match st'.hp with
   | [blk]=>(match My cs blk with
     | some vs=>(match q.of v,EJ (Gg cs) vs with
       |some y,some b=>some (y,b)
       |_,_=>none)
     |none=>none)
   |_=>none) else none
 |none=>none
def rN(cs:List (Ql×CT))(res:List ARes)(st:DS):Option (AgX cs):=
 match ZX st res with
 | some (v,st')=>if v.isP0 then (match st'.hp with
   |[blk]=>EJ cs (Bz blk)
   |_=>none) else none
 |none=>none
def DT.valR{α:Type}(R:DS→Option α):DT→PX×Option α
 |.leaf (.exit _) _=>(.ff,none)
 | .leaf _ st=>(match R st with
   |some y=>(.tt,some y)
   |none=>(.ff,none))
 | .node c a b=>(match a.valR R,b.valR R with
   |(g,none),(g',y)=>(PX.if' c g g',y)
   |(g,x),(g',none)=>(PX.if' c g g',x)
   |(g,some x),(g',some y)=>(PX.if' c g g',some (bSel c x y)))
 | .chk g t=>(match t.valR R with
   |(g',v)=>(g.land g',v))
 |.bad=>(.ff,none)
theorem P3{α:Type}{R:DS→Option α}:∀ {t:DT} {g:PX},t.valR R=(g,none)→¬ g.den
 | .leaf e st,g,h=>by
   cases e<;>simp only[DT.valR] at h<;>(repeat' split at h)<;>simp only[Aj,reduceCtorEq,and_false,KV] at h<;>subst h<;>exact id
 | .node c x y,g,h=>by
   intro hg
   simp only[DT.valR] at h
   cases h1:x.valR R with
   | mk g1 v1=>
     cases h2:y.valR R with
     | mk g2 v2=>
       rw[h1,h2] at h
       cases v1 with
       | none=>
         simp only[Aj] at h
         obtain⟨rfl,rfl⟩:=h
         have:=(PX.if_den _ _ _).mp hg
         cases c with
         |true=>exact P3 h1 (this.1 rfl)
         |false=>exact P3 h2 (this.2 rfl)
       |some v1=>cases v2<;>simp at h
 | .chk g0 t,g,h=>by
   intro hg
   simp only[DT.valR] at h
   cases h1:t.valR R with
   | mk g1 v1=>
     rw[h1] at h
     simp only[Aj] at h
     obtain⟨rfl,rfl⟩:=h
     exact P3 h1 ((PX.land_den _ _).mp hg).2
 | .bad,g,h=>by
   simp only[DT.valR,Aj,KV] at h
   subst h;exact id
theorem QQ{α:Type}{R:DS→Option α}:∀ {t:DT} {g:PX} {y:α},t.valR R=(g,some y)→g.den →
 t.ok.den∧∃ e st,t.lf=some (e,st)∧(∀ i,e≠.exit i)∧R st=some y
 | .leaf e st,g,y,h,hg=>by
   have gen:(match R st with|some y=>(PX.tt,some y)|none=>(PX.ff,none))=(g,some y)→R st=some y:=fun h=>by
    split at h
    · rename_i y' hy;simp only[Aj,Ai] at h;rw[hy,h.2]
    · simp at h
   cases e with
   |exit i=>simp[DT.valR] at h
   |normal=>exact⟨trivial,.normal,st,rfl,by simp,gen h⟩
   |ret=>exact⟨trivial,.ret,st,rfl,by simp,gen h⟩
 | .node c a b,g,y,h,hg=>by
   simp only[DT.valR] at h;show (PX.if' c a.ok b.ok).den∧∃ e st,(DT.node c a b).lf=some (e,st)∧(∀ i,e≠.exit i)∧R st=some y;rw[PX.if_den]
   cases h1:a.valR R with
   | mk g1 v1=>
     cases h2:b.valR R with
     | mk g2 v2=>
       rw[h1,h2] at h
       have hgg:g=PX.if' c g1 g2:=by
        cases v1<;>cases v2<;>simp only[Aj] at h<;>exact h.1.symm
       subst hgg;have hg:=(PX.if_den _ _ _).mp hg
       cases c with
       | true=>
         have:v1=some y:=by
          cases v1 with
          |none=>exact absurd (hg.1 rfl) (P3 h1)
          |some v1=>cases v2<;>simp only[Aj,Ch] at h<;>exact h.2
         subst this;obtain⟨k1,k2⟩:=QQ h1 (hg.1 rfl);exact⟨⟨fun _=>k1,fun h=>by cases h⟩,k2⟩
       | false=>
         have:v2=some y:=by
          cases v2 with
          |none=>exact absurd (hg.2 rfl) (P3 h2)
          |some v2=>cases v1<;>simp only[Aj,BQ] at h<;>exact h.2
         subst this;obtain⟨k1,k2⟩:=QQ h2 (hg.2 rfl);exact⟨⟨fun h=>(by cases h),fun _=>k1⟩,k2⟩
 | .chk g0 t,g,y,h,hg=>by
   simp only[DT.valR] at h
   cases h1:t.valR R with
   | mk g1 v1=>
     rw[h1] at h;simp only[Aj] at h;obtain⟨rfl,rfl⟩:=h;have hg:=(PX.land_den _ _).mp hg;obtain⟨k1,k2⟩:=QQ h1 hg.2;exact⟨(PX.land_den _ _).mpr ⟨hg.1,k1⟩,k2⟩
 |.bad,g,y,h,hg=>by simp[DT.valR] at h
theorem Vp{p:DS→Prop}:∀ {t:DT} {e:AExit} {st:DS},t.All p→t.lf=some (e,st)→p st
 | .leaf _ _,_,_,h,hl=>by
   simp only[DT.lf,Ai,Aj] at hl
   obtain⟨_,rfl⟩:=hl;exact h
 | .node c a b,_,_,h,hl=>by
   simp only[DT.lf] at hl
   cases c with
   |true=>exact Vp h.1 hl
   |false=>exact Vp h.2 hl
 |.chk _ t,_,_,h,hl=>Vp (t:=t) h hl
 |.bad,_,_,_,hl=>by cases hl
theorem fS{st st':DS}{r:ARes}{v:DV}(h:JX st r=some (v,st')):ChgS st st':=by
 cases r with
 | tmp t=>
   simp only[JX] at h;split at h
   · simp only[Ai] at h;have:=ChgS.mvOut (.t t) st;simp only[Ba,h] at this;exact this
   · cases h
 | cell t n=>
   simp only[JX] at h;split at h
   · split at h
     · simp only[BH] at h;obtain⟨⟨g,r⟩,h1,h2⟩:=h;simp only at h2;subst h2;exact fP h1
     · cases h
   · split at h
     · simp only[BH] at h;obtain⟨⟨g,r⟩,h1,h2⟩:=h;simp only at h2;subst h2;exact fC h1
     · cases h
   · cases h
theorem eE:∀ {rs:List ARes} {st st':DS} {vs:List DV},Hu st rs=some (vs,st')→ChgS st st'
 | [],st,st',vs,h=>by
   simp only[Hu,Ai,Aj] at h
   rw[h.2];exact ChgS.refl _
 | r :: rs,st,st',vs,h=>by
   simp only[Hu] at h
   split at h
   · rename_i v st1 h1
     split at h
     · rename_i vs1 st2 h2
       simp only[Ai,Aj] at h
       obtain⟨_,rfl⟩:=h
       exact(fS h1).trans (eE h2)
     · cases h
   · cases h
theorem jy{res:List ARes}{st st':DS}{s:PS}{v:DV}(hs:ES st s)(h:ZX st res=some (v,st'))(hv:v.ok=true):(∃ s',IJ s res=some (v.enc,s')∧ES st' s')∧ChgS st st':=by
 have gen:∀ {res:List ARes},(match Hu st res with|some x=>some (DV.tup x.1,x.2)|none=>none)=some (v,st')→(∃ s',(Hx s res).map (fun(vs,st)=>(PV.tup vs,st))=some (v.enc,s')∧ES st' s')∧ChgS st st':=fun {res} h=>by
  split at h
  · rename_i x hx;obtain⟨vs,st1⟩:=x;simp only[Ai,Aj] at h;obtain⟨rfl,rfl⟩:=h;obtain⟨s',e1,e2⟩:=XI hs hx hv;exact⟨⟨s',by rw[e1];rfl,e2⟩,eE hx⟩
  · cases h
 cases res with
 |nil=>exact gen (res:=[]) h
 | cons r rs=>
   cases rs with
   |nil=>exact⟨Yj hs h hv,fS h⟩
   |cons r2 rs=>exact gen (res:=r::r2::rs) h
theorem P0:∀ {l:List (Ql×CT)} {vs:List DV} {x:AgX l},EJ l vs=some x→(∀ v∈vs,v≠.any)∧∀ v∈CN l x,v≠.any
 |[],[],_,_=>⟨by simp,by simp[CN]⟩
 | [a],[v],x,h=>by
   obtain⟨h1,h2⟩:=QI (q:=a.1) (t:=a.2) h;refine⟨by simpa using h2,fun w hw=>?_⟩;have hw:w∈[a.2.dv a.1 x]:=hw;rw[List.mem_singleton] at hw;subst hw;exact dv_known _ _ _
 | a :: b::r,v::vs,x,h=>by
   have h':(match a.2.ofQ a.1 v,EJ (b::r) vs with|some x,some y=>some (x,y)|_,_=>none)=some x:=h;clear h
   cases h1:a.2.ofQ a.1 v with
   |none=>rw[h1] at h';cases h'
   | some p=>
     cases h2:EJ (b::r) vs with
     |none=>rw[h1,h2] at h';cases h'
     | some q=>
       rw[h1,h2] at h';have h':=CG h';subst h';obtain⟨k1,k2⟩:=P0 h2;refine⟨fun w hw=>?_,fun w hw=>?_⟩
       · rcases BE.mp hw with rfl|hw
         · exact(QI h1).2
         · exact k1 w hw
       · have hw:w∈a.2.dv a.1 p::CN (b::r) q:=hw;rcases BE.mp hw with rfl|hw
         · exact dv_known _ _ _
         · exact k2 w hw
  where dv_known (q:Ql) (t:CT) (x:t.D):t.dv q x≠.any:=by cases t<;>simp[CT.dv]
theorem fO:∀ (l:List (Ql×CT)) (x:AgX l),(∀ v∈CN l x,v≠.any)∧(CN l x).length=l.length
 |[],_=>⟨by simp[CN],rfl⟩
 |[a],x=>⟨fun w hw=>by
  have hw:w∈[a.2.dv a.1 x]:=hw
  rw[List.mem_singleton] at hw
  subst hw
  exact P0.dv_known _ _ _,rfl⟩
 | a :: b::r,x=>by
   obtain⟨h1,h2⟩:=fO (b::r) x.2
   refine⟨fun w hw=>?_,?_⟩
   · have hw:w∈a.2.dv a.1 x.1::CN (b::r) x.2:=hw
     rcases BE.mp hw with rfl|hw
     · exact P0.dv_known _ _ _
     · exact h1 w hw
   · show (CN (b::r) x.2).length+1=(b::r).length+1
     rw[h2]
theorem XU:∀ (cs:List (Ql×CT)) {blk:List DV} {blk':List DC} {p:List PV} {vs w:List DV},EL blk' p→Chg (A5 blk) blk'→My cs blk'=some vs→DV.encL w=DV.encL vs→(∀ v∈vs,v≠.any)→(∀ v∈w,v≠.any) →
 blk.length=cs.length→(∀ v∈blk,v≠.any)→p=DV.encL (Fg blk (HZ cs w))
 | [],blk,blk',p,vs,w,he,hc,hp,hw,hv,hvw,hl,hb=>by
   have:blk=[]:=D2 hl;subst this
   cases blk' with
   | nil=>cases p with
     |nil=>rfl
     |cons=>exact he.elim
   |cons=>cases hp
 | (q, t)::r,blk,blk',p,vs,w,he,hc,hp,hw,hv,hvw,hl,hb=>by
   cases blk with
   |nil=>cases hl
   |cons v0 blk=>
   cases blk' with
   |nil=>cases q<;>cases hp
   |cons c l=>
   cases p with
   |nil=>exact he.elim
   |cons x p=>
   have hl':blk.length=r.length:=by simpa using hl
   have hb':∀ v∈blk,v≠.any:=fun v hv=>hb v (List.mem_cons_of_mem _ hv)
   by_cases hq:q= .frz
   · subst hq;have hp:(if c.d then none else My r l)=some vs:=hp;split at hp
     · cases hp
     · rename_i hd;have hc1:c=⟨false,v0⟩:=hc.1.resolve_left hd
       have hx:x=v0.enc:=by
        rcases he.1 with h|h
        · rw[hc1] at h;exact absurd h (hb v0 (Fw ..))
        · rw[h,hc1]
       show x::p=v0.enc::DV.encL (Fg blk (HZ r w));rw[hx,XU r he.2 hc.2 hp hw hv hvw hl' hb']
   · have hp':(match My r l with|some vs=>some (c.v::vs)|none=>none)=some vs:=by
      cases q<;>first|exact absurd rfl hq|exact hp
     cases hpr:My r l with
     |none=>rw[hpr] at hp';cases hp'
     | some vs1=>
       rw[hpr] at hp';have hp':=CG hp';subst hp'
       cases w with
       |nil=>cases hw
       |cons w0 w=>
       simp only[DV.encL,FZ] at hw
       have hx:x=w0.enc:=by
        rcases he.1 with h|h
        · exact absurd h (hv c.v (Fw ..))
        · rw[h,hw.1]
       have hw0:w0.isAny=false:=by
        have:=hvw w0 (Fw ..)
        cases w0<;>first|rfl|exact absurd rfl this
       have e:HZ ((q,t)::r) (w0::w)=w0::HZ r w:=by cases q<;>first|exact absurd rfl hq|rfl
       rw[e];simp only[Fg,hw0,AP,A3,DV.encL];rw[hx,XU r he.2 hc.2 hpr hw.2 (fun v h=>hv v (List.mem_cons_of_mem _ h)) (fun v h=>hvw v (List.mem_cons_of_mem _ h)) hl' hb']
def Ry(f:DFun)(hs:List HT)(cs:List (Ql×CT))(q:QT)(x:TuX (.agg cs::hs)):PX×Option (q.D×AgX (Gg cs)):=
 match C9 (.agg cs::hs) x with
 |.agg blk::r=>(dev f.body ⟨news (.ptr 0 0::r)++F5 (f.nslots-f.nparams),F0 f.nbox,[A5 blk]⟩).valR (rP q cs f.res)
 |_=>(.ff,none)
def IP(f:DFun)(hs:List HT)(cs:List (Ql×CT))(q:QT)(x:TuX (.agg cs::hs)):q.D×AgX (Gg cs):=(Ry f hs cs q x).2.getD (q.dflt,Vl (Gg cs))
def II(f:DFun)(hs:List HT)(cs:List (Ql×CT))(q:QT)(x:TuX (.agg cs::hs)):Prop:=(Ry f hs cs q x).1.den
def Zf(f:DFun)(hs:List HT)(cs:List (Ql×CT))(q:QT)(x:TuX (.agg cs::hs)):Bool:=(Ry f hs cs q x).2.isSome
def Z8(f:DFun)(hs:List HT)(cs:List (Ql×CT)):Bool:=hs.length+1 == f.nparams&&!f.pure&&Nat.blt 0 cs.length
def JO(hs:List HT)(cs:List (Ql×CT))(q:QT)(ok:TuX (.agg cs::hs)→Prop)(v:TuX (.agg cs::hs)→q.D×AgX (Gg cs)):D6:=fun args b=>match args,b with
 | a::r,[blk]=>if a.isP0 then (match Ff (.agg cs::hs) (.agg blk::r) with
   |some x=>some (.p (ok x),q.dv (v x).1,[HZ cs (CN (Gg cs) (v x).2)])
   |none=>none) else none
 |_,_=>none
theorem ue(cs:List (Ql×CT))(hs:List HT)(x:TuX (.agg cs::hs)):∃ r b,C9 (.agg cs::hs) x= .agg (CN cs b)::r:=by
 cases hs with
 |nil=>exact⟨[],x,rfl⟩
 |cons a r=>exact⟨C9 (a::r) x.2,x.1,rfl⟩
theorem jA:∀ (l:List DV),EL (A5 l) (DV.encL l)
 |[]=>trivial
 |_::r=>⟨.inr rfl,jA r⟩
theorem LQ {f : DFun} {hs : List HT} {cs:List (Ql×CT)} {q:QT} (ho:AllD f.body.obs) (hst:Z8 f hs cs=true) (hc:∀ x,Zf f hs cs q x=true) {ok:TuX (.agg cs::hs)→Prop} {v:TuX (.agg cs::hs)→q.D×AgX (Gg cs)} (hok:∀ x,ok x→II f hs cs q x) (hv:∀ x,IP f hs cs q x=v x) :
 FY (DH f.er) (JO hs cs q ok v):=by
 intro args b g w H Q h hg hQ
 simp only[Z8,Af,AY,B9] at hst
 unfold JO at h
 split at h
 · rename_i a r blk
   split at h
   · rename_i ha
     have ha:a= .ptr 0 0:=by unfold DV.isP0 at ha;split at ha<;>first|rfl|cases ha
     subst ha
     cases hx:Ff (.agg cs::hs) (.agg blk::r) with
     |none=>rw[hx] at h;cases h
     | some x=>
       rw[hx] at h;simp only[Ai,Aj] at h;obtain⟨rfl,rfl,rfl⟩:=h;have he:=OJ hx;obtain⟨r',b,hd⟩:=ue cs hs x;rw[hd] at he;simp only[DV.encL,DV.enc,FZ,PV.agg.injEq] at he
       have hlr:r'.length=hs.length:=by
        have:=N3 (.agg cs::hs) x;rw[hd] at this;simpa using this
       have hc:=hc x;have hok:=hok x hg;unfold Zf at hc;unfold II at hok;have hvx:=hv x;unfold IP at hvx;unfold Ry at hc hok hvx;rw[hd] at hc hok hvx;simp only at hc hok hvx
       cases hdd:(dev f.body ⟨news (.ptr 0 0::r')++F5 (f.nslots-f.nparams),F0 f.nbox,[A5 (CN cs b)]⟩).valR (rP q cs f.res) with
       | mk g o=>
         rw[hdd] at hc hok hvx
         cases o with
         |none=>cases hc
         | some y=>
           simp only[Hv] at hvx;obtain⟨k1,e,st,k2,k3,k4⟩:=QQ hdd hok;have hchg:ChgS _ st:=Vp (Ht f.body _) k2;show DH f.er (PV.ptr 0 0::DV.encL r) [DV.encL blk] Q;rw[← he.1,← he.2];refine⟨by simp only[AB,Et,hlr];exact hst.1.1,fun hp=>absurd hp (by simp[DFun.er,hst.1.2]),?_⟩
           refine F7 f.body ho (d:=⟨news (.ptr 0 0::r')++F5 (f.nslots-f.nparams),F0 f.nbox,[A5 (CN cs b)]⟩) (s:=⟨DV.encL (.ptr 0 0::r')++HO (f.nslots-f.nparams),J0 f.nbox,[DV.encL (CN cs b)]⟩) ⟨(EL.news _).append (Qb _),Qe _,.inr (jA _),trivial⟩ k1 k2 fun s' hs'=>?_
           unfold rP at k4;split at k4
           · rename_i v0 st' hr; split at k4
             · rename_i hv0; simp only[Af,B9] at hv0;split at k4
               · rename_i blk' hblk;split at k4
                 · rename_i vs hvs;split at k4
                   · rename_i y0 b0 hy0 hb0;simp only[Ai] at k4;subst k4;obtain⟨⟨s2,e2,e3⟩,hch2⟩:=jy hs' hr hv0.1;have hch:=(hchg.trans hch2).hp;have e4:=e3.hp;rw[hblk] at hch e4
                     cases hp2:s2.hp with
                     |nil=>rw[hp2] at e4;exact e4.elim
                     | cons p l=>
                       rw[hp2] at e4
                       have hl0:l=[]:=by cases l<;>first|rfl|exact e4.2.elim
                       subst hl0
                       have hne:0<blk'.length:=by
                        cases blk' with
                        | nil=>cases cs with
                          |nil=>exact absurd hst.2 (by decide)
                          |cons a cs=>obtain⟨q0,t0⟩:=a;cases q0<;>cases hvs
                        |cons=>simp
                       have hEL:=e4.1.to hne;obtain⟨kn1,kn2⟩:=P0 hb0;obtain⟨kb1,kb2⟩:=fO cs b;have hpb:=XU cs hEL hch.1 hvs (VP hb0) kn1 kn2 kb2 kb1;obtain⟨h1,_⟩:=ZZ hy0
                       have hQ':Q (q.dv y0).enc (F9 (IE [blk] [HZ cs (CN (Gg cs) b0)])):=by
                        have:=hQ;rw[← hvx] at this;exact this
                       have hmix : DV.encL (Fg (CN cs b) (HZ cs (CN (Gg cs) b0)))=DV.encL (Fg blk (HZ cs (CN (Gg cs) b0))):=by
                        have:∀ (a c l:List DV),DV.encL a=DV.encL c→DV.encL (Fg a l)=DV.encL (Fg c l):=by
                         intro a
                         induction a with
                         | nil=>intro c l h;cases c with
                           |nil=>rfl
                           |cons=>cases h
                         | cons x a ih=>
                           intro c l h
                           cases c with
                           |nil=>cases h
                           | cons z c=>
                             simp only[DV.encL,FZ] at h
                             cases l with
                             |nil=>simp only[Fg,DV.encL,h.1,h.2]
                             | cons w l=>
                               simp only[Fg,DV.encL,ih c l h.2];by_cases hw:w.isAny=true
                               · rw[Ab hw,Ab hw,h.1]
                               · rw[Ad hw,Ad hw]
                        exact this _ _ _ he.1
                       have fin:(match IJ s' f.res with|some (v,st)=>if f.pure=true then v.flt=true∧Q v [] else Q v st.hp|none=>False):=by
                        rw[e2];simp only[hst.1.2,AP,A3,hp2];rw[← h1,hpb,hmix];exact hQ'
                       cases e with
                       |normal=>exact fin
                       |ret=>exact fin
                       |exit i=>exact absurd rfl (k3 i)
                   · cases k4
                 · cases k4
               · cases k4
             · cases k4
           · cases k4
   · cases h
 · cases h
def Rx(f:DFun)(hs:List HT)(cs:List (Ql×CT))(x:TuX hs):PX×Option (AgX cs):=
 (dev f.body ⟨news (C9 hs x)++F5 (f.nslots-f.nparams),F0 f.nbox,[]⟩).valR (rN cs f.res)
def Rk(f:DFun)(hs:List HT)(cs:List (Ql×CT))(x:TuX hs):AgX cs:=(Rx f hs cs x).2.getD (Vl cs)
def Q3(f:DFun)(hs:List HT)(cs:List (Ql×CT))(x:TuX hs):Prop:=(Rx f hs cs x).1.den
def Y7(f:DFun)(hs:List HT)(cs:List (Ql×CT))(x:TuX hs):Bool:=(Rx f hs cs x).2.isSome
def ZS(f:DFun)(hs:List HT)(cs:List (Ql×CT)):Bool:=hs.length == f.nparams&&!f.pure&&Nat.blt 0 cs.length
def UX(hs:List HT)(cs:List (Ql×CT))(ok:TuX hs→Prop)(v:TuX hs→AgX cs):D6:=fun args b=>match b with
 | []=>(match Ff hs args with
   |some x=>some (.p (ok x),.ptr 0 0,[CN cs (v x)])
   |none=>none)
 |_=>none
theorem iB:∀ {l:List (Ql×CT)} {vs:List DV} {x:AgX l},EJ l vs=some x→vs.length=l.length
 |[],[],_,_=>rfl
 |[a],[v],x,h=>rfl
 | a :: b::r,v::vs,x,h=>by
   have h':(match a.2.ofQ a.1 v,EJ (b::r) vs with|some x,some y=>some (x,y)|_,_=>none)=some x:=h
   cases h1:a.2.ofQ a.1 v with
   |none=>rw[h1] at h';cases h'
   | some p=>
     cases h2:EJ (b::r) vs with
     |none=>rw[h1,h2] at h';cases h'
     | some q=>
       have:=iB h2
       simp only[AB] at this ⊢
       omega
theorem fa {f : DFun} {hs:List HT} {cs:List (Ql×CT)} (ho:AllD f.body.obs) (hst:ZS f hs cs=true) (hc:∀ x,Y7 f hs cs x=true) {ok:TuX hs→Prop} {v:TuX hs→AgX cs} (hok:∀ x,ok x→Q3 f hs cs x) (hv:∀ x,Rk f hs cs x=v x) :
 FY (DH f.er) (UX hs cs ok v):=by
 intro args b g w H Q h hg hQ
 simp only[ZS,Af,AY,B9] at hst
 unfold UX at h
 split at h
 · cases hx : Ff hs args with
   |none=>rw[hx] at h;cases h
   | some x=>
     rw[hx] at h;simp only[Ai,Aj] at h;obtain⟨rfl,rfl,rfl⟩:=h;have he:=OJ hx;have hc:=hc x;have hok:=hok x hg;have hvx:=hv x;unfold Y7 at hc;unfold Q3 at hok;unfold Rk at hvx;unfold Rx at hc hok hvx
     cases hdd:(dev f.body ⟨news (C9 hs x)++F5 (f.nslots-f.nparams),F0 f.nbox,[]⟩).valR (rN cs f.res) with
     | mk g o=>
       rw[hdd] at hc hok hvx
       cases o with
       |none=>cases hc
       | some y=>
         simp only[Hv] at hvx;obtain⟨k1,e,st,k2,k3,k4⟩:=QQ hdd hok;show DH f.er (DV.encL args) [] Q;rw[← he];refine⟨by rw[Et,N3];exact hst.1.1,fun hp=>absurd hp (by simp[DFun.er,hst.1.2]),?_⟩
         refine F7 f.body ho (d:=⟨news (C9 hs x)++F5 (f.nslots-f.nparams),F0 f.nbox,[]⟩) ⟨(EL.news _).append (Qb _),Qe _,trivial⟩ k1 k2 fun s' hs'=>?_
         unfold rN at k4;split at k4
         · rename_i v0 st' hr;split at k4
           · rename_i hv0
             have hv0:v0= .ptr 0 0:=by unfold DV.isP0 at hv0;split at hv0<;>first|rfl|cases hv0
             subst hv0;split at k4
             · rename_i blk' hblk;obtain⟨⟨s2,e2,e3⟩,_⟩:=jy hs' hr rfl;have e4:=e3.hp;rw[hblk] at e4
               cases hp2:s2.hp with
               |nil=>rw[hp2] at e4;exact e4.elim
               | cons p l=>
                 rw[hp2] at e4
                 have hl0:l=[]:=by cases l<;>first|rfl|exact e4.2.elim
                 subst hl0
                 have hne:0<blk'.length:=by
                  have:=iB k4;rw[P9] at this;have:=CH hst.2;omega
                 have hEL:=e4.1.to hne;obtain⟨kn1,_⟩:=P0 k4
                 have hpe:p=DV.encL (Bz blk'):=by
                  have:∀ {a:List DC} {b:List PV},EL a b→(∀ v∈Bz a,v≠.any)→b=DV.encL (Bz a):=by
                   intro a
                   induction a with
                   |nil=>intro b h _;cases b<;>first|rfl|exact h.elim
                   | cons c a ih=>
                     intro b h hk
                     cases b with
                     |nil=>exact h.elim
                     | cons x b=>
                       simp only[Bz,DV.encL];rcases h.1 with h1|h1
                       · exact absurd h1 (hk _ (Fw ..))
                       · rw[h1,ih h.2 fun v hv=>hk v (List.mem_cons_of_mem _ hv)]
                  exact this hEL kn1
                 have hQ':Q (.ptr 0 0) [DV.encL (CN cs y)]:=by
                  have:=hQ;rw[← hvx] at this;exact this
                 have fin:(match IJ s' f.res with|some (v,st)=>if f.pure=true then v.flt=true∧Q v [] else Q v st.hp|none=>False):=by
                  rw[e2];simp only[hst.1.2,AP,A3,hp2];rw[hpe,← VP k4];exact hQ'
                 cases e with
                 |normal=>exact fin
                 |ret=>exact fin
                 |exit i=>exact absurd rfl (k3 i)
             · cases k4
           · cases k4
         · cases k4
 · cases h
attribute [irreducible] Ry IP II Zf Z8 Rx Rk Q3 Y7 ZS
open Go.RowKit Go.WideShapes Go.ChangeShapes
inductive Ty where
 |int (k:IntKind)
 |bool
 |str
 |sl (t:Ty)
 |unit
 |pair (a b:Ty)
def Ty.w:Ty→Nat
 |.int _|.bool|.str|.sl _=>1
 |.unit=>0
 |.pair a b=>a.w+b.w
def Rq(P:Program)(f:TypeId→Option Ty):List Field→Nat→Option Ty
 |[],_=>some .unit
 | g::r,off=>
   match f g.type with
   |some a=>if g.offset=off∧a.w=P.cellsOf g.type then (match Rq P f r (off+a.w) with|some b=>some (.pair a b)|none=>none) else none
   |none=>none
def IM(P:Program):Nat→TypeId→Option Ty
 |0,_=>none
 | d+1,t=>
   match P.underlying t with
   |some (.int k)=>some (.int k)
   |some .bool=>some .bool
   |some .string=>some .str
   |some (.slice e)=>(match IM P d e with|some te=>if te.w=P.cellsOf e∧0<te.w then some (.sl te) else none|none=>none)
   |some (.struct fs)=>(match Rq P (IM P d) fs.toList 0 with|some ty=>if ty.w=P.cellsOf t then some ty else none|none=>none)
   |_=>none
def Sh(σ:Ac):Ty→List V→Prop
 |.int k,cs=>∃ n,cs=[.int k n]∧(Lit.int k n).wf=true
 |.bool,cs=>∃ b,cs=[.bool b]
 |.str,cs=>∃ s,cs=[.str s]∧s.length≤maxLen
 |.sl t,cs=>cs=[.nils]∨∃ (l n:Nat) (bs:List V),cs=[.slice l 0 n]∧σ[l]?=some ⟨.ro,t.w,bs⟩∧bs.length=n*t.w∧n≤maxLen∧∀ i,i<n→Sh σ t ((bs.drop (i*t.w)).take t.w)
 |.unit,cs=>cs=[]
 |.pair a b,cs=>∃ xs ys,cs=xs++ys∧Sh σ a xs∧Sh σ b ys
theorem Sh.len{σ:Ac}:∀ {ty:Ty} {cs:List V},Sh σ ty cs→cs.length=ty.w
 |.int _,_,⟨_,h,_⟩=>by rw[h];rfl
 |.bool,_,⟨_,h⟩=>by rw[h];rfl
 |.str,_,⟨_,h,_⟩=>by rw[h];rfl
 |.sl _,_,h=>by rcases h with h|⟨_,_,_,h,_⟩<;>rw[h]<;>rfl
 |.unit,_,h=>by rw[h];rfl
 |.pair a b,_,⟨xs,ys,h,h1,h2⟩=>by rw[h,BM,h1.len,h2.len];rfl
theorem Sh.mono{σ e:Ac}:∀ {ty:Ty} {cs:List V},Sh σ ty cs→Sh (σ++e) ty cs
 |.int _,_,h=>h
 |.bool,_,h=>h
 |.str,_,h=>h
 | .sl _,_,h=>by
   rcases h with h|⟨l,n,bs,h,h1,h2,h3,h4⟩
   · exact .inl h
   · exact .inr ⟨l,n,bs,h,by rw[Bm (BV h1)];exact h1,h2,h3,fun i hi=>(h4 i hi).mono⟩
 |.unit,_,h=>h
 |.pair _ _,_,⟨xs,ys,h,h1,h2⟩=>⟨xs,ys,h,h1.mono,h2.mono⟩
def D4(σ:Ac):Prop:=∀ (l:Nat) (b:Blk),σ[l]?=some b→b.k= .ro
def Q6(ι:Ao)(σ:Ac)(W:World)(ty:Ty)(cs:List Value):Prop:=
 ∃ ι' e vs,HRel ι' (σ++e) W∧Keeps ι σ ι' (σ++e)∧D4 (σ++e)∧Sh (σ++e) ty vs∧vs.length=cs.length∧∀ (i:Nat) v x,vs[i]?=some v→cs[i]?=some x→v.cell=true∧∀ β,Rel ι' (σ++e) β v x
theorem HRel.lay{ι:Ao}{σ:Ac}{W:World}(h:HRel ι σ W)(hro:D4 σ){b off c:Nat}{wd:Nat}{bs:List V}(hb:b<W.heap.size)(hc:∀ (i:Nat) v,bs[i]?=some v→v.cell=true∧∃ x,W.cell? ⟨b,off+i,none⟩=some x∧∀ β,Rel ι σ β v x) :
 HRel (upd ι σ.length ⟨b,off,c⟩) (σ++[⟨.ro,wd,bs⟩]) W∧D4 (σ++[⟨.ro,wd,bs⟩]):=by
 have K:=P1 ι σ ⟨b,off,c⟩ ⟨.ro,wd,bs⟩
 have hall:D4 (σ++[⟨.ro,wd,bs⟩]):=by
  intro l blk hl;rcases Fs hl with⟨_,hl⟩|⟨_,rfl⟩
  · exact hro l blk hl
  · rfl
 refine⟨⟨fun l blk hl hk i v hv=>?_,fun l blk hl hk=>?_,fun l l' blk blk' hne hl hl' hk hk'=>?_,fun l blk hl hk=>?_⟩,hall⟩
 · rcases Fs hl with⟨hlt,hl⟩|⟨rfl,rfl⟩
   · rw[C3 _ _ _ _ (by omega)];obtain⟨a,x,b',c⟩:=h.cells l blk hl hk i v hv;exact⟨a,x,b',fun β=>(c β).cellMono K a⟩
   · rw[Cb];obtain⟨a,x,b',c⟩:=hc i v hv;exact⟨a,x,b',fun β=>(c β).cellMono K a⟩
 · have:=hall l blk hl;rw[hk] at this;cases this
 · have:=hall l blk hl;rw[hk] at this;cases this
 · rcases Fs hl with⟨hlt,hl⟩|⟨rfl,rfl⟩
   · rw[C3 _ _ _ _ (by omega)];exact h.there l blk hl hk
   · rw[Cb];exact hb
theorem qw{w:World}{a:Addr}{v:Value}(h:w.cell? a=some v):a.block<w.heap.size:=by
 unfold World.cell? at h;rcases Bn a.block w.heap.size with h1|h1
 · exact h1
 · rw[Array.getElem?_eq_none h1] at h;cases h
theorem Vm{α:Type}{l:List α}{i:Nat}{v:α}(h:l[i]?=some v):i<l.length:=by
 rcases Bn i l.length with h1|h1
 · exact h1
 · rw[Bv h1] at h;cases h
section
variable {H:Type} {enc:TypeId×Value→H} {P:Program} {W:World}
theorem dL(d:Nat)(ih:∀ (t:TypeId)(ty:Ty),IM P d t=some ty→∀ (fuel:Nat)(cs:List Value) x,DataW.trod enc P W 0 (fun _=>true) true fuel t cs=some x→∀ (ι:Ao)(σ:Ac),HRel ι σ W→D4 σ→Q6 ι σ W ty cs) :
 ∀ (fs:List Field) (off:Nat) (ty:Ty),Rq P (IM P d) fs off=some ty→∀ (fuel:Nat) (cs:List Value),(∀ g∈fs,∃ x,DataW.trod enc P W 0 (fun _=>true) true fuel g.type ((cs.drop g.offset).take (P.cellsOf g.type))=some x) →
   off+ty.w=cs.length→∀ (ι:Ao) (σ:Ac),HRel ι σ W→D4 σ→Q6 ι σ W ty (cs.drop off)
 | [],off,ty,h,fuel,cs,_,hl,ι,σ,H,hro=>by
   simp only[Rq,Ai] at h;subst h;simp only[Ty.w,EA] at hl
   have:cs.drop off=[]:=by rw[hl];simp
   rw[this];exact⟨ι,[],[],by simpa using H,by simpa using Keeps.refl ι σ,by simpa using hro,rfl,rfl,by simp⟩
 | g :: r, off,ty,h,fuel,cs,hg,hl,ι,σ,H,hro=>by
   simp only[Rq] at h;split at h
   · rename_i a ha;split at h
     · rename_i hc;obtain⟨h1,h2⟩:=hc;split at h
       · rename_i b hb;cases h;simp only[Ty.w] at hl;obtain⟨x,hx⟩:=hg g (by simp);rw[h1] at hx;obtain⟨ι1,e1,vs1,H1,K1,R1,S1,L1,C1⟩:=ih g.type a ha fuel _ x hx ι σ H hro;obtain⟨ι2,e2,vs2,H2,K2,R2,S2,L2,C2⟩:=dL d ih r (off+a.w) b hb fuel cs (fun g' hg'=>hg g' (by simp[hg'])) (by omega) ι1 (σ++e1) H1 R1;refine⟨ι2,e1++e2,vs1++vs2,by rw[← B1];exact H2,by rw[← B1];exact K1.trans K2,by rw[← B1];exact R2,⟨vs1,vs2,rfl,by rw[← B1];exact S1.mono,by rw[← B1];exact S2⟩,?_,fun i v y hv hy=>?_⟩
         · rw[BM,L1,L2];simp;omega
         · have hl1:vs1.length=a.w:=S1.len;by_cases hi:i<vs1.length
           · rw[Bm hi] at hv
             have hy':((cs.drop off).take (P.cellsOf g.type))[i]?=some y:=by
              rw[HB,Ab (by omega)];exact hy
             obtain⟨q1,q2⟩:=C1 i v y hv hy';exact⟨q1,fun β=>by rw[← B1];exact(q2 β).cellMono K2 q1⟩
           · rw[CJ (by omega)] at hv
             have hy':(cs.drop (off+a.w))[i-vs1.length]?=some y:=by
              rw[Iy] at hy ⊢
              have:off+a.w+(i-vs1.length)=off+i:=by omega
              rw[this];exact hy
             obtain⟨q1,q2⟩:=C2 _ v y hv hy';exact⟨q1,fun β=>by rw[← B1];exact q2 β⟩
       · cases h
     · cases h
   · cases h
theorem jh{b o:Nat}(n:Nat):Addr.add ⟨b,o,none⟩ n=⟨b,o+n,none⟩:=by
 unfold Addr.add;split
 · rename_i h;subst h;rfl
 · rfl
theorem eK {d:Nat} (ih:∀ (t:TypeId) (ty:Ty),IM P d t=some ty→∀ (fuel:Nat) (cs:List Value) x,DataW.trod enc P W 0 (fun _=>true) true fuel t cs=some x→∀ (ι:Ao) (σ:Ac),HRel ι σ W→D4 σ→Q6 ι σ W ty cs)
 {e:TypeId} {te:Ty} (hte:IM P d e=some te) (hw:te.w=P.cellsOf e) {fuel b o:Nat} :
 ∀ (n:Nat),(∀ i,i<n→∃ cs x,W.cells? 0 ⟨b,o+i*te.w,none⟩ te.w=some cs∧DataW.trod enc P W 0 (fun _=>true) true fuel e cs=some x)→∀ (ι:Ao) (σ:Ac),HRel ι σ W→D4 σ →
   ∃ (ι':Ao) (ext:Ac) (bs:List V),HRel ι' (σ++ext) W∧Keeps ι σ ι' (σ++ext)∧D4 (σ++ext)∧bs.length=n*te.w∧(∀ i,i<n→Sh (σ++ext) te ((bs.drop (i*te.w)).take te.w)) ∧
     ∀ (j:Nat) v,bs[j]?=some v→v.cell=true∧∃ x,W.cell? ⟨b,o+j,none⟩=some x∧∀ β,Rel ι' (σ++ext) β v x
 |0,_,ι,σ,H0,hro=>⟨ι,[],[],by simpa using H0,by simpa using Keeps.refl ι σ,by simpa using hro,by simp,fun i hi=>absurd hi (Vq i),by simp⟩
 | n + 1,hn,ι,σ,H0,hro=>by
   obtain⟨ι1,e1,bs,H1,K1,R1,L1,S1,C1⟩:=eK ih hte hw n (fun i hi=>hn i (Nat.lt_succ_of_lt hi)) ι σ H0 hro;obtain⟨cs,x,hc,hx⟩:=hn n (Vw n);obtain⟨ι2,e2,vs,H2,K2,R2,S2,L2,C2⟩:=ih e te hte fuel cs x hx ι1 (σ++e1) H1 R1;obtain⟨_,hcl,hcg⟩:=World.cells?_some hc;refine⟨ι2,e1++e2,bs++vs,by rw[← B1];exact H2,by rw[← B1];exact K1.trans K2,by rw[← B1];exact R2,?_,fun i hi=>?_,fun j v hv=>?_⟩
   · rw[BM,L1,L2,hcl,Mi]
   · rw[← B1];by_cases h:i<n
     · have h1:(i+1)*te.w≤n*te.w:=Ix _ h;rw[Mi] at h1
       have:((bs++vs).drop (i*te.w)).take te.w=(bs.drop (i*te.w)).take te.w:=by
        rw[List.drop_append_of_le_length (by omega),List.take_append_of_le_length (by rw[Mq];omega)]
       rw[this];exact(S1 i h).mono
     · have:i=n:=by omega
       subst this
       have:((bs++vs).drop (i*te.w)).take te.w=vs:=by
        rw[← L1,List.drop_left,JT (by omega)]
       rw[this];exact S2
   · by_cases h:j<bs.length
     · rw[Bm h] at hv;obtain⟨q1,y,q2,q3⟩:=C1 j v hv;exact⟨q1,y,q2,fun β=>by rw[← B1];exact(q3 β).cellMono K2 q1⟩
     · rw[CJ (by omega)] at hv;have hlt:=Vm hv
       have hlt':j-bs.length<te.w:=by rw[← hcl,← L2];exact hlt
       have hg:=hcg (j-bs.length) hlt';rw[jh] at hg
       have e0:o+n*te.w+(j-bs.length)=o+j:=by omega
       rw[e0] at hg;obtain⟨y,hy⟩:∃ y,cs[j-bs.length]?=some y:=⟨_,AE (by omega)⟩;obtain⟨q1,q2⟩:=C2 _ v y hv hy;exact⟨q1,y,hg.trans hy,fun β=>by rw[← B1];exact q2 β⟩
theorem WS:∀ (d:Nat) (t:TypeId) (ty:Ty),IM P d t=some ty→∀ (fuel:Nat) (cs:List Value) x,DataW.trod enc P W 0 (fun _=>true) true fuel t cs=some x→∀ (ι:Ao) (σ:Ac),HRel ι σ W→D4 σ→Q6 ι σ W ty cs
 |0,_,_,h=>by simp[IM] at h
 | d + 1, t, ty,h=>by
   intro fuel cs x hx ι σ H0 hro
   have one:∀ (v:V) (y:Value),cs=[y]→v.cell=true→(∀ β,Rel ι σ β v y)→Sh σ ty [v]→Q6 ι σ W ty cs:=by
    intro v y hc hv hr hs;refine⟨ι,[],[v],by simpa using H0,by simpa using Keeps.refl ι σ,by simpa using hro,by simpa using hs,by rw[hc];rfl,fun i u z hu hz=>?_⟩;rw[hc] at hz
    cases i with
    |zero=>simp at hu hz;subst hu;subst hz;exact⟨hv,by simpa using hr⟩
    |succ i=>simp at hu
   unfold IM at h;split at h
   · rename_i k hu;cases h;obtain⟨n,hc,_,hwf⟩:=DataW.trod_int hu hx;exact one (.int k n) _ hc rfl (fun β=>.int k n) ⟨n,rfl,hwf⟩
   · rename_i hu;cases h;obtain⟨b,hc,_⟩:=DataW.trod_bool hu hx;exact one (.bool b) _ hc rfl (fun β=>.bool b) ⟨b,rfl⟩
   · rename_i hu;cases h;obtain⟨s,hc,_,hwf⟩:=DataW.trod_string hu hx;exact one (.str s.data.toList) _ hc rfl (fun β=>by have:=Rel.str (ι:=ι) (σ:=σ) (β:=β) s.data.toList;simpa using this) ⟨s.data.toList,rfl,by simpa using hwf⟩
   · rename_i e hu;split at h
     · rename_i te hte;split at h
       · rename_i hw;obtain⟨hw,hpos⟩:=hw;cases h;rcases DataW.trod_slice hu hx with⟨hc,_⟩|⟨a,len,cap,elems,rest,n,_,hc,_,_,hle,hcap,hel,hE,hR,_⟩
         · exact one .nils _ hc rfl (fun β=>.nils none) (.inl rfl)
         · obtain⟨hrl,hR⟩:=hR rfl
           have hcell:∀ i,i<cap→∃ cs' y,W.cells? 0 (a.add (i*P.cellsOf e)) (P.cellsOf e)=some cs'∧DataW.trod enc P W 0 (fun _=>true) true n e cs'=some y:=by
            intro i hi;by_cases h:i<len
            · have h1:=hE i h;obtain⟨y,hy⟩:∃ y,elems[i]?=some y:=⟨_,AE (by omega)⟩;rw[hy,B4] at h1;obtain⟨cs',h1,h2⟩:=h1;exact⟨cs',y,h1,h2⟩
            · have h1:=hR (i-len) (by omega);obtain⟨y,hy⟩:∃ y,rest[i-len]?=some y:=⟨_,AE (by omega)⟩;rw[hy,B4] at h1;obtain⟨cs',h1,h2⟩:=h1;rw[show len+(i-len)=i by omega] at h1;exact⟨cs',y,h1,h2⟩
           by_cases hc0:cap=0
           · subst hc0
             have:len=0:=by omega
             subst this;exact one .nils _ hc rfl (fun β=>.nils (some a)) (.inl rfl)
           · have hsp:a.spot=none∧a.block<W.heap.size:=by
              obtain⟨cs',y,h1,_⟩:=hcell 0 (by omega);obtain⟨_,h2,h3⟩:=World.cells?_some h1;have h4:=h3 0 (by omega);obtain⟨z,hz⟩:∃ z,cs'[0]?=some z:=⟨_,AE (by omega)⟩;rw[hz] at h4
              have h5:W.cell? a=some z:=by simpa [Addr.add] using h4
              exact⟨World.cell?_spot h5,qw h5⟩
             obtain⟨ab,ao,asp⟩:=a;obtain⟨hsp,hlt⟩:=hsp;simp only at hsp hlt;subst hsp
             have hcell':∀ i,i<len→∃ cs' y,W.cells? 0 ⟨ab,ao+i*te.w,none⟩ te.w=some cs'∧DataW.trod enc P W 0 (fun _=>true) true n e cs'=some y:=by
              intro i hi;have:=hcell i (by omega);rw[jh,← hw] at this;exact this
             obtain⟨ι1,e1,bs,H1,K1,R1,L1,S1,C1⟩:=eK (WS d) hte hw len hcell' ι σ H0 hro;obtain⟨H2,R2⟩:=H1.lay R1 (c:=cap*te.w) (wd:=te.w) hlt C1;have K2:=P1 ι1 (σ++e1) ⟨ab,ao,cap*te.w⟩ ⟨.ro,te.w,bs⟩
             have hg:((σ++e1)++[(⟨.ro,te.w,bs⟩:Blk)])[(σ++e1).length]?=some ⟨.ro,te.w,bs⟩:=by simp
             refine⟨_,e1++[⟨.ro,te.w,bs⟩],[.slice (σ++e1).length 0 len],by rw[← B1];exact H2,by rw[← B1];exact K1.trans K2,by rw[← B1];exact R2,.inr ⟨_,len,bs,rfl,by rw[← B1];exact hg,L1,by omega,fun i hi=>by rw[← B1];exact(S1 i hi).mono⟩,by rw[hc];rfl,fun i u z hu hz=>?_⟩;rw[hc] at hz
             cases i with
             | zero=>
               simp at hu hz;subst hu;subst hz;refine⟨rfl,fun β=>?_⟩;have:=Rel.slice (ι:=upd ι1 (σ++e1).length ⟨ab,ao,cap*te.w⟩) (σ:=(σ++e1)++[⟨.ro,te.w,bs⟩]) (β:=β) (σ++e1).length 0 len cap ⟨.ro,te.w,bs⟩ hg hle (by rw[Cb];simp) (by first|assumption|(simp only;omega));rw[Cb] at this;simpa using this
             |succ i=>simp at hu
       · cases h
     · cases h
   · rename_i fs hu;split at h
     · rename_i ty' hty;split at h
       · rename_i hw;cases h;obtain⟨xs,n,_,_,hl,hxl,hf⟩:=DataW.trod_struct hu hx
         have:=dL (enc:=enc) d (WS d) fs.toList 0 _ hty n cs (fun g hg=>by
          obtain⟨i,hi⟩:=Iz hg;have h1:=hf i g (by simpa using hi)
          have:i<xs.length:=by rw[hxl];have:=Vm hi;simpa using this
          exact⟨_,h1.trans (AE this)⟩) (by omega) ι σ H0 hro
         simpa using this
       · cases h
     · cases h
   · cases h
end
open Go.RowKit Go.WideShapes Go.ChangeShapes
def Z4(P:Program)(d:Nat)(t:TypeId):Option (Ty×Bool):=
 match IM P d t with
 | some ty=>(match P.underlying t with
   |some (.struct _)=>some (ty,true)
   |some (.int _)|some .bool|some .string|some (.slice _)=>some (ty,false)
   |_=>none)
 |none=>none
def Om(P:Program)(d:Nat):List TypeId→Option (List (Ty×Bool))
 |[]=>some []
 | t::r=>match Z4 P d t,Om P d r with
   |some a,some b=>some (a::b)
   |_,_=>none
def ArgOk(σ:Ac):Ty×Bool→V→Prop
 |(ty,true),v=>∃ cs,v= .agg cs∧Sh σ ty cs∧cs.all V.cell=true
 |(ty,false),v=>Sh σ ty [v]∧v.cell=true
def Oy(σ:Ac):List (Ty×Bool)→List V→Prop
 |[],[]=>True
 |a::r,v::s=>ArgOk σ a v∧Oy σ r s
 |_,_=>False
theorem ArgOk.mono{σ e:Ac}{a:Ty×Bool}{v:V}(h:ArgOk σ a v):ArgOk (σ++e) a v:=by
 obtain⟨ty,b⟩:=a
 cases b with
 |true=>obtain⟨cs,h1,h2,h3⟩:=h;exact⟨cs,h1,h2.mono,h3⟩
 |false=>exact⟨h.1.mono,h.2⟩
theorem ArgOk.noBox{σ:Ac}{a:Ty×Bool}{v:V}(h:ArgOk σ a v):∀ i o,v≠.box i o:=by
 obtain⟨ty,b⟩:=a;intro i o e;subst e
 cases b with
 |true=>obtain⟨cs,h1,_⟩:=h;cases h1
 |false=>have:=h.2;cases this
section
variable {H:Type} {enc:TypeId×Value→H} {P:Program} {W:World} {r:Reach} {base:Nat}
theorem uC {d:Nat} {t:TypeId} {a:Ty×Bool} (ha:Z4 P d t=some a) {v:Value} {dd:DataW H} {ps:List MemPlace} (h:DataW.Trod enc P W 0 (fun _=>true) true t v dd ps) (hok:Value.okWide P W r base t v)
 (ι:Ao) (σ:Ac) (H0:HRel ι σ W) (hro:D4 σ) :
 ∃ ι' e u,HRel ι' (σ++e) W∧Keeps ι σ ι' (σ++e)∧D4 (σ++e)∧ArgOk (σ++e) a u∧∀ β,Rel ι' (σ++e) β u v:=by
 unfold Z4 at ha
 split at ha
 · rename_i ty hty
   obtain⟨fuel,hx⟩:=h;obtain⟨ι',e,vs,h1,h2,h3,h4,h5,h6⟩:=WS d t ty hty fuel _ _ hx ι σ H0 hro
   have one:∀ (hc:v.cells=#[v]),a=(ty,false)→∃ ι' e u,HRel ι' (σ++e) W∧Keeps ι σ ι' (σ++e)∧D4 (σ++e)∧ArgOk (σ++e) a u∧∀ β,Rel ι' (σ++e) β u v:=by
    intro hc ea;rw[hc] at h5 h6
    match vs,h5,h4,h6 with
    | [u],_,h4,h6=>
      obtain⟨c1,c2⟩:=h6 0 u v rfl rfl;exact⟨ι',e,u,h1,h2,h3,by rw[ea];exact⟨h4,c1⟩,c2⟩
   split at ha
   · rename_i fs hu;cases ha;obtain⟨cs,rfl,_⟩:=okWide_struct hu hok;replace h5:vs.length=cs.toList.length:=h5;refine⟨ι',e,.agg vs,h1,h2,h3,⟨vs,rfl,h4,?_⟩,fun β=>?_⟩
     · rw[CR];intro u hu';obtain⟨i,hi⟩:=Iz hu'
       have:i<cs.toList.length:=by rw[← h5];exact Vm hi
       exact(h6 i u _ hi (AE this)).1
     · have:=Rel.agg (ι:=ι') (σ:=σ++e) (β:=β) vs cs.toList h5 (fun u hu'=>by
        obtain⟨i,hi⟩:=Iz hu'
        have:i<cs.toList.length:=by rw[← h5];exact Vm hi
        exact(h6 i u _ hi (AE this)).1) (fun i u w hi hw=>(h6 i u w hi hw).2 β)
       simpa using this
   · rename_i k hu;cases ha;obtain⟨n,rfl⟩:=okWide_int hu hok;exact one rfl rfl
   · rename_i hu;cases ha;obtain⟨n,rfl⟩:=okWide_bool hu hok;exact one rfl rfl
   · rename_i hu;cases ha;obtain⟨n,rfl⟩:=okWide_string hu hok;exact one rfl rfl
   · rename_i el hu;cases ha;obtain⟨x,y,z,rfl⟩:=okWide_slice hu hok;exact one rfl rfl
   · cases ha
 · cases ha
theorem fH{d:Nat}:∀ {ts:List TypeId} {tys:List (Ty×Bool)},Om P d ts=some tys→∀ {vs:List Value} {ds:List (DataW H)} {ps:List MemPlace},DataW.TrodAll enc P W 0 (fun _=>true) true ts vs ds ps →
 (∀ (j:Nat) t v,ts[j]?=some t→vs[j]?=some v→Value.okWide P W r base t v)→∀ (ι:Ao) (σ:Ac),HRel ι σ W→D4 σ →
 ∃ ι' e us,HRel ι' (σ++e) W∧Keeps ι σ ι' (σ++e)∧D4 (σ++e)∧Oy (σ++e) tys us∧us.length=vs.length∧∀ (i:Nat) u v,us[i]?=some u→vs[i]?=some v→(∀ j o,u≠.box j o)∧∀ β,Rel ι' (σ++e) β u v
 | [],tys,h,vs,ds,ps,hd,_,ι,σ,H0,hro=>by
   obtain⟨rfl,_,_⟩:=trodAll_nil hd
   cases h
   exact⟨ι,[],[],by simpa using H0,by simpa using Keeps.refl ι σ,by simpa using hro,trivial,rfl,by simp⟩
 | t :: ts,tys,h,vs,ds,ps,hd,hok,ι,σ,H0,hro=>by
   obtain⟨v,vs',x,ds',p,q,rfl,rfl,rfl,h1,h2⟩:=trodAll_cons hd
   unfold Om at h
   split at h
   · rename_i a b ha hb
     cases h
     obtain⟨ι1,e1,u,H1,K1,R1,A1,C1⟩:=uC ha h1 (hok 0 t v rfl rfl) ι σ H0 hro
     obtain⟨ι2,e2,us,H2,K2,R2,A2,L2,C2⟩:=fH hb h2 (fun j t' v' hj hv=>hok (j+1) t' v' hj hv) ι1 (σ++e1) H1 R1
     refine⟨ι2,e1++e2,u::us,by rw[← B1];exact H2,by rw[← B1];exact K1.trans K2,by rw[← B1];exact R2,by rw[← B1];exact⟨A1.mono,A2⟩,by simp[L2],fun i u' v' hu hv=>?_⟩
     rw[← B1]
     cases i with
     | zero=>
       simp at hu hv;subst hu;subst hv
       exact⟨A1.noBox,fun β=>(C1 β).mono K2 (fun j o e=>absurd e (A1.noBox j o))⟩
     |succ i=>exact C2 i u' v' (by simpa using hu) (by simpa using hv)
   · cases h
end
def Zs(P:Program)(ts:List TypeId):Bool:=ts.all fun t=>P.readableRec t&&decide (t<P.types.size)
theorem dF{H:Type}{enc:TypeId×Value→H}{P:Program}(hl:laidOutB P=true){W W':World}{sp':Nat→Bool}:∀ {ts:List TypeId} {vs:List Value} {ds:List (DataW H)} {ps:List MemPlace},Zs P ts=true →
 DataW.TrodAll enc P W 0 (fun _=>true) true ts vs ds ps→(∀ p∈ps,W.sameAt W' p)→(∀ p∈ps,sp' p.block=true)→DataW.TrodAll enc P W' 0 sp' true ts vs ds ps
 | [],vs,ds,ps,_,h,_,_=>by
   obtain⟨rfl,rfl,rfl⟩:=trodAll_nil h
   rfl
 | t::ts,vs,ds,ps,hr,h,h1,h2=>by
   obtain⟨v,vs',x,ds',p,q,rfl,rfl,rfl,g1,g2⟩:=trodAll_cons h
   unfold Zs at hr
   rw[Fv,Af,Af,Ar] at hr
   exact⟨p,q,WideElems.Trod_stays hl hr.1.1 hr.1.2 g1 (fun y hy=>h1 y (by simp[hy])) (fun y hy=>h2 y (by simp[hy])),dF hl hr.2 g2 (fun y hy=>h1 y (by simp[hy])) (fun y hy=>h2 y (by simp[hy])),rfl⟩
theorem qT {H:Type} {enc:TypeId×Value→H} {P:Program} {f:Func} {s:ChangeSpec} {apart fresh handsOn again:Bool} {W W':World} {args:Array Value} {v:Value} {ds gs:List (DataW H)} {before pa pv:List MemPlace}
 (hW:DataW.Whole enc P f.params.toList s.vars apart W args.toList ds gs before)
 (hres:∀ (b:Nat) (sp:Nat→Bool) (hd:Bool),DataW.TrodAll enc P W' b sp hd f.resultTypes.toList (v.resultList f.resultTypes.size) (s.fn H (ds++gs)).results [])
 (hargs:∀ sp:Nat→Bool,(∀ p∈before,sp p.block=true)→DataW.TrodAll enc P W' 0 sp true f.params.toList args.toList (s.fn H (ds++gs)).args pa)
 (hvars:∀ sp:Nat→Bool,(∀ p∈before,sp p.block=true)→DataW.TrodVars enc P W' sp s.vars (s.fn H (ds++gs)).vars pv)
 (hps:before=pa++pv) (hb:Below W.heap.size W W')
 (hok:∀ (j:Nat) (t:TypeId) (r:Value),f.resultTypes[j]?=some t→(v.resultList f.resultTypes.size)[j]?=some r→Value.okWide P W' .any 0 t r) :
 s.post enc P f apart fresh handsOn again W args v W':=by
 have hlt:∀ p∈before,p.block<W.heap.size:=fun p hp=>hW.lt p hp
 have hold:∀ p∈before,(fun b=>decide (b<W.heap.size)) p.block=true:=fun p hp=>by simpa using hlt p hp
 refine⟨ds,gs,before,[],pa,pv,hW,hres _ _ _,hargs _ hold,hvars _ hold,World.keptBut_mono (fun p hp=>⟨hp,?_⟩) (hb.frame (·∈before)),fun _=>?_⟩
 · rw[hps,B0] at hp
   exact Or.inr hp
 · obtain⟨_,_,_,_,_,hz,hn⟩:=hW
   refine⟨hok,_,_,([]++pa)++pv,⟨[]++pa,pv,trodAll_append (hargs _ (fun _ _=>rfl)) (hres _ _ _),hvars _ (fun _ _=>rfl),rfl,?_,?_⟩,?_⟩
   · intro b off hp
     have hin:MemPlace.cell b off∈before:=by rw[hps];simpa using hp
     rw[hb.frozen (hlt _ hin)];exact hz b off hin
   · intro ha;have:=hn ha;rw[hps] at this;simpa using this
   · intro p hp _;rw[hps];simpa using hp
theorem rp {H:Type} {enc:TypeId×Value→H} {P:Program} {f:FuncId} {fn:Func} {s:ChangeSpec} {apart fresh handsOn again:Bool} {sem:A8} {tys:List (Ty×Bool)} {d:Nat} {tb:TypeId}
 (hs:Aw P f sem) (has:Om P d fn.params.toList=some tys) (hrows:Zs P fn.params.toList=true) (hl:laidOutB P=true)
 (hres:fn.resultTypes=#[tb]) (htb:P.underlying tb=some .bool) (hvars:s.vars=[])
 (hspec:∀ ds:List (DataW H),ds.length=tys.length→s.fn H ds={ results:=[.lit (.bool true)],args:=ds })
 (law:∀ (σ:Ac) (us:List V),D4 σ→Oy σ tys us→sem us σ fun r _=>r= .bool true)
 {W:World} {base:Nat} {args:Array Value} {ds gs:List (DataW H)} {before:List MemPlace}
 (hval:∀ (j:Nat) t v,fn.params[j]?=some t→args[j]?=some v→Value.okWide P W .any base t v)
 (hW:DataW.Whole enc P fn.params.toList s.vars apart W args.toList ds gs before) (hgl:GlW P W) :
 Calls P f args W fun e W'=>∃ v,e= .returned v∧s.post enc P fn apart fresh handsOn again W args v W':=by
 have hW':=hW
 obtain⟨p,q,hA,hV,rfl,hfz,hnd⟩:=hW
 rw[hvars] at hV
 obtain⟨rfl,rfl⟩:=trodVars_none hV
 rw[Ol] at hW'
 obtain⟨ι,e,us,H1,_,R1,A1,L1,C1⟩:=fH (d:=d) has hA (fun j t v hj hv=>hval j t v (by simpa using hj) (by simpa using hv)) (fun _=>⟨0,0,0⟩) [] ⟨by simp,by simp,by simp,by simp⟩ (fun l b h=>by simp at h)
 simp only[Cq] at H1 R1 A1 C1
 have hc:=hs Phm.no ι e W us args.toList _ (.no e) (by rw[Qz];exact H1) (by rw[Qz];exact⟨L1,fun i u v hu hv=>(C1 i u v hu hv).2⟩) (law e us R1 A1) ⟨hgl,fun nm hn g hg l blk hl hk=>by rw[Qz] at hl;have:=R1 l blk hl;rw[hk] at this;cases this⟩
 have hlen:ds.length=tys.length:=by
  have h1:∀ {ts:List TypeId} {tys:List (Ty×Bool)},Om P d ts=some tys→tys.length=ts.length:=by
   intro ts
   induction ts with
   |nil=>intro tys h;cases h;rfl
   | cons t ts ih=>
     intro tys h;unfold Om at h;split at h
     · rename_i a b _ hb;cases h;simp[ih hb]
     · cases h
  have h2:∀ {ts:List TypeId} {vs:List Value} {ds:List (DataW H)} {ps:List MemPlace},DataW.TrodAll enc P W 0 (fun _=>true) true ts vs ds ps→ds.length=ts.length:=by
   intro ts
   induction ts with
   |nil=>intro vs ds ps h;obtain⟨_,rfl,_⟩:=trodAll_nil h;rfl
   | cons t ts ih=>
     intro vs ds ps h;obtain⟨v,vs',x,ds',p,q,rfl,rfl,rfl,_,g2⟩:=trodAll_cons h;simp[ih g2]
  rw[h1 has,h2 hA]
 refine(Calls.mono (by simpa using hc) fun en W' hd=>?_:Calls P f args W _)
 obtain⟨x,r,σ',ι',rfl,rfl,_,hx,_,hstep⟩:=hd
 rw[Qz,Qz] at hstep
 have hx':=hx (fun _=>0)
 cases hx'
 have hb:Below W.heap.size W W':=⟨hstep.os,hstep.tape,hstep.output,hstep.size,fun k hk=>hstep.frame k hk fun l blk hl hk'=>by have:=R1 l blk hl;rw[hk'] at this;cases this⟩
 have hfn:=hspec (ds++[]) (by simpa using hlen)
 have hlt:∀ x∈p,x.block<W.heap.size:=fun x hx=>hW'.lt x hx
 refine⟨_,rfl,qT (pa:=p) (pv:=[]) hW' (fun _ _ _=>?_) (fun sp hsp=>?_) (fun sp _=>?_) (by simp) hb (ok_one hres rfl (okWide_bool_mk htb true))⟩
 · rw[hfn,hres]
   exact trodAll_cons_mk (shut_bool htb true) trodAll_mk0
 · rw[hfn]
   simp only[Ol];exact dF hl hrows hA (fun x hx=>hb.same (hlt x hx)) hsp
 · rw[hfn,hvars]
   rfl
open Go.ChangeShapes
mutual
def CT.wf:(t:CT)→t.D→Prop
 |.int k,n=>(Lit.int k n).wf=true
 |.bool,_=>True
 |.str,s=>s.length≤maxLen
 |.ifc,_=>True
 |.sl r,l=>@List.length r.D l≤maxLen∧∀ x:r.D,@Membership.mem r.D (List r.D) inferInstance l x→RT.wf r x
def RT.wf:(r:RT)→r.D→Prop
 |.one t,x=>CT.wf t x
 |.cons t r,x=>CT.wf t x.1∧RT.wf r x.2
end
def AgX.wf:(l:List (Ql×CT))→AgX l→Prop
 |[],_=>True
 |[a],x=>a.2.wf x
 |a::b::r,x=>a.2.wf x.1∧AgX.wf (b::r) x.2
def HT.wf:(h:HT)→h.D→Prop
 |.one _ t,x=>t.wf x
 |.agg l,x=>AgX.wf l x
def TuX.wf:(l:List HT)→TuX l→Prop
 |[],_=>True
 |[a],x=>a.wf x
 |a::b::r,x=>a.wf x.1∧TuX.wf (b::r) x.2
def Gj:List CT→RT
 |[]=>.one .bool
 |[a]=>.one a
 |a::b::r=>.cons a (Gj (b::r))
def Ty.cts:Ty→List CT
 |.int k=>[.int k]
 |.bool=>[.bool]
 |.str=>[.str]
 |.sl t=>[.sl (Gj t.cts)]
 |.unit=>[]
 |.pair a b=>a.cts++b.cts
def Ty.good:Ty→Bool
 |.sl t=>Nat.blt 0 t.w&&t.good
 |.pair a b=>a.good&&b.good
 |_=>true
def Lj:Ty×Bool→HT
 |(ty,true)=>.agg (ty.cts.map fun t=>(.frz,t))
 |(ty,false)=>match ty.cts with|[c]=>.one .frz c|_=>.agg []
def U0:Ty×Bool→Bool
 |(ty,true)=>ty.good
 |(ty,false)=>ty.good&&ty.cts.length == 1
def DL:List CT→Type
 |[]=>Unit
 |a::r=>a.D×DL r
def DL.wf:(l:List CT)→DL l→Prop
 |[],_=>True
 |a::r,x=>a.wf x.1∧DL.wf r x.2
def DL.enc:(l:List CT)→DL l→List PV
 |[],_=>[]
 |a::r,x=>CT.enc a x.1::DL.enc r x.2
def DL.encF:(l:List CT)→DL l→List PV
 |[],_=>[]
 |a::r,x=>(CT.dv .frz a x.1).enc::DL.encF r x.2
def DL.app:(l m:List CT)→DL l→DL m→DL (l++m)
 |[],_,_,y=>y
 |_::l,m,x,y=>(x.1,DL.app l m x.2 y)
theorem DL.app_enc:∀ (l m:List CT) (x:DL l) (y:DL m),DL.enc (l++m) (DL.app l m x y)=DL.enc l x++DL.enc m y
 |[],_,_,_=>rfl
 | a::l,m,x,y=>by
   show CT.enc a x.1::DL.enc (l++m) (DL.app l m x.2 y)=CT.enc a x.1::(DL.enc l x.2++DL.enc m y)
   rw[DL.app_enc l m x.2 y]
theorem DL.app_encF:∀ (l m:List CT) (x:DL l) (y:DL m),DL.encF (l++m) (DL.app l m x y)=DL.encF l x++DL.encF m y
 |[],_,_,_=>rfl
 | a::l,m,x,y=>by
   show (CT.dv .frz a x.1).enc::DL.encF (l++m) (DL.app l m x.2 y)=(CT.dv .frz a x.1).enc::(DL.encF l x.2++DL.encF m y)
   rw[DL.app_encF l m x.2 y]
theorem DL.app_wf:∀ (l m:List CT) (x:DL l) (y:DL m),DL.wf l x→DL.wf m y→DL.wf (l++m) (DL.app l m x y)
 |[],_,_,_,_,h=>h
 |_::l,m,x,y,h,h'=>⟨h.1,DL.app_wf l m x.2 y h.2 h'⟩
theorem DL.len:∀ (l:List CT) (x:DL l),(DL.enc l x).length=l.length
 |[],_=>rfl
 |_::l,x=>by show _+1=_+1;rw[DL.len l x.2]
theorem DL.lenF:∀ (l:List CT) (x:DL l),(DL.encF l x).length=l.length
 |[],_=>rfl
 |_::l,x=>by show _+1=_+1;rw[DL.lenF l x.2]
def DL.rt:(l:List CT)→DL l→(Gj l).D
 |[],_=>false
 |[_],x=>x.1
 |_::b::r,x=>(x.1,DL.rt (b::r) x.2)
theorem DL.rt_enc:∀ (l:List CT) (x:DL l),l≠[]→RT.enc (Gj l) (DL.rt l x)=DL.enc l x
 |[],_,h=>absurd rfl h
 |[_],_,_=>rfl
 | a::b::r,x,_=>by
   show CT.enc a x.1::RT.enc (Gj (b::r)) (DL.rt (b::r) x.2)=CT.enc a x.1::DL.enc (b::r) x.2
   rw[DL.rt_enc (b::r) x.2 (by simp)]
theorem DL.rt_wf:∀ (l:List CT) (x:DL l),l≠[]→DL.wf l x→RT.wf (Gj l) (DL.rt l x)
 |[],_,h,_=>absurd rfl h
 |[_],_,_,h=>h.1
 |a::b::r,x,_,h=>⟨h.1,DL.rt_wf (b::r) x.2 (by simp) h.2⟩
def DL.ag:(l:List CT)→DL l→AgX (l.map fun t=>(Ql.frz,t))
 |[],_=>()
 |[_],x=>x.1
 |_::b::r,x=>(x.1,DL.ag (b::r) x.2)
theorem DL.ag_enc:∀ (l:List CT) (x:DL l),DV.encL (CN (l.map fun t=>(Ql.frz,t)) (DL.ag l x))=DL.encF l x
 |[],_=>rfl
 |[_],_=>rfl
 | a::b::r,x=>by
   show (CT.dv .frz a x.1).enc::DV.encL (CN ((b::r).map fun t=>(Ql.frz,t)) (DL.ag (b::r) x.2))=(CT.dv .frz a x.1).enc::DL.encF (b::r) x.2
   rw[DL.ag_enc (b::r) x.2]
theorem DL.ag_wf:∀ (l:List CT) (x:DL l),DL.wf l x→AgX.wf (l.map fun t=>(Ql.frz,t)) (DL.ag l x)
 |[],_,_=>trivial
 |[_],_,h=>h.1
 |a::b::r,x,h=>⟨h.1,DL.ag_wf (b::r) x.2 h.2⟩
theorem JK:∀ (t:Ty),t.cts.length=t.w
 |.int _|.bool|.str|.sl _|.unit=>rfl
 |.pair a b=>by simp only[Ty.cts,Ty.w,BM,JK a,JK b]
def ωro(σ:Ac):Nat→W:=fun l=>if l<σ.length then .frz else .none
theorem ωro_frz{σ:Ac}{l:Nat}{b:Blk}(h:σ[l]?=some b):ωro σ l= .frz:=by
 unfold ωro;rw[Ab (BV h)]
theorem Tc:∀ (a b:List PV) (i:Nat),i<a.length→Aa (a++b) i=Aa a i
 |[],_,_,h=>by cases h
 |_::_,_,0,_=>rfl
 |_::a,b,i+1,h=>Tc a b i (by simpa using h)
theorem S8:∀ (a b:List PV) (i:Nat),Aa (a++b) (a.length+i)=Aa b i
 |[],_,_=>by simp
 | _::a,b,i=>by
   have:=S8 a b i
   simp only[CK,AB,Zn]
   exact this
theorem W3:∀ (a b:List V) (i:Nat),i<a.length→get (a++b) i=get a i
 |[],_,_,h=>by cases h
 |_::_,_,0,_=>rfl
 |_::a,b,i+1,h=>W3 a b i (by simpa using h)
theorem WT:∀ (a b:List V) (i:Nat),get (a++b) (a.length+i)=get b i
 |[],_,_=>by simp
 | _::a,b,i=>by
   have:=WT a b i
   simp only[CK,AB,Zn]
   exact this
theorem W0:∀ (l:List V) (o n i:Nat),i<n→get ((l.drop o).take n) i=get l (o+i)
 |[],o,n,i,_=>by simp[get]
 |c::r,0,0,i,h=>by cases h
 |c::r,0,n+1,0,_=>rfl
 | c::r,0,n+1,i+1,h=>by
   have:=W0 r 0 n i (by omega)
   simp only[Br] at this
   simp only[GN,Zb,get,Br]
   simpa using this
 | c::r,o+1,n,i,h=>by
   have:=W0 r o n i h
   rw[List.drop_succ_cons,this,Zn]
   rfl
theorem ga{w:Nat}:∀ (es:List (List PV)) (i j:Nat),(∀ e∈es,e.length=w)→j<w→i<es.length→Aa es.flatten (i*w+j)=Aa (AW es i) j
 |[],i,_,_,_,h=>by cases h
 | e::r,0,j,hw,hj,_=>by
   have he:=hw e (Fw ..)
   rw[JY,Br,GK,Tc _ _ _ (by omega)]
   rfl
 | e::r,i+1,j,hw,hj,h=>by
   have he:=hw e (Fw ..)
   rw[GK,show (i+1)*w+j=e.length+(i*w+j) by rw[he,Mi];omega,S8]
   exact ga r i j (fun e h=>hw e (List.mem_cons_of_mem _ h)) hj (by simpa using h)
theorem gW {α:Type}(f:α→List PV):∀ (l:List α) (i:Nat) (h:i<l.length),AW (l.map f) i=f l[i]
 |[],_,h=>by cases h
 |_::_,0,_=>rfl
 |_::l,i+1,h=>gW f l i (by simpa using h)
theorem QA{σ:Ac}:∀ (ty:Ty) {cs:List V},ty.good=true→Sh σ ty cs→∃ x:DL ty.cts,DL.wf ty.cts x ∧
 (∀ i,RC σ (ωro σ) .fz (Aa (DL.enc ty.cts x) i) (get cs i))∧∀ i hd p,RC σ (ωro σ) (.at hd p) (Aa (DL.encF ty.cts x) i) (get cs i)
 | .int k,cs,_,⟨n,h,hw⟩=>by
   subst h;exact⟨(n,()),⟨hw,trivial⟩,fun i=>by cases i<;>first|exact .v _ _ rfl|exact .undef _ _,fun i hd p=>by cases i<;>first|exact .v _ _ rfl|exact .undef _ _⟩
 | .bool,cs,_,⟨b,h⟩=>by
   subst h;exact⟨(b,()),⟨trivial,trivial⟩,fun i=>by cases i<;>first|exact .v _ _ rfl|exact .undef _ _,fun i hd p=>by cases i<;>first|exact .v _ _ rfl|exact .undef _ _⟩
 | .str,cs,_,⟨s,h,hl⟩=>by
   subst h;exact⟨(s,()),⟨hl,trivial⟩,fun i=>by cases i<;>first|exact .v _ _ rfl|exact .undef _ _,fun i hd p=>by cases i<;>first|exact .v _ _ rfl|exact .undef _ _⟩
 | .unit,cs,_,h=>by
   have h:cs=[]:=h;subst h;exact⟨(),trivial,fun i=>.undef _ _,fun i hd p=>.undef _ _⟩
 | .pair a b,cs,hg,⟨xs,ys,h,h1,h2⟩=>by
   simp only[Ty.good,Af] at hg;obtain⟨x,x1,x2,x3⟩:=QA a hg.1 h1;obtain⟨y,y1,y2,y3⟩:=QA b hg.2 h2;have hl:=h1.len;subst h;refine⟨DL.app _ _ x y,DL.app_wf _ _ x y x1 y1,fun i=>?_,fun i hd p=>?_⟩
   · simp only[Ty.cts];rw[DL.app_enc];by_cases hi:i<a.w
     · rw[Tc _ _ _ (by rw[DL.len,JK];exact hi),W3 _ _ _ (by rw[hl];exact hi)];exact x2 i
     · obtain⟨j,rfl⟩:=Nat.exists_eq_add_of_le (Nat.le_of_not_lt hi);have e1:=S8 (DL.enc a.cts x) (DL.enc b.cts y) j;have e2:=WT xs ys j;rw[DL.len,JK] at e1;rw[hl] at e2;rw[e1,e2];exact y2 j
   · simp only[Ty.cts];rw[DL.app_encF];by_cases hi:i<a.w
     · rw[Tc _ _ _ (by rw[DL.lenF,JK];exact hi),W3 _ _ _ (by rw[hl];exact hi)];exact x3 i hd p
     · obtain⟨j,rfl⟩:=Nat.exists_eq_add_of_le (Nat.le_of_not_lt hi);have e1:=S8 (DL.encF a.cts x) (DL.encF b.cts y) j;have e2:=WT xs ys j;rw[DL.lenF,JK] at e1;rw[hl] at e2;rw[e1,e2];exact y3 j hd p
 | .sl t,cs,hg,h=>by
   simp only[Ty.good,Af] at hg;have hw0:0<t.w:=CH hg.1
   have hne:t.cts≠[]:=by intro e;have:=JK t;rw[e] at this;simp only[AD] at this;omega
   rcases h with h|⟨l,n,bs,h,hb,hbl,hn,he⟩
   · subst h;refine⟨(([]:List (Gj t.cts).D),()),⟨⟨ED _,fun x hx=>by cases hx⟩,trivial⟩,fun i=>?_,fun i hd p=>?_⟩
     · cases i<;>first|exact .nil _ _|exact .undef _ _
     · cases i<;>first|exact .nil _ _|exact .undef _ _
   · subst h
     have ex:∀ i,∃ x:DL t.cts,i<n→DL.wf t.cts x∧(∀ k,RC σ (ωro σ) .fz (Aa (DL.enc t.cts x) k) (get ((bs.drop (i*t.w)).take t.w) k)):=by
      intro i;by_cases hi:i<n
      · obtain⟨x,h1,h2,_⟩:=QA t hg.2 (he i hi);exact⟨x,fun _=>⟨h1,h2⟩⟩
      · have h0:∀ l:List CT,Nonempty (DL l):=by
         intro l
         induction l with
         |nil=>exact⟨()⟩
         |cons a r ih=>obtain⟨y⟩:=ih;exact⟨(a.dflt,y)⟩
        obtain⟨y⟩:=h0 t.cts;exact⟨y,fun h=>absurd h hi⟩
     let f:Nat→DL t.cts:=fun i=>Classical.choose (ex i)
     have hf:∀ i,i<n→DL.wf t.cts (f i)∧∀ k,RC σ (ωro σ) .fz (Aa (DL.enc t.cts (f i)) k) (get ((bs.drop (i*t.w)).take t.w) k):=fun i hi=>Classical.choose_spec (ex i) hi
     let L:List (Gj t.cts).D:=(List.range n).map fun i=>DL.rt t.cts (f i)
     have hL:L.length=n:=by simp[L]
     have hLw:∀ e∈L.map (RT.enc (Gj t.cts)),e.length=t.w:=by
      intro e he;obtain⟨y,hy,rfl⟩:=List.mem_map.mp he;obtain⟨i,_,rfl⟩:=List.mem_map.mp hy;rw[DL.rt_enc _ _ hne,DL.len,JK]
     have hcell:∀ k,k<L.length*t.w→RC σ (ωro σ) .fz (Aa (L.map (RT.enc (Gj t.cts))).flatten k) (get bs (0+k)):=by
      intro k hk
      have hdm:k / t.w*t.w+k % t.w=k:=by rw[Vj];exact VD k t.w
      have hmod:=JU k hw0
      have hdiv:k / t.w<n:=by rw[hL] at hk;exact(Vk hw0).2 hk
      have e1:=ga (L.map (RT.enc (Gj t.cts))) (k / t.w) (k % t.w) hLw hmod (by rw[AL,hL];exact hdiv);rw[hdm] at e1;rw[e1,gW _ _ _ (by rw[hL];exact hdiv),Br];have e2:=W0 bs (k / t.w*t.w) t.w (k % t.w) hmod;rw[hdm] at e2
      have e3:L[k / t.w]'(by rw[hL];exact hdiv)=DL.rt t.cts (f (k / t.w)):=by simp[L]
      rw[e3,DL.rt_enc _ _ hne,← e2];exact(hf _ hdiv).2 _
     have hwf:∀ x∈L,RT.wf (Gj t.cts) x:=by
      intro x hx;obtain⟨i,hi,rfl⟩:=List.mem_map.mp hx;exact DL.rt_wf _ _ hne (hf i (List.mem_range.mp hi)).1
     have hle:0+(L.map (RT.enc (Gj t.cts))).length*t.w≤bs.length:=by rw[AL,hL,hbl];omega
     refine⟨(L,()),⟨⟨by rw[hL];exact hn,hwf⟩,trivial⟩,fun i=>?_,fun i hd p=>?_⟩
     · cases i with
       |succ i=>exact .undef _ _
       |zero=>exact .sl _ _ _ _ _ _ _ hb (by simp) (ωro_frz hb) (fun e=>by cases e) (by rw[AL,hL]) hLw hle fun k hk=>hcell k (by rw[AL] at hk;exact hk)
     · cases i with
       |succ i=>exact .undef _ _
       |zero=>exact .sl _ _ _ _ _ _ _ hb (by simp) (ωro_frz hb) (fun _ e=>by rcases e with e|⟨_,_,e⟩<;>cases e) (by rw[AL,hL]) hLw hle fun k hk=>hcell k (by rw[AL] at hk;exact hk)
structure ArgD (σ:Ac) (v:PV) (u:V):Prop where
 rc:∀ hd p c,RC σ (ωro σ) (.at hd p) (v.fcell c) (u.fcell c)
 sh:AZ v u
 nx:∀ c i pb tp,(v.fcell c).q≠some (.bor (.x i) pb tp)
theorem xD{v:V}(h:v.cell=true):(∀ us,v≠.agg us)∧∀ us,v≠.tup us:=by
 constructor<;>rintro us rfl<;>cases h
theorem Z6:∀ (l:List CT) (x:DL l) (i:Nat) (a:Hd) (pb:List Nat) (tp:Bool),(Aa (DL.encF l x) i).q≠some (.bor a pb tp)
 |[],_,_,_,_,_=>by simp[DL.encF,Aa,PV.q]
 |c::r,x,0,a,pb,tp=>by cases c<;>simp[DL.encF,Aa,CT.dv,DV.enc,PV.q]
 |_::r,x,i+1,a,pb,tp=>Z6 r x.2 i a pb tp
theorem iP{σ:Ac}{a:Ty×Bool}{u:V}(hg:U0 a=true)(h:ArgOk σ a u):∃ x:(Lj a).D,(Lj a).wf x∧ArgD σ ((Lj a).dv x).enc u:=by
 obtain⟨ty,b⟩:=a
 cases b with
 | true=>
   obtain⟨cs,rfl,hs,hc⟩:=h;obtain⟨x,h1,_,h3⟩:=QA ty hg hs;have hle:=hs.len;refine⟨DL.ag ty.cts x,DL.ag_wf _ _ h1,?_⟩
   have he:((Lj (ty,true)).dv (DL.ag ty.cts x)).enc= .agg (DL.encF ty.cts x):=by
    show PV.agg _=PV.agg _;rw[DL.ag_enc]
   rw[he];refine⟨fun hd p c=>?_,⟨cs,rfl,by rw[hle,DL.lenF,JK]⟩,fun c i pb tp=>?_⟩
   · match c with
     |[]=>exact .undef _ _
     |[c]=>exact h3 c hd p
     |_::_::_=>exact .undef _ _
   · match c with
     |[]=>simp[PV.fcell,PV.q]
     |[c]=>exact Z6 _ _ _ _ _ _
     |_::_::_=>simp[PV.fcell,PV.q]
 | false =>
   obtain⟨hs,hc⟩:=h;simp only[U0,Af,AY] at hg;obtain⟨x,h1,_,h3⟩:=QA ty hg.1 hs
   have key:∀ (l:List CT) (x:DL l),l.length=1→DL.wf l x→(∀ i hd p,RC σ (ωro σ) (.at hd p) (Aa (DL.encF l x) i) (get [u] i)) →
    ∃ y:(match l with|[c]=>HT.one .frz c|_=>HT.agg []).D,(match l with|[c]=>HT.one .frz c|_=>HT.agg []).wf y∧ArgD σ ((match l with|[c]=>HT.one .frz c|_=>HT.agg []).dv y).enc u:=by
    intro l x hl hwf h3
    match l,x,hl,hwf,h3 with
    | [c],x,_,hwf,h3=>
      have hsc:=xD hc
      have hnf:∀ p,p≠[0]→((CT.dv .frz c x.1).enc).fcell p= .fl .undef:=by
       intro p hp;cases c<;>(match p with|[]=>rfl|[0]=>exact absurd rfl hp|(_+1)::_=>rfl|0::_::_=>rfl)
      have hf0:((CT.dv .frz c x.1).enc).fcell [0]=(CT.dv .frz c x.1).enc:=by cases c<;>rfl
      have hu0:u.fcell [0]=u:=by cases u<;>first|rfl|exact absurd rfl (hsc.1 _)|exact absurd rfl (hsc.2 _)
      refine⟨x.1,hwf.1,⟨fun hd p q=>?_,?_,fun q i pb tp=>?_⟩⟩
      · by_cases hq:q=[0]
        · subst hq;show RC σ (ωro σ) (.at hd p) (((CT.dv .frz c x.1).enc).fcell [0]) (u.fcell [0]);rw[hf0,hu0];exact h3 0 hd p
        · show RC σ (ωro σ) (.at hd p) (((CT.dv .frz c x.1).enc).fcell q) (u.fcell q);rw[hnf q hq];exact .undef _ _
      · show AZ ((CT.dv .frz c x.1).enc) u;cases c<;>exact hsc
      · show (((CT.dv .frz c x.1).enc).fcell q).q≠_;by_cases hq:q=[0]
        · subst hq;rw[hf0];exact Z6 [c] x 0 _ _ _
        · rw[hnf q hq];simp[PV.q]
   exact key ty.cts x hg.2 h1 h3
theorem XR{σ:Ac}:∀ {tys:List (Ty×Bool)} {us:List V},tys.all U0=true→Oy σ tys us→∃ x:TuX (tys.map Lj),TuX.wf _ x∧us.length=tys.length ∧
 ∀ t,ArgD σ (Aa (DV.encL (C9 (tys.map Lj) x)) t) (get us t)
 |[],[],_,_=>⟨(),trivial,rfl,fun t=>⟨fun hd p c=>by
  have:(PV.fl V.undef).fcell c= .fl .undef:=by match c with|[]=>rfl|[0]=>rfl|(_+1)::_=>rfl|0::_::_=>rfl
  show RC σ (ωro σ) (.at hd p) ((PV.fl V.undef).fcell c) _
  rw[this];exact .undef _ _,trivial,fun c i pb tp=>by
  have:(PV.fl V.undef).fcell c= .fl .undef:=by match c with|[]=>rfl|[0]=>rfl|(_+1)::_=>rfl|0::_::_=>rfl
  show ((PV.fl V.undef).fcell c).q≠_
  rw[this];simp[PV.q]⟩⟩
 | [a],[u],hg,h=>by
   simp only[Fv,List.all_nil,Mz] at hg;obtain⟨x,h1,h2⟩:=iP hg h.1;obtain⟨_,_,_,h4⟩:=XR (σ:=σ) (tys:=[]) (us:=[]) rfl trivial;refine⟨x,h1,rfl,fun t=>?_⟩
   cases t with
   |zero=>exact h2
   |succ t=>exact h4 t
 | a::b::r,u::us,hg,h=>by
   rw[Fv,Af] at hg;obtain⟨x,h1,h2⟩:=iP hg.1 h.1;obtain⟨y,h3,h4,h5⟩:=XR (tys:=b::r) (us:=us) hg.2 h.2;refine⟨(x,y),⟨h1,h3⟩,by simp[h4],fun t=>?_⟩
   cases t with
   |zero=>exact h2
   |succ t=>exact h5 t
 |[_],_::_::_,_,h=>h.2.elim
 |[_],[],_,h=>h.elim
 |_::_::_,[],_,h=>h.elim
 |[],_::_,_,h=>h.elim
theorem zH{σ:Ac}{as:List PV}{us:List V}(hl:as.length=us.length)(h:∀ t,ArgD σ (Aa as t) (get us t)):RS σ (ωro σ) (ωro σ) (fun _=>0) ⟨as,[],[]⟩ ⟨us,[],σ⟩ X0:=by
 have no:∀ l hd p,ωro σ l≠.own hd p:=by intro l hd p e;unfold ωro at e;split at e<;>cases e
 have nop:∀ l i,ωro σ l≠.ptr i:=by intro l i e;unfold ωro at e;split at e<;>cases e
 have hund:∀ c,(PV.fl V.undef).fcell c= .fl .undef:=by
  intro c;match c with|[]=>rfl|[0]=>rfl|(_+1)::_=>rfl|0::_::_=>rfl
 have cat:∀ (c:List Nat) (l:List V),(Bd [] l c).1= .fl .undef:=by
  intro c l;match c with|[]=>rfl|[_]=>rfl|_::_::_=>rfl
 refine⟨⟨fun hd p=>?_,fun l l' hd p e=>absurd e (no l hd p),fun l l' i e=>absurd e (nop l i),fun l e=>?_,fun l e=>?_⟩,fun t=>(h t).sh,fun i=>trivial,hl,rfl,fun i=>rfl,fun i c=>rfl,fun i c=>rfl,fun i hi=>(by cases hi),fun l i e=>absurd e (nop l i),fun l i p e=>absurd e (no l _ p),⟨AU _,fun l _ _=>⟨rfl,rfl⟩,fun l hlt e=>(by rw[e];simp),fun l i e=>e⟩,fun hd p i pb tp=>?_⟩
 · cases hd with
   |s t=>exact(h t).rc _ _ _
   |b i=>show RC σ (ωro σ) _ (Bd [] (A6 [] i) p).1 _;rw[cat];exact .undef _ _
   |h i=>show RC σ (ωro σ) _ (Bd [] _ p).1 _;rw[cat];exact .undef _ _
   |x i=>show RC σ (ωro σ) _ ((PV.fl V.undef).fcell p) _;rw[hund];exact .undef _ _
 · rcases e with⟨hd,p,e⟩|⟨i,e⟩
   · exact absurd e (no l hd p)
   · exact absurd e (nop l i)
 · unfold ωro at e;split at e
   · assumption
   · cases e
 · cases hd with
   |s t=>exact(h t).nx p i pb tp
   |b j=>show (Bd [] (A6 [] j) p).1.q≠_;rw[cat];simp[PV.q]
   |h j=>show (Bd [] _ p).1.q≠_;rw[cat];simp[PV.q]
   |x j=>show ((PV.fl V.undef).fcell p).q≠_;rw[hund];simp[PV.q]
theorem yG {f:DFun} {tys:List (Ty×Bool)} {hs:List HT} {s:A8} (hsp:Dh s (DH f.er)) (hhs:tys.map Lj=hs) (hg:tys.all U0=true) (ho:AllD f.body.obs)
 (hst:OO f hs (.one (.one .own .bool))=true) (hc:∀ x,Oz f hs (.one (.one .own .bool)) x=true)
 (law:∀ x:TuX hs,TuX.wf hs x→MF f hs (.one (.one .own .bool)) x∧MQ f hs (.one (.one .own .bool)) x=true) (σ:Ac) (us:List V) (hro:D4 σ) (ha:Oy σ tys us):s us σ fun r _=>r= .bool true:=by
 subst hhs
 obtain⟨x,h1,h2,h3⟩:=XR hg ha
 obtain⟨l1,l2⟩:=law x h1
 have hlen:(DV.encL (C9 (tys.map Lj) x)).length=us.length:=by rw[Et,N3,AL,h2]
 refine hsp σ (ωro σ) (fun _=>0) _ us [] (fun r _=>r= .fl (.bool true)) _ (zH hlen h3) (fun l hd p e=>?_) ?_ fun u h' r H' ω' ρ' hQ R' _=>?_
 · exfalso;unfold ωro at e;split at e<;>cases e
 · refine iI ho hst x (hc x) l1 fun H=>?_
   rw[l2];rfl
 · subst hQ
   have r:=R'.core.rc (.x 0) [0];have hs:=R'.shx 0;have r:RC h' ω' (.at (.x 0) [0]) (.fl (.bool true)) (u.fcell [0]):=r
   have hu:u.fcell [0]=u:=by
    have hs:AZ (.fl (.bool true)) u:=hs
    cases u<;>first|rfl|exact absurd rfl (hs.1 _)|exact absurd rfl (hs.2 _)
   rw[hu] at r;cases r;rfl
def rk(pu:Bool)(res:List ARes)(h0:Ac)(Q:V→Ac→Prop):Fi:=VY ⟨0,0,0,pu,res,.skip⟩ h0 Q
@[congr] theorem Zaf {c:ACode} {k:Fi} {st st':St} (h:st=st'):D8 c k st=D8 c k st':=by rw[h]
@[congr] theorem Zab {o:List AOper} {k:St→Prop} {st st':St} (h:st=st'):CM o k st=CM o k st':=by rw[h]
@[congr] theorem Zae {o:AOp} {d:Option Nat} {k:St→Prop} {st st':St} (h:st=st'):Bf o d k st=Bf o d k st':=by rw[h]
@[congr] theorem Zac {n:St→Prop} {k:Fi} {e e':AExit} {st st':St} (he:e=e') (h:st=st'):MJ n k e st=MJ n k e' st':=by rw[he,h]
@[congr] theorem z7 {i:Nat} {k:Fi} {e e':AExit} {st st':St} (he:e=e') (h:st=st'):Oi i k e st=Oi i k e' st':=by rw[he,h]
@[congr] theorem Zag {pu:Bool} {res:List ARes} {h0:Ac} {Q:V→Ac→Prop} {e e':AExit} {st st':St} (he:e=e') (h:st=st'):rk pu res h0 Q e st=rk pu res h0 Q e' st':=by rw[he,h]
def zw:V→Option V
 |.nils=>some (.int .i64 0)
 |.slice _ _ n=>some (.int .i64 n)
 |_=>none
def jJ(hp:Ac)(n:Option Nat):V→Option V
 |.ptr l o=>(rd hp l o (n.getD 1)).bind fun cs=>Dj n cs
 |_=>none
def XS(bx:List (List V))(hp:Ac)(n:Nat)(a x:V):Option (V×List (List V)×Ac):=match a with
 |.ptr l o=>if x.cells.length=n∧x.cells.all V.cell then (wr hp l o x.cells).bind fun h=>some (.undef,bx,h) else none
 |_=>none
theorem bind_some{α:Type}(o:Option α):(o.bind fun x=>some x)=o:=by cases o<;>rfl
section
variable {α:Type}
def OT(f:α→Int→α×Int):List α→Int→List α×Int
 |[],m=>([],m)
 |a::r,m=>((f a m).1::(OT f r (f a m).2).1,(OT f r (f a m).2).2)
end
def zb:IntKind→Int→Int
 |.i64,m=>m
 |k,m=>k.wrap m
mutual
def CT.mkI:(t:CT)→t.D→Int→t.D×Int
 |.int k,_,m=>(zb k m,IntKind.i64.wrap (m+1))
 |.bool,_,m=>((m.tmod 3 == 0:Bool),IntKind.i64.wrap (m+1))
 |.str,s,m=>(s,m)
 |.ifc,b,m=>(b,m)
 |.sl r,l,m=>OT (RT.mkI r) l m
def RT.mkI:(r:RT)→r.D→Int→r.D×Int
 |.one t,x,m=>CT.mkI t x m
 |.cons t r,x,m=>(((CT.mkI t x.1 m).1,(RT.mkI r x.2 (CT.mkI t x.1 m).2).1),(RT.mkI r x.2 (CT.mkI t x.1 m).2).2)
end
mutual
def CT.wl:(t:CT)→t.D→Prop
 |.sl r,l=>l.length≤9223372036854775807∧∀ a:r.D,List.Mem a l→RT.wl r a
 |_,_=>True
def RT.wl:(r:RT)→r.D→Prop
 |.one t,x=>CT.wl t x
 |.cons t r,x=>CT.wl t x.1∧RT.wl r x.2
end
section
variable {h h':Ac} {ω:Nat→W} {hd:Hd} {p:List Nat}
abbrev Mv (ω:Nat→W) (hd:Hd) (p:List Nat):Nat→Prop:=fun l=>∃ q,ω l= .own hd (p++q)
abbrev MS (h:Ac) (ω:Nat→W) (hd:Hd) (p:List Nat) (r:RT) (l:List r.D) (u:V):Prop:=RC h ω (.inn hd p) (.sl .own (l.map r.enc)) u
theorem MS.len{r:RT}{l:List r.D}{u:V}(M:MS h ω hd p r l u):zw u=some (.int .i64 (l.length:Int)):=by
 unfold MS at M;generalize he:l.map r.enc=es at M
 have hl:l.length=es.length:=by rw[← he,AL]
 cases M with
 |nil=>rw[hl];rfl
 |sl _ _ _ l o n b h1 hk hc hne hn hw hle hr=>rw[hl,← hn];rfl
theorem MS.ok1{r:RT}{l:List r.D}{u:V}(M:MS h ω hd p r l u):u.ok1=true∧u.cell=true:=by
 unfold MS at M;generalize l.map r.enc=es at M;cases M<;>exact⟨rfl,rfl⟩
theorem MS.slice{r:RT}{l:List r.D}{u:V}(M:MS h ω hd p r l u)(hl:0<l.length):∃ b,u= .slice b 0 l.length:=by
 unfold MS at M;generalize he:l.map r.enc=es at M
 have hl':l.length=es.length:=by rw[← he,AL]
 cases M with
 |nil=>rw[hl'] at hl;simp at hl
 | sl _ _ _ b o n bk h1 hk hc hne hn hw hle hr=>
   obtain⟨_,rfl,_⟩:=hc;exact⟨b,by rw[hl',hn]⟩
theorem MS.upd {r:RT} {l:List r.D} {b n:Nat} (M:MS h ω hd p r l (.slice b 0 n)) {i off:Nat} (hi:i<l.length) (hoff:off<r.w) {y:r.D} {c:PV} (hy:r.enc y=Au (r.enc (l.getD i r.dflt)) off [c])
 {bk:Blk} (h1:h[b]?=some bk) {cs':List V} (h1':h'[b]?=some { bk with cs:=cs' }) (hcl:cs'.length=bk.cs.length) {v:V} (hcs:∀ k,get cs' k=if k=i*r.w+off then v else get bk.cs k)
 (hO:∀ x,x≠b→(∀ q,ω x≠.own hd (p++(i*r.w+off)::q))→h'[x]?=h[x]?) (hc:RC h' ω (.inn hd (p++[i*r.w+off])) c v):MS h' ω hd p r (l.set i y) (.slice b 0 n):=by
 unfold MS at M ⊢
 rw[← Qd,hy,← GA r l i hi]
 generalize he:l.map r.enc=es at M
 have hl':l.length=es.length:=by rw[← he,AL]
 have hwr:∀ e∈es,e.length=r.w:=by rw[← he];intro e h;obtain⟨x,_,rfl⟩:=List.mem_map.1 h;exact K4 r x
 have hi':i<es.length:=by rw[← hl'];exact hi
 cases M with
 | sl _ _ _ _ o _ bk' h1b hk hch hne hn hw hle hr=>
   rw[h1] at h1b;cases h1b
   have hbw:bk.w=r.w:=by rw[← hw _ (D3 (l:=es) hi')];exact hwr _ (D3 hi')
   have hel:=L4 hw hi';obtain⟨hb1,_,hb3⟩:=hch
   refine RC.sl _ .own _ b 0 n { bk with cs:=cs' } h1' hk ⟨hb1,rfl,hb3⟩ (fun _ _ h=>by have:=congrArg List.length h;rw[Eu] at this;simp only[AD] at this;omega) (by rw[Eu];exact hn) (QW hw (by rw[FN];exact hel)) (by rw[Eu];simp only[hcl];exact hle) fun k hk'=>?_
   simp only[Eu] at hk';rw[Um hw hi' (by rw[hbw];simp only[AB,AD];omega) k hk',Br,hcs];simp only[AB,AD,hbw];by_cases hkk:k=i*r.w+off
   · subst hkk;rw[Ab ⟨by omega,by omega⟩,Ab rfl,VB];exact hc
   · rw[Ad (by omega),Ad hkk];have r0:=hr k hk';rw[Br] at r0;refine r0.inn0 (f:=Ren.id) (T:=fun x=>x=b∨∃ q,ω x= .own hd (p++(i*r.w+off)::q)) ⟨fun x e=>⟨e,hO x (by rintro rfl;rw[hb1] at e;cases e) (fun q e'=>by rw[e] at e';cases e')⟩,fun x a q e hn=>⟨by rw[e];rfl,hO x (fun h=>hn (.inl h)) (fun q' e'=>hn (.inr ⟨q',e'⟩))⟩⟩ (fun x q e hT=>?_) (fun q=>rfl);rcases hT with rfl|⟨q',e'⟩
     · rw[hb1] at e;simp only[W.own.injEq] at e;have:=congrArg List.length e.2;simp at this
     · rw[e] at e';simp only[W.own.injEq,B1,CK,Cq,List.append_cancel_left_eq,FZ] at e';exact hkk e'.2.1
theorem MS.store {r:RT} {l:List r.D} {b n:Nat} (M:MS h ω hd p r l (.slice b 0 n)) {i off:Nat} (hi:i<l.length) (hoff:off<r.w) {v:V} (hv:v.flat=true) (hvc:v.cells=[v]) {y:r.D} (hy:r.enc y=Au (r.enc (l.getD i r.dflt)) off [.fl v])
 (hinj:∀ l l' a q,ω l= .own a q→ω l'= .own a q→l=l') (bx:List (List V)):∃ h',XS bx h 1 (.ptr b (i*r.w+off)) v=some (.undef,bx,h')∧Only (Mv ω hd p) h h'∧MS h' ω hd p r (l.set i y) (.slice b 0 n):=by
 have M0:=M
 unfold MS at M0
 generalize he:l.map r.enc=es at M0
 have hl':l.length=es.length:=by rw[← he,AL]
 have hwr:∀ e∈es,e.length=r.w:=by rw[← he];intro e h;obtain⟨x,_,rfl⟩:=List.mem_map.1 h;exact K4 r x
 have hi':i<es.length:=by rw[← hl'];exact hi
 cases M0 with
 | sl _ _ _ _ o _ bk h1 hk hch hne hn hw hle hr=>
   have hbw:bk.w=r.w:=by rw[← hw _ (D3 (l:=es) hi')];exact hwr _ (D3 hi')
   obtain⟨hb1,_,hb3⟩:=hch
   have hlt:i*r.w+off<bk.cs.length:=by
    have:(i+1)*r.w≤es.length*r.w:=Ix _ hi';rw[Dv,JR] at this;rw[hbw] at hle;omega
   have hb:b<h.length:=BV h1
   have hset:∀ k,(h.set b { bk with cs:=splice bk.cs (i*r.w+off) [v] })[k]?=if k=b then some { bk with cs:=splice bk.cs (i*r.w+off) [v] } else h[k]?:=by
    intro k;rw[Fx];by_cases hk:b=k
    · subst hk;simp[hb]
    · rw[Ad hk,Ad (fun h'=>hk h'.symm)]
   have hvcell:[v].all V.cell=true:=by
    cases v<;>first|rfl|(simp[V.flat] at hv)
   refine⟨h.set b { bk with cs:=splice bk.cs (i*r.w+off) [v] },?_,⟨by simp,fun x hx=>?_,fun x bx' hx=>?_⟩,M.upd hi hoff hy h1 (cs':=splice bk.cs (i*r.w+off) [v]) (v:=v) (by rw[hset,Ab rfl]) (Fo _ _ _) (fun k=>?_) (fun x hx _=>by rw[hset,Ad hx]) (.v _ _ hv)⟩
   · have hwr':wr h b (i*r.w+off) [v]=some (h.set b { bk with cs:=splice bk.cs (i*r.w+off) [v] }):=by
      rw[wr,h1];simp only;rw[Ab ⟨hb3,by simp only[AB,AD];omega⟩]
     simp only[XS,hvc,hvcell,AB,AD,hwr'];rfl
   · rw[hset,Ad];rintro rfl;exact hx ⟨[],by rw[hb1];simp⟩
   · by_cases hxb:x=b
     · subst hxb;rw[h1] at hx;cases hx;exact⟨{ bk with cs:=splice bk.cs (i*r.w+off) [v] },by rw[hset,Ab rfl],rfl,rfl,Fo _ _ _⟩
     · exact⟨bx',by rw[hset,Ad hxb];exact hx,rfl,rfl,rfl⟩
   · rw[PU _ _ _ _ (by simp only[AB,AD];omega)];simp only[AB,AD];by_cases hkk:k=i*r.w+off
     · subst hkk;rw[Ab ⟨by omega,by omega⟩,Ab rfl,VB];rfl
     · rw[Ad (by omega),Ad hkk]
theorem MS.load{r:RT}{l:List r.D}{b n:Nat}(M:MS h ω hd p r l (.slice b 0 n)){i off:Nat}(hi:i<l.length)(hoff:off<r.w){r':RT}{l':List r'.D}(hx:Aa (r.enc (l.getD i r.dflt)) off= .sl .own (l'.map r'.enc)) :
 ∃ u,jJ h none (.ptr b (i*r.w+off))=some u∧MS h ω hd (p++[i*r.w+off]) r' l' u∧∃ bk,h[b]?=some bk∧get bk.cs (i*r.w+off)=u:=by
 have M0:=M
 unfold MS at M0
 rw[← GA r l i hi] at hx
 generalize he:l.map r.enc=es at M0 hx
 have hl':l.length=es.length:=by rw[← he,AL]
 have hwr:∀ e∈es,e.length=r.w:=by rw[← he];intro e h;obtain⟨x,_,rfl⟩:=List.mem_map.1 h;exact K4 r x
 have hi':i<es.length:=by rw[← hl'];exact hi
 cases M0 with
 | sl _ _ _ _ o _ bk h1 hk hch hne hn hw hle hr=>
   have hbw:bk.w=r.w:=by rw[← hw _ (D3 (l:=es) hi')];exact hwr _ (D3 hi')
   have hm:(i+1)*r.w≤es.length*r.w:=Ix _ hi';rw[Dv,JR] at hm
   have hlt:i*r.w+off<bk.cs.length:=by rw[hbw] at hle;omega
   have r0:=hr (i*r.w+off) (by rw[hbw];omega);rw[Br] at r0;have hf:Aa es.flatten (i*r.w+off)=Aa (AW es i) off:=Hr (w:=r.w) (by rw[← hbw];exact hw) i off hoff;rw[hf,hx] at r0;refine⟨get bk.cs (i*r.w+off),?_,r0,bk,h1,rfl⟩
   have e1:rd h b (i*r.w+off) 1=some ((bk.cs.drop (i*r.w+off)).take 1):=by
    rw[rd,h1];simp only;rw[Ab ⟨hk,by omega⟩]
   show (rd h b (i*r.w+off) 1).bind (Dj none)=_;rw[e1];rw[QF hlt];simp only[Zb,List.take_zero,Fu,Dj,CI,AE hlt];rfl
theorem MS.sub {r:RT} {l:List r.D} {b n:Nat} (M:MS h ω hd p r l (.slice b 0 n)) {i off:Nat} (hi:i<l.length) (hoff:off<r.w) {u:V} {bk:Blk} (h1:h[b]?=some bk) (hu:get bk.cs (i*r.w+off)=u)
 (hO:Only (Mv ω hd (p++[i*r.w+off])) h h') {r':RT} {l':List r'.D} (hr:MS h' ω hd (p++[i*r.w+off]) r' l' u) {y:r.D} (hy:r.enc y=Au (r.enc (l.getD i r.dflt)) off [.sl .own (l'.map r'.enc)]) :
 Only (Mv ω hd p) h h'∧MS h' ω hd p r (l.set i y) (.slice b 0 n):=by
 have hb1:ω b= .own hd p:=by
  have M0:=M;unfold MS at M0;generalize l.map r.enc=es at M0
  cases M0 with
  |sl _ _ _ _ o _ bk h1 hk hch hne hn hw hle hr=>exact hch.1
 refine⟨hO.mono fun x ⟨q,e⟩=>⟨(i*r.w+off)::q,by rw[e];simp⟩,M.upd hi hoff hy h1 (cs':=bk.cs) (v:=u) ?_ rfl (fun k=>?_) (fun x _ hx=>hO.off x (fun⟨q,e⟩=>hx q (by rw[e];simp))) hr⟩
 · rw[hO.off b]
   · exact h1
   · rintro⟨q,e⟩;rw[hb1] at e;simp only[W.own.injEq] at e;have:=congrArg List.length e.2;simp at this
 · split
   · rename_i hk;rw[hk,hu]
   · rfl
theorem MS.frame{r:RT}{l:List r.D}{u:V}(M:MS h ω hd p r l u){i:Nat}(hi:i<l.length):MS h ω hd p r (l.set i (l.getD i r.dflt)) u:=by
 have:l.set i (l.getD i r.dflt)=l:=by
  rw[Ck,AE hi];simp
 rw[this];exact M
theorem Xi{r:RT}{l:List r.D}{i:Nat}(hi:i<l.length)(x:r.D):(l.set i x).getD i r.dflt=x:=by
 rw[Ck,List.getElem?_set_self (by simpa using hi)];rfl
theorem MS.st {r:RT} {l:List r.D} {b n i:Nat} {x:r.D} (M:MS h ω hd p r (l.set i x) (.slice b 0 n)) (hi:i<l.length) {off:Nat} (hoff:off<r.w) {v:V} (hv:v.flat=true) (hvc:v.cells=[v]) {y:r.D} (hy:r.enc y=Au (r.enc x) off [.fl v])
 (hinj:∀ l l' a q,ω l= .own a q→ω l'= .own a q→l=l') (bx:List (List V)):∃ h',XS bx h 1 (.ptr b (i*r.w+off)) v=some (.undef,bx,h')∧Only (Mv ω hd p) h h'∧MS h' ω hd p r (l.set i y) (.slice b 0 n):=by
 obtain⟨h',e1,e2,e3⟩:=M.store (i:=i) (off:=off) (by simpa using hi) hoff hv hvc (y:=y) (by rw[Xi hi];exact hy) hinj bx
 rw[List.set_set] at e3
 exact⟨h',e1,e2,e3⟩
theorem MS.sb{r:RT}{l:List r.D}{b n i:Nat}{x:r.D}(M:MS h ω hd p r (l.set i x) (.slice b 0 n))(hi:i<l.length){off:Nat}(hoff:off<r.w){r':RT}{l':List r'.D}(hx:Aa (r.enc x) off= .sl .own (l'.map r'.enc)) :
 ∃ u,jJ h none (.ptr b (i*r.w+off))=some u∧MS h ω hd (p++[i*r.w+off]) r' l' u ∧
   ∀ (h':Ac) (l'':List r'.D) (y:r.D),Only (Mv ω hd (p++[i*r.w+off])) h h'→MS h' ω hd (p++[i*r.w+off]) r' l'' u→r.enc y=Au (r.enc x) off [.sl .own (l''.map r'.enc)]→Only (Mv ω hd p) h h'∧MS h' ω hd p r (l.set i y) (.slice b 0 n):=by
 obtain⟨u,e1,e2,bk,e3,e4⟩:=M.load (i:=i) (off:=off) (by simpa using hi) hoff (r':=r') (l':=l') (by rw[Xi hi];exact hx)
 refine⟨u,e1,e2,fun h' l'' y hO hM hy=>?_⟩
 obtain⟨k1,k2⟩:=M.sub (i:=i) (off:=off) (by simpa using hi) hoff e3 e4 hO hM (y:=y) (by rw[Xi hi];exact hy)
 rw[List.set_set] at k2
 exact⟨k1,k2⟩
theorem RC.flat1{H:Ac}{m:Md}{x u:V}(r:RC H ω m (.fl x) u)(hx:x≠.undef):u=x:=by
 cases r with
 |undef=>exact absurd rfl hx
 |v=>rfl
end
def SlC(s:A8)(r:RT):Prop:=∀ (h:Ac) (ω:Nat→W) (hd:Hd) (p:List Nat) (l:List r.D) (u:V) (m:Int) (Q:V→Ac→Prop),CT.wl (.sl r) l→(∀ l l' a q,ω l= .own a q→ω l'= .own a q→l=l')→MS h ω hd p r l u →
 (∀ h',Only (Mv ω hd p) h h'→MS h' ω hd p r (OT r.mkI l m).1 u→Q (.int .i64 (OT r.mkI l m).2) h')→s [u,.int .i64 m] h Q
def zJ(r:RT):DMk:=⟨.one (.sl r),false,fun l=>CT.wl (.sl r) l,fun l m=>OT r.mkI l m,false⟩
theorem SlC.sound{s:A8}{r:RT}(hs:SlC s r):VA s (zJ r).P:=by
 rintro h ω hd P b A5 us u m K Q hinj hu hl hr ⟨x,rfl,hok,hK⟩ hQ;have hu:us=[u]:=hu;subst hu;have h0:=hr 0 (by show 0<1;omega)
 refine hs h ω hd (P++[b]) x u m Q hok hinj h0 fun h' hO hM=>?_
 refine hQ _ _ h' hK rfl (hO.mono fun l ⟨q,e⟩=>⟨0,_,q,by show 0<1;omega,rfl,by rw[e];simp⟩) fun c hc=>?_
 have:c=0:=by have:c<1:=hc;omega
 subst this;exact hM
structure Fn where
 d:DFun
 h:List HT
 q:QT
@[irreducible] def Fn.S(F:Fn):A8:=F4 F.d.er.er
@[irreducible] def Fn.P(F:Fn):B3:=DH F.d.er
@[irreducible] def Fn.V(F:Fn)(x:TuX F.h):F.q.D:=(shut fun x=>MQ F.d F.h F.q x).1 x
@[irreducible] def Fn.O(F:Fn)(x:TuX F.h):Prop:=(shut fun x=>MF F.d F.h F.q x).1 x
def Fn.D(F:Fn):Fh:=HI F.h F.q F.O F.V
theorem Fn.v(F:Fn)(x:TuX F.h):F.V x=MQ F.d F.h F.q x:=by unfold Fn.V;exact congrFun (shut _).2 x
theorem Fn.o(F:Fn)(x:TuX F.h):F.O x=MF F.d F.h F.q x:=by unfold Fn.O;exact congrFun (shut _).2 x
def Fn.A(F:Fn):Prop:=Dh F.S F.P
def Fn.B(F:Fn):Prop:=HC F.P F.D
theorem Bp{F:Fn}(o:AllP F.d.er.body.obs):F.A:=by unfold Fn.A Fn.S Fn.P;exact Ii o
theorem Bq{F:Fn}(o:AllD F.d.body.obs)(st:OO F.d F.h F.q=true)(c:∀ x,Oz F.d F.h F.q x=true):F.B:=by
 unfold Fn.B Fn.P;exact tS o st c (fun x h=>Eq.mp (F.o x) h) (fun x=>(F.v x).symm)
@[reducible] def oF (i d:Nat) (F:Fn) (args:List Opnd):DOper:=⟨i,some d,.call false F.S F.P F.D args,none,[]⟩
@[reducible] def xF (i d:Nat) (F:Fn) (args:List Opnd) (a:List Nat):DOper:=⟨i,some d,.call false F.S F.P F.D args,none,a⟩
theorem lF{P:Program}(hm:P.follows .mixedOrders=true){F:Fn}{f:FuncId}{fn:Func}{obs:List (FuncId×A8)}(hf:P.funcs[f]?=some fn)(hk:Ga P fn F.d.er.er=true)(ho:F6 P fn F.d.er.er=obs)(hob:AllSound P obs):Aw P f F.S:=by
 unfold Fn.S;exact Ie hm hf hk ho hob
section
set_option maxRecDepth 8000
def rz:DCode:=(.seq [2,1,0] (.region [oa 0 6 (.mv (.c (.bool false)))]) (.seq [6] (.region [om 0 7 0,om 1 8 1,oa 2 9 (.bin .geq (.t 7) (.t 8)),om 3 10 9,og 4 11 (.mv (.t 0)) 10 true,og 5 12 (.mv (.t 2)) 10 true,og 6 13 (.bin .leq (.t 11) (.t 12)) 10 true,oa 7 14 (.pick (.t 10) (.t 13) (.c (.bool false))),om 8 6 14]) .ret))
def E1:Fn:=⟨⟨3,15,0,true,[.tmp 6],rz⟩,[.one .frz (.int .i64),.one .frz (.int .i64),.one .frz (.int .i64)],.one (.one .own (.bool))⟩
theorem TE:E1.A:=Bp trivial
def BP:Int×Int×Int→Bool:=E1.V
def Gy:Int×Int×Int→Prop:=E1.O
theorem TB:E1.B:=Bq trivial (by kernel_rfl) (fun x=>by kernel_rfl)
def nW:DCode:=(.seq [1] (.region [oa 0 1 (.boxB 0 4 (.t 0)),oa 1 2 (.mv (.c (.bool false)))]) (.seq [3,1] (.region [oa 0 6 (.fieldA 1 (.t 1)),oa 1 7 (.loadB 0 none (.t 6)),oF 2 8 E1 [(.t 7),(.c (.int .i64 1)),(.c (.int .i64 56))],om 3 3 8]) (.seq [4,3,1] (.region [oa 0 9 (.fieldA 2 (.t 1)),oa 1 10 (.loadB 0 none (.t 9)),oF 2 11 E1 [(.t 10),(.c (.int .i64 1)),(.c (.int .i64 15))],om 3 4 11]) (.seq [5,4,3,1] (.region [oa 0 12 (.fieldA 3 (.t 1)),oa 1 13 (.loadB 0 none (.t 12)),oF 2 14 E1 [(.t 13),(.c (.int .i64 1)),(.c (.int .i64 3))],om 3 5 14]) (.seq [] (.seq [16,5,4,3,1] (.region [oa 0 15 (.fieldA 0 (.t 1)),oa 1 16 (.loadB 0 none (.t 15))]) (.block 0 (.seq [17,16,5,4,3,1] (.seq [17,16,5,4,3,1] (.region [oa 0 18 (.bin .eql (.t 16) (.c (.int .i64 0))),om 1 17 18]) (.cond (.t 17) .skip (.seq [17,16,5,4,3,1] (.region [oa 0 19 (.bin .eql (.t 16) (.c (.int .i64 1))),om 1 17 19]) (.cond (.t 17) .skip (.region [oa 0 20 (.bin .eql (.t 16) (.c (.int .i64 10))),om 1 17 20]))))) (.cond (.t 17) (.seq [2] (.region [oa 0 21 (.fieldA 1 (.t 1)),oa 1 22 (.loadB 0 none (.t 21)),oa 2 23 (.bin .eql (.t 22) (.c (.int .i64 0))),om 3 24 23,og 4 25 (.fieldA 2 (.t 1)) 24 true,og 5 26 (.loadB 0 none (.t 25)) 24 true,og 6 27 (.bin .eql (.t 26) (.c (.int .i64 0))) 24 true,oa 7 28 (.pick (.t 24) (.t 27) (.c (.bool false))),om 8 29 28,og 9 30 (.fieldA 3 (.t 1)) 29 true,og 10 31 (.loadB 0 none (.t 30)) 29 true,og 11 32 (.bin .eql (.t 31) (.c (.int .i64 0))) 29 true,oa 12 33 (.pick (.t 29) (.t 32) (.c (.bool false))),om 13 2 33]) .ret) (.seq [34,16,5,4,3,1] (.region [oa 0 35 (.bin .eql (.t 16) (.c (.int .i64 2))),om 1 34 35]) (.cond (.t 34) (.seq [2] (.region [oa 0 36 (.fieldA 3 (.t 1)),oa 1 37 (.loadB 0 none (.t 36)),oa 2 38 (.bin .eql (.t 37) (.c (.int .i64 0))),om 3 39 38,og 4 40 (.mv (.t 3)) 39 true,og 5 41 (.mv (.t 40)) 39 true,og 6 42 (.fieldA 1 (.t 1)) 41 false,og 7 43 (.loadB 0 none (.t 42)) 41 false,og 8 44 (.bin .eql (.t 43) (.c (.int .i64 0))) 41 false,og 9 45 (.mv (.t 44)) 41 false,og 10 46 (.mv (.t 4)) 45 true,og 11 47 (.pick (.t 45) (.t 46) (.c (.bool false))) 41 false,og 12 48 (.pick (.t 41) (.c (.bool true)) (.t 47)) 39 true,oa 13 49 (.pick (.t 39) (.t 48) (.c (.bool false))),om 14 50 49,og 15 51 (.mv (.t 4)) 50 true,og 16 52 (.mv (.t 51)) 50 true,og 17 53 (.fieldA 2 (.t 1)) 52 false,og 18 54 (.loadB 0 none (.t 53)) 52 false,og 19 55 (.bin .eql (.t 54) (.c (.int .i64 0))) 52 false,og 20 56 (.pick (.t 52) (.c (.bool true)) (.t 55)) 50 true,oa 21 57 (.pick (.t 50) (.t 56) (.c (.bool false))),om 22 2 57]) .ret) (.seq [58,16,5,4,3,1] (.seq [58,16,5,4,3,1] (.region [oa 0 59 (.bin .eql (.t 16) (.c (.int .i64 3))),om 1 58 59]) (.cond (.t 58) .skip (.region [oa 0 60 (.bin .eql (.t 16) (.c (.int .i64 4))),om 1 58 60]))) (.cond (.t 58) (.seq [2] (.region [om 0 61 5,om 1 62 61,og 2 63 (.fieldA 1 (.t 1)) 62 true,og 3 64 (.loadB 0 none (.t 63)) 62 true,og 4 65 (.bin .eql (.t 64) (.c (.int .i64 0))) 62 true,oa 5 66 (.pick (.t 62) (.t 65) (.c (.bool false))),om 6 67 66,og 7 68 (.fieldA 2 (.t 1)) 67 true,og 8 69 (.loadB 0 none (.t 68)) 67 true,og 9 70 (.bin .eql (.t 69) (.c (.int .i64 0))) 67 true,oa 10 71 (.pick (.t 67) (.t 70) (.c (.bool false))),om 11 2 71]) .ret) (.seq [72,16,5,4,3,1] (.seq [72,16,5,4,3,1] (.region [oa 0 73 (.bin .eql (.t 16) (.c (.int .i64 5))),om 1 72 73]) (.cond (.t 72) .skip (.region [oa 0 74 (.bin .eql (.t 16) (.c (.int .i64 9))),om 1 72 74]))) (.cond (.t 72) (.seq [2] (.region [oa 0 75 (.fieldA 3 (.t 1)),oa 1 76 (.loadB 0 none (.t 75)),oF 2 77 E1 [(.t 76),(.c (.int .i64 0)),(.c (.int .i64 3))],om 3 78 77,og 4 79 (.fieldA 1 (.t 1)) 78 true,og 5 80 (.loadB 0 none (.t 79)) 78 true,og 6 81 (.bin .eql (.t 80) (.c (.int .i64 0))) 78 true,oa 7 82 (.pick (.t 78) (.t 81) (.c (.bool false))),om 8 83 82,og 9 84 (.fieldA 2 (.t 1)) 83 true,og 10 85 (.loadB 0 none (.t 84)) 83 true,og 11 86 (.bin .eql (.t 85) (.c (.int .i64 0))) 83 true,oa 12 87 (.pick (.t 83) (.t 86) (.c (.bool false))),om 13 2 87]) .ret) (.seq [88,16,5,4,3,1] (.region [oa 0 89 (.bin .eql (.t 16) (.c (.int .i64 6))),om 1 88 89]) (.cond (.t 88) (.seq [2] (.region [om 0 90 3,om 1 91 90,og 2 92 (.mv (.t 4)) 91 true,oa 3 93 (.pick (.t 91) (.t 92) (.c (.bool false))),om 4 94 93,og 5 95 (.fieldA 3 (.t 1)) 94 true,og 6 96 (.loadB 0 none (.t 95)) 94 true,og 7 97 (.bin .eql (.t 96) (.c (.int .i64 0))) 94 true,oa 8 98 (.pick (.t 94) (.t 97) (.c (.bool false))),om 9 2 98]) .ret) (.seq [99,16,5,4,3,1] (.region [oa 0 100 (.bin .eql (.t 16) (.c (.int .i64 7))),om 1 99 100]) (.cond (.t 99) (.seq [2] (.region [om 0 101 3,om 1 102 101,og 2 103 (.mv (.t 5)) 102 true,oa 3 104 (.pick (.t 102) (.t 103) (.c (.bool false))),om 4 105 104,og 5 106 (.fieldA 2 (.t 1)) 105 true,og 6 107 (.loadB 0 none (.t 106)) 105 true,og 7 108 (.bin .eql (.t 107) (.c (.int .i64 0))) 105 true,oa 8 109 (.pick (.t 105) (.t 108) (.c (.bool false))),om 9 2 109]) .ret) (.seq [110,4,1] (.region [oa 0 111 (.bin .eql (.t 16) (.c (.int .i64 8))),om 1 110 111]) (.cond (.t 110) (.seq [2] (.region [om 0 112 4,om 1 113 112,og 2 114 (.fieldA 1 (.t 1)) 113 true,og 3 115 (.loadB 0 none (.t 114)) 113 true,og 4 116 (.bin .eql (.t 115) (.c (.int .i64 0))) 113 true,oa 5 117 (.pick (.t 113) (.t 116) (.c (.bool false))),om 6 118 117,og 7 119 (.fieldA 3 (.t 1)) 118 true,og 8 120 (.loadB 0 none (.t 119)) 118 true,og 9 121 (.bin .eql (.t 120) (.c (.int .i64 0))) 118 true,oa 10 122 (.pick (.t 118) (.t 121) (.c (.bool false))),om 11 2 122]) .ret) .skip)))))))))))))))) (.seq [2] (.region [oa 0 2 (.mv (.c (.bool false)))]) .ret))))))
def Jq:Fn:=⟨⟨1,123,1,true,[.tmp 2],nW⟩,[.agg [(.frz,.int .i64),(.frz,.int .i64),(.frz,.int .i64),(.frz,.int .i64)]],.one (.one .own (.bool))⟩
theorem n6:Jq.A:=Bp ⟨TE,TE,TE,TE,trivial⟩
def Cj:Int×Int×Int×Int→Bool:=Jq.V
def Ko:Int×Int×Int×Int→Prop:=Jq.O
theorem n9:Jq.B:=Bq ⟨TB,TB,TB,TB,trivial⟩ (by kernel_rfl) (fun x=>by kernel_rfl)
def p8:DCode:=(.seq [0] (.region [oa 0 2 (.mv (.c (.bool false)))]) (.seq [2] (.region [om 0 3 0,oa 1 4 (.bin .geq (.t 3) (.c (.int .i64 1))),om 2 5 4,og 3 6 (.mv (.t 0)) 5 true,og 4 7 (.bin .leq (.t 6) (.c (.int .i64 56))) 5 true,oa 5 8 (.pick (.t 5) (.t 7) (.c (.bool false))),om 6 2 8]) .ret))
def Ec:Fn:=⟨⟨1,9,0,true,[.tmp 2],p8⟩,[.one .frz (.int .i64)],.one (.one .own (.bool))⟩
theorem S0:Ec.A:=Bp trivial
def E0:Int→Bool:=Ec.V
def LJ:Int→Prop:=Ec.O
theorem SX:Ec.B:=Bq trivial (by kernel_rfl) (fun x=>by kernel_rfl)
def pY:DCode:=(.seq [0] (.region [oa 0 2 (.mv (.c (.bool false)))]) (.seq [2] (.region [om 0 3 0,oa 1 4 (.bin .geq (.t 3) (.c (.int .i64 1))),om 2 5 4,og 3 6 (.mv (.t 0)) 5 true,og 4 7 (.bin .leq (.t 6) (.c (.int .i64 15))) 5 true,oa 5 8 (.pick (.t 5) (.t 7) (.c (.bool false))),om 6 2 8]) .ret))
def DD:Fn:=⟨⟨1,9,0,true,[.tmp 2],pY⟩,[.one .frz (.int .i64)],.one (.one .own (.bool))⟩
theorem WK:DD.A:=Bp trivial
def Nx:Int→Bool:=DD.V
def LH:Int→Prop:=DD.O
theorem WQ:DD.B:=Bq trivial (by kernel_rfl) (fun x=>by kernel_rfl)
def oK:DCode:=(.seq [0] (.region [oa 0 2 (.mv (.c (.bool false)))]) (.seq [2] (.region [om 0 3 0,oa 1 4 (.bin .geq (.t 3) (.c (.int .i64 1))),om 2 5 4,og 3 6 (.mv (.t 0)) 5 true,og 4 7 (.bin .leq (.t 6) (.c (.int .i64 3))) 5 true,oa 5 8 (.pick (.t 5) (.t 7) (.c (.bool false))),om 6 2 8]) .ret))
def EX:Fn:=⟨⟨1,9,0,true,[.tmp 2],oK⟩,[.one .frz (.int .i64)],.one (.one .own (.bool))⟩
theorem bY:EX.A:=Bp trivial
def S7:Int→Bool:=EX.V
def Pr:Int→Prop:=EX.O
theorem bT:EX.B:=Bq trivial (by kernel_rfl) (fun x=>by kernel_rfl)
def n8:DCode:=(.seq [1] (.region [oa 0 1 (.boxB 0 4 (.t 0)),oa 1 2 (.mv (.c (.bool false)))]) (.seq [] (.seq [4,1] (.region [oa 0 3 (.fieldA 0 (.t 1)),oa 1 4 (.loadB 0 none (.t 3))]) (.block 0 (.seq [5,4,1] (.seq [5,4,1] (.region [oa 0 6 (.bin .eql (.t 4) (.c (.int .i64 0))),om 1 5 6]) (.cond (.t 5) .skip (.seq [5,4,1] (.region [oa 0 7 (.bin .eql (.t 4) (.c (.int .i64 1))),om 1 5 7]) (.cond (.t 5) .skip (.region [oa 0 8 (.bin .eql (.t 4) (.c (.int .i64 10))),om 1 5 8]))))) (.cond (.t 5) (.seq [2] (.region [oa 0 9 (.fieldA 1 (.t 1)),oa 1 10 (.loadB 0 none (.t 9)),oa 2 11 (.bin .eql (.t 10) (.c (.int .i64 0))),om 3 12 11,og 4 13 (.fieldA 2 (.t 1)) 12 true,og 5 14 (.loadB 0 none (.t 13)) 12 true,og 6 15 (.bin .eql (.t 14) (.c (.int .i64 0))) 12 true,oa 7 16 (.pick (.t 12) (.t 15) (.c (.bool false))),om 8 17 16,og 9 18 (.fieldA 3 (.t 1)) 17 true,og 10 19 (.loadB 0 none (.t 18)) 17 true,og 11 20 (.bin .eql (.t 19) (.c (.int .i64 0))) 17 true,oa 12 21 (.pick (.t 17) (.t 20) (.c (.bool false))),om 13 2 21]) .ret) (.seq [22,4,1] (.region [oa 0 23 (.bin .eql (.t 4) (.c (.int .i64 2))),om 1 22 23]) (.cond (.t 22) (.seq [2] (.region [oa 0 24 (.fieldA 3 (.t 1)),oa 1 25 (.loadB 0 none (.t 24)),oa 2 26 (.bin .eql (.t 25) (.c (.int .i64 0))),om 3 27 26,og 4 28 (.fieldA 1 (.t 1)) 27 true,og 5 29 (.loadB 0 none (.t 28)) 27 true,og 6 30 (.bin .eql (.t 29) (.c (.int .i64 0))) 27 true,og 7 31 (.mv (.t 30)) 27 true,og 8 32 (.fieldA 1 (.t 1)) 31 false,og 9 33 (.loadB 0 none (.t 32)) 31 false,⟨10,some 34,.call false Ec.S Ec.P Ec.D [(.t 33)],(some (31,false)),[]⟩,og 11 35 (.pick (.t 31) (.c (.bool true)) (.t 34)) 27 true,oa 12 36 (.pick (.t 27) (.t 35) (.c (.bool false))),om 13 37 36,og 14 38 (.fieldA 2 (.t 1)) 37 true,og 15 39 (.loadB 0 none (.t 38)) 37 true,og 16 40 (.bin .eql (.t 39) (.c (.int .i64 0))) 37 true,og 17 41 (.mv (.t 40)) 37 true,og 18 42 (.fieldA 2 (.t 1)) 41 false,og 19 43 (.loadB 0 none (.t 42)) 41 false,⟨20,some 44,.call false DD.S DD.P DD.D [(.t 43)],(some (41,false)),[]⟩,og 21 45 (.pick (.t 41) (.c (.bool true)) (.t 44)) 37 true,oa 22 46 (.pick (.t 37) (.t 45) (.c (.bool false))),om 23 47 46,og 24 48 (.fieldA 1 (.t 1)) 47 true,og 25 49 (.loadB 0 none (.t 48)) 47 true,og 26 50 (.bin .neq (.t 49) (.c (.int .i64 0))) 47 true,og 27 51 (.mv (.t 50)) 47 true,og 28 52 (.fieldA 2 (.t 1)) 51 false,og 29 53 (.loadB 0 none (.t 52)) 51 false,og 30 54 (.bin .neq (.t 53) (.c (.int .i64 0))) 51 false,og 31 55 (.pick (.t 51) (.c (.bool true)) (.t 54)) 47 true,oa 32 56 (.pick (.t 47) (.t 55) (.c (.bool false))),om 33 2 56]) .ret) (.seq [57,4,1] (.seq [57,4,1] (.region [oa 0 58 (.bin .eql (.t 4) (.c (.int .i64 3))),om 1 57 58]) (.cond (.t 57) .skip (.region [oa 0 59 (.bin .eql (.t 4) (.c (.int .i64 4))),om 1 57 59]))) (.cond (.t 57) (.seq [2] (.region [oa 0 60 (.fieldA 1 (.t 1)),oa 1 61 (.loadB 0 none (.t 60)),oa 2 62 (.bin .eql (.t 61) (.c (.int .i64 0))),om 3 63 62,og 4 64 (.fieldA 2 (.t 1)) 63 true,og 5 65 (.loadB 0 none (.t 64)) 63 true,og 6 66 (.bin .eql (.t 65) (.c (.int .i64 0))) 63 true,oa 7 67 (.pick (.t 63) (.t 66) (.c (.bool false))),om 8 68 67,og 9 69 (.fieldA 3 (.t 1)) 68 true,og 10 70 (.loadB 0 none (.t 69)) 68 true,⟨11,some 71,.call false EX.S EX.P EX.D [(.t 70)],(some (68,true)),[]⟩,oa 12 72 (.pick (.t 68) (.t 71) (.c (.bool false))),om 13 2 72]) .ret) (.seq [73,4,1] (.region [oa 0 74 (.bin .eql (.t 4) (.c (.int .i64 5))),om 1 73 74]) (.cond (.t 73) (.seq [2] (.region [oa 0 75 (.fieldA 1 (.t 1)),oa 1 76 (.loadB 0 none (.t 75)),oa 2 77 (.bin .eql (.t 76) (.c (.int .i64 0))),om 3 78 77,og 4 79 (.fieldA 2 (.t 1)) 78 true,og 5 80 (.loadB 0 none (.t 79)) 78 true,og 6 81 (.bin .eql (.t 80) (.c (.int .i64 0))) 78 true,oa 7 82 (.pick (.t 78) (.t 81) (.c (.bool false))),om 8 83 82,og 9 84 (.fieldA 3 (.t 1)) 83 true,og 10 85 (.loadB 0 none (.t 84)) 83 true,og 11 86 (.bin .geq (.t 85) (.c (.int .i64 0))) 83 true,oa 12 87 (.pick (.t 83) (.t 86) (.c (.bool false))),om 13 88 87,og 14 89 (.fieldA 3 (.t 1)) 88 true,og 15 90 (.loadB 0 none (.t 89)) 88 true,og 16 91 (.bin .leq (.t 90) (.c (.int .i64 3))) 88 true,oa 17 92 (.pick (.t 88) (.t 91) (.c (.bool false))),om 18 2 92]) .ret) (.seq [93,4,1] (.region [oa 0 94 (.bin .eql (.t 4) (.c (.int .i64 9))),om 1 93 94]) (.cond (.t 93) (.seq [2] (.region [oa 0 95 (.fieldA 1 (.t 1)),oa 1 96 (.loadB 0 none (.t 95)),oa 2 97 (.bin .eql (.t 96) (.c (.int .i64 0))),om 3 98 97,og 4 99 (.fieldA 2 (.t 1)) 98 true,og 5 100 (.loadB 0 none (.t 99)) 98 true,og 6 101 (.bin .eql (.t 100) (.c (.int .i64 0))) 98 true,oa 7 102 (.pick (.t 98) (.t 101) (.c (.bool false))),om 8 103 102,og 9 104 (.fieldA 3 (.t 1)) 103 true,og 10 105 (.loadB 0 none (.t 104)) 103 true,og 11 106 (.bin .geq (.t 105) (.c (.int .i64 0))) 103 true,oa 12 107 (.pick (.t 103) (.t 106) (.c (.bool false))),om 13 108 107,og 14 109 (.fieldA 3 (.t 1)) 108 true,og 15 110 (.loadB 0 none (.t 109)) 108 true,og 16 111 (.bin .leq (.t 110) (.c (.int .i64 3))) 108 true,oa 17 112 (.pick (.t 108) (.t 111) (.c (.bool false))),om 18 2 112]) .ret) (.seq [113,4,1] (.region [oa 0 114 (.bin .eql (.t 4) (.c (.int .i64 6))),om 1 113 114]) (.cond (.t 113) (.seq [2] (.region [oa 0 115 (.fieldA 1 (.t 1)),oa 1 116 (.loadB 0 none (.t 115)),oF 2 117 Ec [(.t 116)],om 3 118 117,og 4 119 (.fieldA 2 (.t 1)) 118 true,og 5 120 (.loadB 0 none (.t 119)) 118 true,⟨6,some 121,.call false DD.S DD.P DD.D [(.t 120)],(some (118,true)),[]⟩,oa 7 122 (.pick (.t 118) (.t 121) (.c (.bool false))),om 8 123 122,og 9 124 (.fieldA 3 (.t 1)) 123 true,og 10 125 (.loadB 0 none (.t 124)) 123 true,og 11 126 (.bin .eql (.t 125) (.c (.int .i64 0))) 123 true,oa 12 127 (.pick (.t 123) (.t 126) (.c (.bool false))),om 13 2 127]) .ret) (.seq [128,4,1] (.region [oa 0 129 (.bin .eql (.t 4) (.c (.int .i64 7))),om 1 128 129]) (.cond (.t 128) (.seq [2] (.region [oa 0 130 (.fieldA 1 (.t 1)),oa 1 131 (.loadB 0 none (.t 130)),oF 2 132 Ec [(.t 131)],om 3 133 132,og 4 134 (.fieldA 2 (.t 1)) 133 true,og 5 135 (.loadB 0 none (.t 134)) 133 true,og 6 136 (.bin .eql (.t 135) (.c (.int .i64 0))) 133 true,oa 7 137 (.pick (.t 133) (.t 136) (.c (.bool false))),om 8 138 137,og 9 139 (.fieldA 3 (.t 1)) 138 true,og 10 140 (.loadB 0 none (.t 139)) 138 true,⟨11,some 141,.call false EX.S EX.P EX.D [(.t 140)],(some (138,true)),[]⟩,oa 12 142 (.pick (.t 138) (.t 141) (.c (.bool false))),om 13 2 142]) .ret) (.seq [143,1] (.region [oa 0 144 (.bin .eql (.t 4) (.c (.int .i64 8))),om 1 143 144]) (.cond (.t 143) (.seq [2] (.region [oa 0 145 (.fieldA 1 (.t 1)),oa 1 146 (.loadB 0 none (.t 145)),oa 2 147 (.bin .eql (.t 146) (.c (.int .i64 0))),om 3 148 147,og 4 149 (.fieldA 2 (.t 1)) 148 true,og 5 150 (.loadB 0 none (.t 149)) 148 true,⟨6,some 151,.call false DD.S DD.P DD.D [(.t 150)],(some (148,true)),[]⟩,oa 7 152 (.pick (.t 148) (.t 151) (.c (.bool false))),om 8 153 152,og 9 154 (.fieldA 3 (.t 1)) 153 true,og 10 155 (.loadB 0 none (.t 154)) 153 true,og 11 156 (.bin .eql (.t 155) (.c (.int .i64 0))) 153 true,oa 12 157 (.pick (.t 153) (.t 156) (.c (.bool false))),om 13 2 157]) .ret) .skip)))))))))))))))))) (.seq [2] (.region [oa 0 2 (.mv (.c (.bool false)))]) .ret)))
def Ea:Fn:=⟨⟨1,158,1,true,[.tmp 2],n8⟩,[.agg [(.frz,.int .i64),(.frz,.int .i64),(.frz,.int .i64),(.frz,.int .i64)]],.one (.one .own (.bool))⟩
theorem Sy:Ea.A:=Bp ⟨S0,WK,bY,S0,WK,S0,bY,WK,trivial⟩
def B8:Int×Int×Int×Int→Bool:=Ea.V
def Km:Int×Int×Int×Int→Prop:=Ea.O
theorem Sr:Ea.B:=Bq ⟨SX,WQ,bT,SX,WQ,SX,bT,WQ,trivial⟩ (by kernel_rfl) (fun x=>by kernel_rfl)
end
section
set_option maxRecDepth 100000
theorem Hj (x):BP x=(bAnd (iGe x.1 x.2.1) (iLe x.1 x.2.2)):=(E1.v x).trans (by kernel_rfl)
theorem ND (x):Gy x=True:=(E1.o x).trans (by kernel_rfl)
theorem Wp (x):Cj x=(bSel (bOr (iEq x.1 0) (bOr (iEq x.1 1) (iEq x.1 10))) (bAnd (iEq x.2.1 0) (bAnd (iEq x.2.2.1 0) (iEq x.2.2.2 0))) (bSel (iEq x.1 2) (bAnd (iEq x.2.2.2 0) (bSel (BP (x.2.1,1,56)) (bOr (BP (x.2.2.1,1,15)) (iEq x.2.2.1 0)) (bAnd (iEq x.2.1 0) (bAnd (BP (x.2.2.1,1,15)) (bOr (BP (x.2.2.1,1,15)) (iEq x.2.2.1 0)))))) (bSel (bOr (iEq x.1 3) (iEq x.1 4)) (bAnd (BP (x.2.2.2,1,3)) (bAnd (iEq x.2.1 0) (iEq x.2.2.1 0))) (bSel (bOr (iEq x.1 5) (iEq x.1 9)) (bAnd (BP (x.2.2.2,0,3)) (bAnd (iEq x.2.1 0) (iEq x.2.2.1 0))) (bSel (iEq x.1 6) (bAnd (BP (x.2.1,1,56)) (bAnd (BP (x.2.2.1,1,15)) (iEq x.2.2.2 0))) (bSel (iEq x.1 7) (bAnd (BP (x.2.1,1,56)) (bAnd (BP (x.2.2.2,1,3)) (iEq x.2.2.1 0))) (bAnd (iEq x.1 8) (bAnd (BP (x.2.2.1,1,15)) (bAnd (iEq x.2.1 0) (iEq x.2.2.2 0)))))))))):=(Jq.v x).trans (by kernel_rfl)
theorem nZ (x):Ko x=((Gy (x.2.1,1,56))∧((Gy (x.2.2.1,1,15))∧((Gy (x.2.2.2,1,3))∧(((bOr (iEq x.1 0) (bOr (iEq x.1 1) (iEq x.1 10)))=true→True)∧((bOr (iEq x.1 0) (bOr (iEq x.1 1) (iEq x.1 10)))=false→(((iEq x.1 2)=true→True)∧((iEq x.1 2)=false→(((bOr (iEq x.1 3) (iEq x.1 4))=true→True)∧((bOr (iEq x.1 3) (iEq x.1 4))=false→(((bOr (iEq x.1 5) (iEq x.1 9))=true→(Gy (x.2.2.2,0,3)))∧((bOr (iEq x.1 5) (iEq x.1 9))=false→True))))))))))):=(Jq.o x).trans (by kernel_rfl)
theorem SV (x):E0 x=(bAnd (iGe x 1) (iLe x 56)):=(Ec.v x).trans (by kernel_rfl)
theorem cR (x):LJ x=True:=(Ec.o x).trans (by kernel_rfl)
theorem WJ (x):Nx x=(bAnd (iGe x 1) (iLe x 15)):=(DD.v x).trans (by kernel_rfl)
theorem pK (x):LH x=True:=(DD.o x).trans (by kernel_rfl)
theorem bS (x):S7 x=(bAnd (iGe x 1) (iLe x 3)):=(EX.v x).trans (by kernel_rfl)
theorem oG (x):Pr x=True:=(EX.o x).trans (by kernel_rfl)
theorem Sv (x):B8 x=(bSel (bOr (iEq x.1 0) (bOr (iEq x.1 1) (iEq x.1 10))) (bAnd (iEq x.2.1 0) (bAnd (iEq x.2.2.1 0) (iEq x.2.2.2 0))) (bSel (iEq x.1 2) (bAnd (iEq x.2.2.2 0) (bSel (iEq x.2.1 0) (bSel (iEq x.2.2.1 0) (bOr (iNe x.2.1 0) (iNe x.2.2.1 0)) (bAnd (Nx x.2.2.1) (bOr (iNe x.2.1 0) (iNe x.2.2.1 0)))) (bAnd (E0 x.2.1) (bSel (iEq x.2.2.1 0) (bOr (iNe x.2.1 0) (iNe x.2.2.1 0)) (bAnd (Nx x.2.2.1) (bOr (iNe x.2.1 0) (iNe x.2.2.1 0))))))) (bSel (bOr (iEq x.1 3) (iEq x.1 4)) (bAnd (iEq x.2.1 0) (bAnd (iEq x.2.2.1 0) (S7 x.2.2.2))) (bSel (iEq x.1 5) (bAnd (iEq x.2.1 0) (bAnd (iEq x.2.2.1 0) (bAnd (iGe x.2.2.2 0) (iLe x.2.2.2 3)))) (bSel (iEq x.1 9) (bAnd (iEq x.2.1 0) (bAnd (iEq x.2.2.1 0) (bAnd (iGe x.2.2.2 0) (iLe x.2.2.2 3)))) (bSel (iEq x.1 6) (bAnd (E0 x.2.1) (bAnd (Nx x.2.2.1) (iEq x.2.2.2 0))) (bSel (iEq x.1 7) (bAnd (E0 x.2.1) (bAnd (iEq x.2.2.1 0) (S7 x.2.2.2))) (bAnd (iEq x.1 8) (bAnd (iEq x.2.1 0) (bAnd (Nx x.2.2.1) (iEq x.2.2.2 0))))))))))):=(Ea.v x).trans (by kernel_rfl)
theorem nF (x):Km x=(((bOr (iEq x.1 0) (bOr (iEq x.1 1) (iEq x.1 10)))=true→True)∧((bOr (iEq x.1 0) (bOr (iEq x.1 1) (iEq x.1 10)))=false→(((iEq x.1 2)=true→(((iEq x.2.2.2 0)=true→(((iEq x.2.1 0)=true→(((iEq x.2.2.1 0)=true→True)∧((iEq x.2.2.1 0)=false→(LH x.2.2.1))))∧((iEq x.2.1 0)=false→((LJ x.2.1)∧(((E0 x.2.1)=true→(((iEq x.2.2.1 0)=true→True)∧((iEq x.2.2.1 0)=false→(LH x.2.2.1))))∧((E0 x.2.1)=false→True))))))∧((iEq x.2.2.2 0)=false→True)))∧((iEq x.1 2)=false→(((bOr (iEq x.1 3) (iEq x.1 4))=true→(((iEq x.2.1 0)=true→(((iEq x.2.2.1 0)=true→(Pr x.2.2.2))∧((iEq x.2.2.1 0)=false→True)))∧((iEq x.2.1 0)=false→True)))∧((bOr (iEq x.1 3) (iEq x.1 4))=false→(((iEq x.1 5)=true→True)∧((iEq x.1 5)=false→(((iEq x.1 9)=true→True)∧((iEq x.1 9)=false→(((iEq x.1 6)=true→((LJ x.2.1)∧(((E0 x.2.1)=true→(LH x.2.2.1))∧((E0 x.2.1)=false→True))))∧((iEq x.1 6)=false→(((iEq x.1 7)=true→((LJ x.2.1)∧(((E0 x.2.1)=true→(((iEq x.2.2.1 0)=true→(Pr x.2.2.2))∧((iEq x.2.2.1 0)=false→True)))∧((E0 x.2.1)=false→True))))∧((iEq x.1 7)=false→(((iEq x.1 8)=true→(((iEq x.2.1 0)=true→(LH x.2.2.1))∧((iEq x.2.1 0)=false→True)))∧((iEq x.1 8)=false→True)))))))))))))))):=(Ea.o x).trans (by kernel_rfl)
attribute [irreducible] BP Gy Cj Ko E0 LJ Nx LH S7 Pr B8 Km
end
section
set_option maxRecDepth 8000
def nk:DCode:=(.seq [1] (.region [oa 0 1 (.boxB 0 4 (.t 0)),oa 1 2 (.mv (.c (.bool false)))]) (.seq [2] (.region [oa 0 3 (.loadB 0 (some 4) (.t 1)),oF 1 4 Jq [(.t 3)],om 2 5 4,og 3 6 (.fieldA 0 (.t 1)) 5 true,og 4 7 (.loadB 0 none (.t 6)) 5 true,og 5 8 (.bin .eql (.t 7) (.c (.int .i64 6))) 5 true,og 6 9 (.mv (.t 8)) 5 true,og 7 10 (.fieldA 0 (.t 1)) 9 false,og 8 11 (.loadB 0 none (.t 10)) 9 false,og 9 12 (.bin .eql (.t 11) (.c (.int .i64 7))) 9 false,og 10 13 (.pick (.t 9) (.c (.bool true)) (.t 12)) 5 true,oa 11 14 (.pick (.t 5) (.t 13) (.c (.bool false))),om 12 2 14]) .ret))
def G0:Fn:=⟨⟨1,15,1,true,[.tmp 2],nk⟩,[.agg [(.frz,.int .i64),(.frz,.int .i64),(.frz,.int .i64),(.frz,.int .i64)]],.one (.one .own (.bool))⟩
theorem bn:G0.A:=Bp ⟨n6,trivial⟩
def Jh:Int×Int×Int×Int→Bool:=G0.V
def M8:Int×Int×Int×Int→Prop:=G0.O
theorem bt:G0.B:=Bq ⟨n9,trivial⟩ (by kernel_rfl) (fun x=>by kernel_rfl)
def r9:DCode:=(.seq [1,0] (.region [oi 0 4 0]) (.seq [4] (.region [om 0 5 0,om 1 6 1,oa 2 7 (.bin .shr (.t 5) (.t 6)),oa 3 8 (.bin .and (.t 7) (.c (.int .i64 1))),om 4 4 8]) .ret))
def FO:Fn:=⟨⟨2,9,0,true,[.tmp 4],r9⟩,[.one .frz (.int .i64),.one .frz (.int .i64)],.one (.one .own (.int .i64))⟩
theorem eS:FO.A:=Bp trivial
def E2:Int×Int→Int:=FO.V
def TS:Int×Int→Prop:=FO.O
theorem eF:FO.B:=Bq trivial (by kernel_rfl) (fun x=>by kernel_rfl)
def pf:DCode:=(.seq [0] (.region [oa 0 2 (.mv (.c (.bool false)))]) (.seq [3,0] (.region [oi 0 3 0]) (.seq [] (.seq [8,7,6,3] (.region [on 0 6 0,oa 1 7 (.len (.t 6)),oi 2 8 0]) (.block 0 (.loop [3,6,7,8] 1 (.seq [9,8,7,6,3] (.region [oa 0 9 (.bin .lss (.t 8) (.t 7))]) (.seq [8,7,6,3] (.cond (.t 9) .skip (.exit 0)) (.seq [8,7,6,3] (.block 1 (.seq [8,7,6,5,3] (.region [oa 0 10 (.indexA 5 (.t 6) (.t 8)),ob 1 11 (.loadH (some 5) (.t 10)),oa 2 5 (.allocB 0 [(.int .i64 0),(.int .i64 0),(.int .i64 0),(.int .i64 0),(.int .i64 0)]),os 3 (.storeB 0 5 (.t 5) (.t 11))]) (.seq [8,7,6,5,3] (.seq [32,8,7,6,5,3] (.region [oa 0 12 (.fieldA 0 (.t 5)),oa 1 13 (.loadB 0 none (.t 12)),oa 2 14 (.bin .lss (.t 13) (.c (.int .i64 0))),om 3 15 14,og 4 16 (.fieldA 0 (.t 5)) 15 false,og 5 17 (.loadB 0 none (.t 16)) 15 false,og 6 18 (.bin .gtr (.t 17) (.c (.int .i64 31))) 15 false,oa 7 19 (.pick (.t 15) (.c (.bool true)) (.t 18)),om 8 20 19,og 9 21 (.mv (.t 3)) 20 false,og 10 22 (.fieldA 0 (.t 5)) 20 false,og 11 23 (.loadB 0 none (.t 22)) 20 false,⟨12,some 24,.call false FO.S FO.P FO.D [(.t 21),(.t 23)],(some (20,false)),[]⟩,og 13 25 (.bin .eql (.t 24) (.c (.int .i64 1))) 20 false,oa 14 26 (.pick (.t 20) (.c (.bool true)) (.t 25)),om 15 27 26,og 16 28 (.fieldA 1 (.t 5)) 27 false,og 17 29 (.loadB 0 (some 4) (.t 28)) 27 false,⟨18,some 30,.call false Ea.S Ea.P Ea.D [(.t 29)],(some (27,false)),[]⟩,og 19 31 (.un .not (.t 30)) 27 false,oa 20 32 (.pick (.t 27) (.c (.bool true)) (.t 31))]) (.cond (.t 32) (.seq [2] (.region [oa 0 2 (.mv (.c (.bool false)))]) .ret) .skip)) (.seq [8,7,6,5,3] (.seq [35,8,7,6,5,3] (.region [oa 0 33 (.fieldA 1 (.t 5)),oa 1 34 (.fieldA 0 (.t 33)),oa 2 35 (.loadB 0 none (.t 34))]) (.block 2 (.seq [36,8,7,6,5,3] (.seq [36,35,8,7,6,5,3] (.region [oa 0 37 (.bin .eql (.t 35) (.c (.int .i64 1))),om 1 36 37]) (.cond (.t 36) .skip (.seq [36,35,8,7,6,5,3] (.region [oa 0 38 (.bin .eql (.t 35) (.c (.int .i64 6))),om 1 36 38]) (.cond (.t 36) .skip (.region [oa 0 39 (.bin .eql (.t 35) (.c (.int .i64 7))),om 1 36 39]))))) (.cond (.t 36) (.seq [2] (.region [oa 0 2 (.mv (.c (.bool false)))]) .ret) .skip)))) (.region [om 0 40 3,oa 1 41 (.fieldA 0 (.t 5)),oa 2 42 (.loadB 0 none (.t 41)),oa 3 43 (.bin .shl (.c (.int .i64 1)) (.t 42)),oa 4 44 (.bin .or (.t 40) (.t 43)),om 5 3 44]))))) (.region [oa 0 45 (.bin .add (.t 8) (.c (.int .i64 1))),om 1 8 45]))))))) (.seq [2] (.region [oa 0 2 (.mv (.c (.bool true)))]) .ret))))
def Hb:Fn:=⟨⟨1,46,1,true,[.tmp 2],pf⟩,[.one .frz (.sl MM)],.one (.one .own (.bool))⟩
theorem ct:Hb.A:=Bp ⟨eS,Sy,trivial⟩
def CW:List (Int×Int×Int×Int×Int)→Bool:=Hb.V
def Pt:List (Int×Int×Int×Int×Int)→Prop:=Hb.O
theorem cn:Hb.B:=Bq ⟨eF,Sr,trivial⟩ (by kernel_rfl) (fun x=>by kernel_rfl)
end
section
set_option maxRecDepth 100000
theorem bp (x):Jh x=(bAnd (Cj (x.1,x.2.1,x.2.2.1,x.2.2.2)) (bOr (iEq x.1 6) (iEq x.1 7))):=(G0.v x).trans (by kernel_rfl)
theorem mW (x):M8 x=(Ko (x.1,x.2.1,x.2.2.1,x.2.2.2)):=(G0.o x).trans (by kernel_rfl)
@[irreducible] def Ib(x:List (Int×Int×Int×Int×Int)):Bool:=(bNot (iLt (Al (fun(x0:(Int×Int))=>(bAnd (iLt x0.2 (lLen x)) (bNot (bOr (bNot (BP ((lGet x (iNat x0.2) (0,0,0,0,0)).1,0,31))) (bOr (iEq (iAnd .i64 (iShr .i64 x0.1 (lGet x (iNat x0.2) (0,0,0,0,0)).1) 1) 1) (bOr (bNot (Cj ((lGet x (iNat x0.2) (0,0,0,0,0)).2.1,(lGet x (iNat x0.2) (0,0,0,0,0)).2.2.1,(lGet x (iNat x0.2) (0,0,0,0,0)).2.2.2.1,(lGet x (iNat x0.2) (0,0,0,0,0)).2.2.2.2))) (bOr (iEq (lGet x (iNat x0.2) (0,0,0,0,0)).2.1 1) (Jh ((lGet x (iNat x0.2) (0,0,0,0,0)).2.1,(lGet x (iNat x0.2) (0,0,0,0,0)).2.2.1,(lGet x (iNat x0.2) (0,0,0,0,0)).2.2.2.1,(lGet x (iNat x0.2) (0,0,0,0,0)).2.2.2.2))))))))) (fun(x0:(Int×Int))=>((iOr .i64 x0.1 (iShl .i64 1 (lGet x (iNat x0.2) (0,0,0,0,0)).1)),(iAdd .i64 x0.2 1))) (0,0)).2 (lLen x)))
@[irreducible] def SQ(x:List (Int×Int×Int×Int×Int)):Prop:=(LoopOk (fun(x0:(Int×Int))=>(bAnd (iLt x0.2 (lLen x)) (bNot (bOr (bNot (BP ((lGet x (iNat x0.2) (0,0,0,0,0)).1,0,31))) (bOr (iEq (iAnd .i64 (iShr .i64 x0.1 (lGet x (iNat x0.2) (0,0,0,0,0)).1) 1) 1) (bOr (bNot (Cj ((lGet x (iNat x0.2) (0,0,0,0,0)).2.1,(lGet x (iNat x0.2) (0,0,0,0,0)).2.2.1,(lGet x (iNat x0.2) (0,0,0,0,0)).2.2.2.1,(lGet x (iNat x0.2) (0,0,0,0,0)).2.2.2.2))) (bOr (iEq (lGet x (iNat x0.2) (0,0,0,0,0)).2.1 1) (Jh ((lGet x (iNat x0.2) (0,0,0,0,0)).2.1,(lGet x (iNat x0.2) (0,0,0,0,0)).2.2.1,(lGet x (iNat x0.2) (0,0,0,0,0)).2.2.2.1,(lGet x (iNat x0.2) (0,0,0,0,0)).2.2.2.2))))))))) (fun(x0:(Int×Int))=>((iOr .i64 x0.1 (iShl .i64 1 (lGet x (iNat x0.2) (0,0,0,0,0)).1)),(iAdd .i64 x0.2 1))) (fun(x0:(Int×Int))=>(((iLt x0.2 (lLen x))=true→((((0:Int)≤x0.2)∧(x0.2<(((List.length x):Int))))∧(((iNat x0.2)<(List.length x))∧(((((0:Int)≤x0.2)∧(x0.2<(((List.length x):Int))))∧(((iNat x0.2)<(List.length x))∧((Gy ((lGet x (iNat x0.2) (0,0,0,0,0)).1,0,31))∧(((bNot (BP ((lGet x (iNat x0.2) (0,0,0,0,0)).1,0,31)))=true→True)∧((bNot (BP ((lGet x (iNat x0.2) (0,0,0,0,0)).1,0,31)))=false→((((0:Int)≤x0.2)∧(x0.2<(((List.length x):Int))))∧(((iNat x0.2)<(List.length x))∧(((0:Int)≤(lGet x (iNat x0.2) (0,0,0,0,0)).1)∧(((iEq (iAnd .i64 (iShr .i64 x0.1 (lGet x (iNat x0.2) (0,0,0,0,0)).1) 1) 1)=true→True)∧((iEq (iAnd .i64 (iShr .i64 x0.1 (lGet x (iNat x0.2) (0,0,0,0,0)).1) 1) 1)=false→((Ko ((lGet x (iNat x0.2) (0,0,0,0,0)).2.1,(lGet x (iNat x0.2) (0,0,0,0,0)).2.2.1,(lGet x (iNat x0.2) (0,0,0,0,0)).2.2.2.1,(lGet x (iNat x0.2) (0,0,0,0,0)).2.2.2.2))∧(((bNot (Cj ((lGet x (iNat x0.2) (0,0,0,0,0)).2.1,(lGet x (iNat x0.2) (0,0,0,0,0)).2.2.1,(lGet x (iNat x0.2) (0,0,0,0,0)).2.2.2.1,(lGet x (iNat x0.2) (0,0,0,0,0)).2.2.2.2)))=true→True)∧((bNot (Cj ((lGet x (iNat x0.2) (0,0,0,0,0)).2.1,(lGet x (iNat x0.2) (0,0,0,0,0)).2.2.1,(lGet x (iNat x0.2) (0,0,0,0,0)).2.2.2.1,(lGet x (iNat x0.2) (0,0,0,0,0)).2.2.2.2)))=false→(((iEq (lGet x (iNat x0.2) (0,0,0,0,0)).2.1 1)=true→True)∧((iEq (lGet x (iNat x0.2) (0,0,0,0,0)).2.1 1)=false→(M8 ((lGet x (iNat x0.2) (0,0,0,0,0)).2.1,(lGet x (iNat x0.2) (0,0,0,0,0)).2.2.1,(lGet x (iNat x0.2) (0,0,0,0,0)).2.2.2.1,(lGet x (iNat x0.2) (0,0,0,0,0)).2.2.2.2)))))))))))))))))∧(((bOr (bNot (BP ((lGet x (iNat x0.2) (0,0,0,0,0)).1,0,31))) (bOr (iEq (iAnd .i64 (iShr .i64 x0.1 (lGet x (iNat x0.2) (0,0,0,0,0)).1) 1) 1) (bOr (bNot (Cj ((lGet x (iNat x0.2) (0,0,0,0,0)).2.1,(lGet x (iNat x0.2) (0,0,0,0,0)).2.2.1,(lGet x (iNat x0.2) (0,0,0,0,0)).2.2.2.1,(lGet x (iNat x0.2) (0,0,0,0,0)).2.2.2.2))) (bOr (iEq (lGet x (iNat x0.2) (0,0,0,0,0)).2.1 1) (Jh ((lGet x (iNat x0.2) (0,0,0,0,0)).2.1,(lGet x (iNat x0.2) (0,0,0,0,0)).2.2.1,(lGet x (iNat x0.2) (0,0,0,0,0)).2.2.2.1,(lGet x (iNat x0.2) (0,0,0,0,0)).2.2.2.2))))))=true→True)∧((bOr (bNot (BP ((lGet x (iNat x0.2) (0,0,0,0,0)).1,0,31))) (bOr (iEq (iAnd .i64 (iShr .i64 x0.1 (lGet x (iNat x0.2) (0,0,0,0,0)).1) 1) 1) (bOr (bNot (Cj ((lGet x (iNat x0.2) (0,0,0,0,0)).2.1,(lGet x (iNat x0.2) (0,0,0,0,0)).2.2.1,(lGet x (iNat x0.2) (0,0,0,0,0)).2.2.2.1,(lGet x (iNat x0.2) (0,0,0,0,0)).2.2.2.2))) (bOr (iEq (lGet x (iNat x0.2) (0,0,0,0,0)).2.1 1) (Jh ((lGet x (iNat x0.2) (0,0,0,0,0)).2.1,(lGet x (iNat x0.2) (0,0,0,0,0)).2.2.1,(lGet x (iNat x0.2) (0,0,0,0,0)).2.2.2.1,(lGet x (iNat x0.2) (0,0,0,0,0)).2.2.2.2))))))=false→((((0:Int)≤x0.2)∧(x0.2<(((List.length x):Int))))∧(((iNat x0.2)<(List.length x))∧((0:Int)≤(lGet x (iNat x0.2) (0,0,0,0,0)).1)))))))))∧((iLt x0.2 (lLen x))=false→True))) (0,0))
theorem W8 (x):E2 x=(iAnd .i64 (iShr .i64 x.1 x.2) 1):=(FO.v x).trans (by kernel_rfl)
theorem eG (x):TS x=((0:Int)≤x.2):=(FO.o x).trans (by kernel_rfl)
theorem WM (x):CW x=(bNot (iLt (Al (fun(x0:(Int×Int))=>(bAnd (iLt x0.2 (lLen x)) (bAnd (bNot (bOr (iLt (lGet x (iNat x0.2) (0,0,0,0,0)).1 0) (bOr (iGt (lGet x (iNat x0.2) (0,0,0,0,0)).1 31) (bOr (iEq (E2 (x0.1,(lGet x (iNat x0.2) (0,0,0,0,0)).1)) 1) (bNot (B8 ((lGet x (iNat x0.2) (0,0,0,0,0)).2.1,(lGet x (iNat x0.2) (0,0,0,0,0)).2.2.1,(lGet x (iNat x0.2) (0,0,0,0,0)).2.2.2.1,(lGet x (iNat x0.2) (0,0,0,0,0)).2.2.2.2))))))) (bNot (bOr (iEq (lGet x (iNat x0.2) (0,0,0,0,0)).2.1 1) (bOr (iEq (lGet x (iNat x0.2) (0,0,0,0,0)).2.1 6) (iEq (lGet x (iNat x0.2) (0,0,0,0,0)).2.1 7))))))) (fun(x0:(Int×Int))=>((iOr .i64 x0.1 (iShl .i64 1 (lGet x (iNat x0.2) (0,0,0,0,0)).1)),(iAdd .i64 x0.2 1))) (0,0)).2 (lLen x))):=(Hb.v x).trans (by kernel_rfl)
theorem qa (x):Pt x=(LoopOk (fun(x0:(Int×Int))=>(bAnd (iLt x0.2 (lLen x)) (bAnd (bNot (bOr (iLt (lGet x (iNat x0.2) (0,0,0,0,0)).1 0) (bOr (iGt (lGet x (iNat x0.2) (0,0,0,0,0)).1 31) (bOr (iEq (E2 (x0.1,(lGet x (iNat x0.2) (0,0,0,0,0)).1)) 1) (bNot (B8 ((lGet x (iNat x0.2) (0,0,0,0,0)).2.1,(lGet x (iNat x0.2) (0,0,0,0,0)).2.2.1,(lGet x (iNat x0.2) (0,0,0,0,0)).2.2.2.1,(lGet x (iNat x0.2) (0,0,0,0,0)).2.2.2.2))))))) (bNot (bOr (iEq (lGet x (iNat x0.2) (0,0,0,0,0)).2.1 1) (bOr (iEq (lGet x (iNat x0.2) (0,0,0,0,0)).2.1 6) (iEq (lGet x (iNat x0.2) (0,0,0,0,0)).2.1 7))))))) (fun(x0:(Int×Int))=>((iOr .i64 x0.1 (iShl .i64 1 (lGet x (iNat x0.2) (0,0,0,0,0)).1)),(iAdd .i64 x0.2 1))) (fun(x0:(Int×Int))=>(((iLt x0.2 (lLen x))=true→((((0:Int)≤x0.2)∧(x0.2<(((List.length x):Int))))∧(((iNat x0.2)<(List.length x))∧((((iLt (lGet x (iNat x0.2) (0,0,0,0,0)).1 0)=true→True)∧((iLt (lGet x (iNat x0.2) (0,0,0,0,0)).1 0)=false→(((iGt (lGet x (iNat x0.2) (0,0,0,0,0)).1 31)=true→True)∧((iGt (lGet x (iNat x0.2) (0,0,0,0,0)).1 31)=false→((TS (x0.1,(lGet x (iNat x0.2) (0,0,0,0,0)).1))∧(((iEq (E2 (x0.1,(lGet x (iNat x0.2) (0,0,0,0,0)).1)) 1)=true→True)∧((iEq (E2 (x0.1,(lGet x (iNat x0.2) (0,0,0,0,0)).1)) 1)=false→(Km ((lGet x (iNat x0.2) (0,0,0,0,0)).2.1,(lGet x (iNat x0.2) (0,0,0,0,0)).2.2.1,(lGet x (iNat x0.2) (0,0,0,0,0)).2.2.2.1,(lGet x (iNat x0.2) (0,0,0,0,0)).2.2.2.2)))))))))∧(((bOr (iLt (lGet x (iNat x0.2) (0,0,0,0,0)).1 0) (bOr (iGt (lGet x (iNat x0.2) (0,0,0,0,0)).1 31) (bOr (iEq (E2 (x0.1,(lGet x (iNat x0.2) (0,0,0,0,0)).1)) 1) (bNot (B8 ((lGet x (iNat x0.2) (0,0,0,0,0)).2.1,(lGet x (iNat x0.2) (0,0,0,0,0)).2.2.1,(lGet x (iNat x0.2) (0,0,0,0,0)).2.2.2.1,(lGet x (iNat x0.2) (0,0,0,0,0)).2.2.2.2))))))=true→True)∧((bOr (iLt (lGet x (iNat x0.2) (0,0,0,0,0)).1 0) (bOr (iGt (lGet x (iNat x0.2) (0,0,0,0,0)).1 31) (bOr (iEq (E2 (x0.1,(lGet x (iNat x0.2) (0,0,0,0,0)).1)) 1) (bNot (B8 ((lGet x (iNat x0.2) (0,0,0,0,0)).2.1,(lGet x (iNat x0.2) (0,0,0,0,0)).2.2.1,(lGet x (iNat x0.2) (0,0,0,0,0)).2.2.2.1,(lGet x (iNat x0.2) (0,0,0,0,0)).2.2.2.2))))))=false→(((bOr (iEq (lGet x (iNat x0.2) (0,0,0,0,0)).2.1 1) (bOr (iEq (lGet x (iNat x0.2) (0,0,0,0,0)).2.1 6) (iEq (lGet x (iNat x0.2) (0,0,0,0,0)).2.1 7)))=true→True)∧((bOr (iEq (lGet x (iNat x0.2) (0,0,0,0,0)).2.1 1) (bOr (iEq (lGet x (iNat x0.2) (0,0,0,0,0)).2.1 6) (iEq (lGet x (iNat x0.2) (0,0,0,0,0)).2.1 7)))=false→((0:Int)≤(lGet x (iNat x0.2) (0,0,0,0,0)).1)))))))))∧((iLt x0.2 (lLen x))=false→True))) (0,0)):=(Hb.o x).trans (by kernel_rfl)
attribute [irreducible] Jh M8 E2 TS CW Pt
end
section
set_option maxRecDepth 8000
def ou:DCode:=(.seq [1,0] (.region [oa 0 4 (.mv (.c (.bool false)))]) (.seq [1,0] (.seq [10,1,0] (.region [on 0 6 0,oa 1 7 (.len (.t 6)),on 2 8 1,oa 3 9 (.len (.t 8)),oa 4 10 (.bin .neq (.t 7) (.t 9))]) (.cond (.t 10) (.seq [4] (.region [oa 0 4 (.mv (.c (.bool false)))]) .ret) .skip)) (.seq [] (.seq [13,12,1,0] (.region [on 0 11 0,oa 1 12 (.len (.t 11)),oi 2 13 0]) (.block 0 (.loop [0,1,12,13] 1 (.seq [14,13,12,1,0] (.region [oa 0 14 (.bin .lss (.t 13) (.t 12))]) (.seq [13,12,1,0] (.cond (.t 14) .skip (.exit 0)) (.seq [13,12,1,0] (.block 1 (.seq [13,12,5,1,0] (.region [om 0 15 13,om 1 5 15]) (.seq [24,13,12,1,0] (.region [on 0 16 0,om 1 17 5,xA 2 18 (.indexA 1 (.t 16) (.t 17)) (rg 2),xA 3 19 (.loadH none (.t 18)) (rg 3),on 4 20 1,om 5 21 5,xA 6 22 (.indexA 1 (.t 20) (.t 21)) [4,5],xA 7 23 (.loadH none (.t 22)) [4,5,6],xA 8 24 (.bin .neq (.t 19) (.t 23)) (rg 8)]) (.cond (.t 24) (.seq [4] (.region [oa 0 4 (.mv (.c (.bool false)))]) .ret) .skip)))) (.region [oa 0 25 (.bin .add (.t 13) (.c (.int .i64 1))),om 1 13 25]))))))) (.seq [4] (.region [oa 0 4 (.mv (.c (.bool true)))]) .ret))))
def G4:Fn:=⟨⟨2,26,0,true,[.tmp 4],ou⟩,[.one .frz (.sl (.one (.int .i64))),.one .frz (.sl (.one (.int .i64)))],.one (.one .own (.bool))⟩
theorem nR:G4.A:=Bp trivial
def WG:List (Int)×List (Int)→Bool:=G4.V
def Wq:List (Int)×List (Int)→Prop:=G4.O
theorem oB:G4.B:=Bq trivial (by kernel_rfl) (fun x=>by kernel_rfl)
def mL:DCode:=(.seq [3,2] (.region [oa 0 2 (.boxB 0 2 (.t 0)),oa 1 3 (.boxB 1 2 (.t 1)),oa 2 4 (.mv (.c (.bool false)))]) (.seq [4] (.region [oa 0 5 (.fieldA 0 (.t 2)),oa 1 6 (.loadB 0 none (.t 5)),oa 2 7 (.fieldA 0 (.t 3)),oa 3 8 (.loadB 1 none (.t 7)),oa 4 9 (.bin .eql (.t 6) (.t 8)),om 5 10 9,og 6 11 (.fieldA 1 (.t 2)) 10 true,og 7 12 (.loadB 0 none (.t 11)) 10 true,og 8 13 (.fieldA 1 (.t 3)) 10 true,og 9 14 (.loadB 1 none (.t 13)) 10 true,⟨10,some 15,.call false G4.S G4.P G4.D [(.t 12),(.t 14)],(some (10,true)),[]⟩,oa 11 16 (.pick (.t 10) (.t 15) (.c (.bool false))),om 12 4 16]) .ret))
def GY:Fn:=⟨⟨2,17,2,true,[.tmp 4],mL⟩,[.agg [(.frz,.int .i64),(.frz,.sl (.one (.int .i64)))],.agg [(.frz,.int .i64),(.frz,.sl (.one (.int .i64)))]],.one (.one .own (.bool))⟩
theorem mR:GY.A:=Bp ⟨nR,trivial⟩
def Sn:(Int×List (Int))×(Int×List (Int))→Bool:=GY.V
def O7:(Int×List (Int))×(Int×List (Int))→Prop:=GY.O
theorem mQ:GY.B:=Bq ⟨oB,trivial⟩ (by kernel_rfl) (fun x=>by kernel_rfl)
end
section
set_option maxRecDepth 100000
@[irreducible] def bc(x:(Int×List (Int))×(Int×List (Int))):Prop:=(((bOr (iNe x.1.1 x.2.1) (iNe (lLen x.1.2) (lLen x.2.2)))=true→True)∧((bOr (iNe x.1.1 x.2.1) (iNe (lLen x.1.2) (lLen x.2.2)))=false→(LoopOk (fun(x0:Int)=>(bAnd (iLt x0 (lLen x.1.2)) (bNot (iNe (lGet x.1.2 (iNat x0) 0) (lGet x.2.2 (iNat x0) 0))))) (fun(x0:Int)=>(iAdd .i64 x0 1)) (fun(x0:Int)=>(((iLt x0 (lLen x.1.2))=true→((((0:Int)≤x0)∧(x0<(((List.length x.1.2):Int))))∧(((iNat x0)<(List.length x.1.2))∧((((0:Int)≤x0)∧(x0<(((List.length x.2.2):Int))))∧((iNat x0)<(List.length x.2.2))))))∧((iLt x0 (lLen x.1.2))=false→True))) 0)))
theorem nY (x):WG x=(bAnd (bNot (iNe (lLen x.1) (lLen x.2))) (bNot (iLt (Al (fun(x0:Int)=>(bAnd (iLt x0 (lLen x.1)) (bNot (iNe (lGet x.1 (iNat x0) 0) (lGet x.2 (iNat x0) 0))))) (fun(x0:Int)=>(iAdd .i64 x0 1)) 0) (lLen x.1)))):=(G4.v x).trans (by kernel_rfl)
theorem ox (x):Wq x=(((iNe (lLen x.1) (lLen x.2))=true→True)∧((iNe (lLen x.1) (lLen x.2))=false→(LoopOk (fun(x0:Int)=>(bAnd (iLt x0 (lLen x.1)) (bNot (iNe (lGet x.1 (iNat x0) 0) (lGet x.2 (iNat x0) 0))))) (fun(x0:Int)=>(iAdd .i64 x0 1)) (fun(x0:Int)=>(((iLt x0 (lLen x.1))=true→((((0:Int)≤x0)∧(x0<(((List.length x.1):Int))))∧(((iNat x0)<(List.length x.1))∧((((0:Int)≤x0)∧(x0<(((List.length x.2):Int))))∧((iNat x0)<(List.length x.2))))))∧((iLt x0 (lLen x.1))=false→True))) 0))):=(G4.o x).trans (by kernel_rfl)
theorem mJ (x):Sn x=(bAnd (iEq x.1.1 x.2.1) (WG (x.1.2,x.2.2))):=(GY.v x).trans (by kernel_rfl)
theorem mO (x):O7 x=(((iEq x.1.1 x.2.1)=true→(Wq (x.1.2,x.2.2)))∧((iEq x.1.1 x.2.1)=false→True)):=(GY.o x).trans (by kernel_rfl)
attribute [irreducible] WG Wq Sn O7
end
section
set_option maxRecDepth 8000
def pC:DCode:=(.seq [3,0] (.region [oa 0 3 (.boxB 0 2 (.t 1)),oi 1 4 0]) (.seq [] (.seq [9,8,7,3] (.region [on 0 7 0,oa 1 8 (.len (.t 7)),oi 2 9 0]) (.block 0 (.loop [3,7,8,9] 1 (.seq [10,9,8,7,3] (.region [oa 0 10 (.bin .lss (.t 9) (.t 8))]) (.seq [9,8,7,3] (.cond (.t 10) .skip (.exit 0)) (.seq [9,8,7,3] (.block 1 (.seq [9,8,7,6,5,3] (.region [om 0 11 9,oa 1 12 (.indexA 2 (.t 7) (.t 9)),ob 2 13 (.loadH (some 2) (.t 12)),oa 3 6 (.allocB 1 [(.int .i64 0),(.int .i64 0)]),om 4 5 11,os 5 (.storeB 1 2 (.t 6) (.t 13))]) (.seq [16,9,8,7,5,3] (.region [oa 0 14 (.loadB 1 (some 2) (.t 6)),oa 1 15 (.loadB 0 (some 2) (.t 3)),oa 2 16 (.eqA 2 false (.t 14) (.t 15))]) (.cond (.t 16) (.seq [4] (.region [om 0 17 5,om 1 4 17]) .ret) .skip)))) (.region [oa 0 18 (.bin .add (.t 9) (.c (.int .i64 1))),om 1 9 18]))))))) (.seq [4] (.region [oi 0 4 (-1)]) .ret)))
def Hc:Fn:=⟨⟨2,19,2,true,[.tmp 4],pC⟩,[.one .frz (.sl (.cons (.int .i64) (.one (.int .i64)))),.agg [(.frz,.int .i64),(.frz,.int .i64)]],.one (.one .own (.int .i64))⟩
theorem cE:Hc.A:=Bp trivial
def A7:(List (Int×Int))×(Int×Int)→Int:=Hc.V
def Nt:(List (Int×Int))×(Int×Int)→Prop:=Hc.O
theorem de:Hc.B:=Bq trivial (by kernel_rfl) (fun x=>by kernel_rfl)
def oL:DCode:=(.seq [0] (.region [oa 0 2 (.mv (.c (.bool false)))]) (.seq [0] (.seq [10,0] (.region [on 0 8 0,oa 1 9 (.len (.t 8)),oa 2 10 (.bin .gtr (.t 9) (.c (.int .i64 8)))]) (.cond (.t 10) (.seq [2] (.region [oa 0 2 (.mv (.c (.bool false)))]) .ret) .skip)) (.seq [3,0] (.region [⟨0,some 3,.aw [(0,2)] false (.mv (.c .nils)) none,none,[]⟩]) (.seq [3] (.seq [13,12,11,3] (.region [on 0 11 0,oa 1 12 (.len (.t 11)),oi 2 13 0]) (.block 0 (.loop [3,11,12,13] 1 (.seq [14,13,12,11,3] (.region [oa 0 14 (.bin .lss (.t 13) (.t 12))]) (.seq [13,12,11,3] (.cond (.t 14) .skip (.exit 0)) (.seq [13,12,11,3] (.block 1 (.seq [13,12,11,5,3] (.region [oa 0 15 (.indexA 3 (.t 11) (.t 13)),ob 1 16 (.loadH (some 3) (.t 15)),oa 2 5 (.allocB 0 [(.int .i64 0),(.int .i64 0),(.int .i64 0)]),os 3 (.storeB 0 3 (.t 5) (.t 16))]) (.seq [13,12,11,6,5,3] (.region [oa 0 17 (.fieldA 1 (.t 5)),ob 1 18 (.loadB 0 none (.t 17)),oa 2 19 (.fieldA 2 (.t 5)),ob 3 20 (.loadB 0 none (.t 19)),oa 4 21 (.build [(.int .i64 0),(.int .i64 0)] [(0,1,(.t 18)),(1,1,(.t 20))]),oa 5 6 (.allocB 1 [(.int .i64 0),(.int .i64 0)]),os 6 (.storeB 1 2 (.t 6) (.t 21))]) (.seq [13,12,11,7,6,5,3] (.region [on 0 22 3,oa 1 23 (.loadB 1 (some 2) (.t 6)),oF 2 24 Hc [(.t 22),(.t 23)],om 3 7 24]) (.seq [13,12,11,7,6,5,3] (.seq [31,13,12,11,7,6,5,3] (.region [oa 0 25 (.fieldA 1 (.t 5)),ob 1 26 (.loadB 0 none (.t 25)),oa 2 27 (.fieldA 2 (.t 5)),ob 3 28 (.loadB 0 none (.t 27)),oa 4 29 (.build [(.int .i64 0),(.int .i64 0),(.int .i64 0),(.int .i64 0)] [(0,1,(.c (.int .i64 2))),(1,1,(.t 26)),(2,1,(.t 28))]),oF 5 30 Ea [(.t 29)],oa 6 31 (.un .not (.t 30))]) (.cond (.t 31) (.seq [2] (.region [oa 0 2 (.mv (.c (.bool false)))]) .ret) .skip)) (.seq [33,13,12,11,7,6,5,3] (.region [oa 0 32 (.fieldA 0 (.t 5)),oa 1 33 (.loadB 0 none (.t 32))]) (.block 2 (.seq [34,33,13,12,11,7,6,5,3] (.seq [34,33,13,12,11,7,6,5,3] (.region [oa 0 35 (.bin .eql (.t 33) (.c (.int .i64 0))),om 1 34 35]) (.cond (.t 34) .skip (.region [oa 0 36 (.bin .eql (.t 33) (.c (.int .i64 1))),om 1 34 36]))) (.cond (.t 34) (.seq [13,12,11,6,5,3] (.seq [38,13,12,11,6,5,3] (.region [om 0 37 7,oa 1 38 (.bin .geq (.t 37) (.c (.int .i64 0)))]) (.cond (.t 38) (.seq [2] (.region [oa 0 2 (.mv (.c (.bool false)))]) .ret) .skip)) (.seq [41,13,12,11,6,3] (.region [oa 0 39 (.fieldA 0 (.t 5)),oa 1 40 (.loadB 0 none (.t 39)),oa 2 41 (.bin .eql (.t 40) (.c (.int .i64 1)))]) (.cond (.t 41) (.region [om 0 42 3,ob 1 43 (.loadB 1 (some 2) (.t 6)),⟨2,some 44,.a false (.litSlice 2 1 [(.int .i64 0),(.int .i64 0)] [(0,2,(.t 43))]) (some (.cons (.int .i64) (.one (.int .i64)))),none,[]⟩,⟨3,some 45,.aw [(0,2)] false (.app 2 (.t 42) (.t 44)) none,none,[]⟩,⟨4,some 3,.aw [(0,2)] false (.mv (.t 45)) none,none,[]⟩]) .skip))) (.seq [46,13,12,11,7,3] (.region [oa 0 47 (.bin .eql (.t 33) (.c (.int .i64 2))),om 1 46 47]) (.cond (.t 46) (.seq [13,12,11,7,3] (.seq [49,13,12,11,7,3] (.region [om 0 48 7,oa 1 49 (.bin .lss (.t 48) (.c (.int .i64 0)))]) (.cond (.t 49) (.seq [2] (.region [oa 0 2 (.mv (.c (.bool false)))]) .ret) .skip)) (.region [on 0 50 3,om 1 51 7,xA 2 52 (.slice 2 (.t 50) none (some (.t 51))) (rg 2),on 3 53 3,om 4 54 7,xA 5 55 (.bin .add (.t 54) (.c (.int .i64 1))) [4],xA 6 56 (.slice 2 (.t 53) (some (.t 55)) none) [3,4,5],⟨7,some 57,.aw [(0,2)] false (.app 2 (.t 52) (.t 56)) none,none,[0,1,2,3,4,5,6]⟩,⟨8,some 3,.aw [(0,2)] false (.mv (.t 57)) none,none,[0,1,2,3,4,5,6,7]⟩])) (.seq [2] (.region [oa 0 2 (.mv (.c (.bool false)))]) .ret)))))))))))) (.region [oa 0 58 (.bin .add (.t 13) (.c (.int .i64 1))),om 1 13 58]))))))) (.seq [2] (.region [on 0 59 3,oa 1 60 (.len (.t 59)),oa 2 61 (.bin .eql (.t 60) (.c (.int .i64 0))),om 3 2 61]) .ret)))))
def Eb:Fn:=⟨⟨1,62,2,true,[.tmp 2],oL⟩,[.one .frz (.sl I0)],.one (.one .own (.bool))⟩
theorem SK:Eb.A:=Bp ⟨cE,Sy,trivial⟩
def Ep:List (Int×Int×Int)→Bool:=Eb.V
def LG:List (Int×Int×Int)→Prop:=Eb.O
theorem SH:Eb.B:=Bq ⟨de,Sr,trivial⟩ (by kernel_rfl) (fun x=>by kernel_rfl)
end
section
set_option maxRecDepth 100000
@[irreducible] def BO(x:(List (Int×Int×Int×Int×Int))×(Int×Int×Int)):Int:=(bSel (iLt (Al (fun(x0:Int)=>(bAnd (iLt x0 (lLen x.1)) (bNot (bAnd (iEq (lGet x.1 (iNat x0) (0,0,0,0,0)).2.2.1 x.2.2.1) (iEq (lGet x.1 (iNat x0) (0,0,0,0,0)).2.2.2.1 x.2.2.2))))) (fun(x0:Int)=>(iAdd .i64 x0 1)) 0) (lLen x.1)) (Al (fun(x0:Int)=>(bAnd (iLt x0 (lLen x.1)) (bNot (bAnd (iEq (lGet x.1 (iNat x0) (0,0,0,0,0)).2.2.1 x.2.2.1) (iEq (lGet x.1 (iNat x0) (0,0,0,0,0)).2.2.2.1 x.2.2.2))))) (fun(x0:Int)=>(iAdd .i64 x0 1)) 0) (-1))
@[irreducible] def Np(x:(List (Int×Int×Int×Int×Int))×(Int×Int×Int)):Prop:=(LoopOk (fun(x0:Int)=>(bAnd (iLt x0 (lLen x.1)) (bNot (bAnd (iEq (lGet x.1 (iNat x0) (0,0,0,0,0)).2.2.1 x.2.2.1) (iEq (lGet x.1 (iNat x0) (0,0,0,0,0)).2.2.2.1 x.2.2.2))))) (fun(x0:Int)=>(iAdd .i64 x0 1)) (fun(x0:Int)=>(((iLt x0 (lLen x.1))=true→((((0:Int)≤x0)∧(x0<(((List.length x.1):Int))))∧(((iNat x0)<(List.length x.1))∧(((iEq (lGet x.1 (iNat x0) (0,0,0,0,0)).2.2.1 x.2.2.1)=true→((((0:Int)≤x0)∧(x0<(((List.length x.1):Int))))∧((iNat x0)<(List.length x.1))))∧((iEq (lGet x.1 (iNat x0) (0,0,0,0,0)).2.2.1 x.2.2.1)=false→True)))))∧((iLt x0 (lLen x.1))=false→True))) 0)
@[irreducible] def AF(x:Int×Int×Int):Int×Int×Int×Int:=(2,x.2.1,x.2.2,0)
@[irreducible] def LA(x:Int×Int×Int):Prop:=True
@[irreducible] def Dy(x:(List (Int×Int×Int×Int×Int))×Int):List (Int×Int×Int×Int×Int):=(lApp (lApp [] (lSub x.1 0 (iNat x.2))) (lSub x.1 (iNat (iAdd .i64 x.2 1)) (lN x.1)))
@[irreducible] def Pa(x:(List (Int×Int×Int×Int×Int))×Int):Prop:=((((0:Int)≤x.2)∧((0≤(iNat x.2))∧(((iNat x.2)≤(List.length x.1))∧(0<(List.length x.1)))))∧((((0:Int)≤(iAdd .i64 x.2 1))∧(((iNat (iAdd .i64 x.2 1))≤(lN x.1))∧(((lN x.1)≤(List.length x.1))∧(0<(List.length x.1)))))∧((AA (((List.length ([]:List (Int×(Int×(Int×(Int×Int))))))+(List.length (lSub x.1 0 (iNat x.2))))*5))∧(AA (((List.length (lApp [] (lSub x.1 0 (iNat x.2))))+(List.length (lSub x.1 (iNat (iAdd .i64 x.2 1)) (lN x.1))))*5)))))
@[irreducible] def Dc(x:List (Int×Int×Int)):Bool:=(bAnd (bNot (iLt (Al (fun(x0:((List (Int×(Int×(Int×(Int×Int)))))×Int))=>(bAnd (iLt x0.2 (lLen x)) (bNot (bOr (bNot (BP ((lGet x (iNat x0.2) (0,0,0)).1,0,2))) (bOr (bNot (Cj ((AF ((lGet x (iNat x0.2) (0,0,0)).1,(lGet x (iNat x0.2) (0,0,0)).2.1,(lGet x (iNat x0.2) (0,0,0)).2.2)).1,(AF ((lGet x (iNat x0.2) (0,0,0)).1,(lGet x (iNat x0.2) (0,0,0)).2.1,(lGet x (iNat x0.2) (0,0,0)).2.2)).2.1,(AF ((lGet x (iNat x0.2) (0,0,0)).1,(lGet x (iNat x0.2) (0,0,0)).2.1,(lGet x (iNat x0.2) (0,0,0)).2.2)).2.2.1,(AF ((lGet x (iNat x0.2) (0,0,0)).1,(lGet x (iNat x0.2) (0,0,0)).2.1,(lGet x (iNat x0.2) (0,0,0)).2.2)).2.2.2))) (bNot (bIff (iEq (lGet x (iNat x0.2) (0,0,0)).1 2) (iGe (BO (x0.1,(lGet x (iNat x0.2) (0,0,0)).1,(lGet x (iNat x0.2) (0,0,0)).2.1,(lGet x (iNat x0.2) (0,0,0)).2.2)) 0)))))))) (fun(x0:((List (Int×(Int×(Int×(Int×Int)))))×Int))=>((bSel (iEq (lGet x (iNat x0.2) (0,0,0)).1 1) (lApp x0.1 [(0,(AF ((lGet x (iNat x0.2) (0,0,0)).1,(lGet x (iNat x0.2) (0,0,0)).2.1,(lGet x (iNat x0.2) (0,0,0)).2.2)).1,(AF ((lGet x (iNat x0.2) (0,0,0)).1,(lGet x (iNat x0.2) (0,0,0)).2.1,(lGet x (iNat x0.2) (0,0,0)).2.2)).2.1,(AF ((lGet x (iNat x0.2) (0,0,0)).1,(lGet x (iNat x0.2) (0,0,0)).2.1,(lGet x (iNat x0.2) (0,0,0)).2.2)).2.2.1,(AF ((lGet x (iNat x0.2) (0,0,0)).1,(lGet x (iNat x0.2) (0,0,0)).2.1,(lGet x (iNat x0.2) (0,0,0)).2.2)).2.2.2)]) (bSel (iEq (lGet x (iNat x0.2) (0,0,0)).1 2) (Dy (x0.1,(BO (x0.1,(lGet x (iNat x0.2) (0,0,0)).1,(lGet x (iNat x0.2) (0,0,0)).2.1,(lGet x (iNat x0.2) (0,0,0)).2.2)))) x0.1)),(iAdd .i64 x0.2 1))) ([],0)).2 (lLen x))) (bAnd (iLe (lLen x) 8) (iEq (lLen (Al (fun(x0:((List (Int×(Int×(Int×(Int×Int)))))×Int))=>(bAnd (iLt x0.2 (lLen x)) (bNot (bOr (bNot (BP ((lGet x (iNat x0.2) (0,0,0)).1,0,2))) (bOr (bNot (Cj ((AF ((lGet x (iNat x0.2) (0,0,0)).1,(lGet x (iNat x0.2) (0,0,0)).2.1,(lGet x (iNat x0.2) (0,0,0)).2.2)).1,(AF ((lGet x (iNat x0.2) (0,0,0)).1,(lGet x (iNat x0.2) (0,0,0)).2.1,(lGet x (iNat x0.2) (0,0,0)).2.2)).2.1,(AF ((lGet x (iNat x0.2) (0,0,0)).1,(lGet x (iNat x0.2) (0,0,0)).2.1,(lGet x (iNat x0.2) (0,0,0)).2.2)).2.2.1,(AF ((lGet x (iNat x0.2) (0,0,0)).1,(lGet x (iNat x0.2) (0,0,0)).2.1,(lGet x (iNat x0.2) (0,0,0)).2.2)).2.2.2))) (bNot (bIff (iEq (lGet x (iNat x0.2) (0,0,0)).1 2) (iGe (BO (x0.1,(lGet x (iNat x0.2) (0,0,0)).1,(lGet x (iNat x0.2) (0,0,0)).2.1,(lGet x (iNat x0.2) (0,0,0)).2.2)) 0)))))))) (fun(x0:((List (Int×(Int×(Int×(Int×Int)))))×Int))=>((bSel (iEq (lGet x (iNat x0.2) (0,0,0)).1 1) (lApp x0.1 [(0,(AF ((lGet x (iNat x0.2) (0,0,0)).1,(lGet x (iNat x0.2) (0,0,0)).2.1,(lGet x (iNat x0.2) (0,0,0)).2.2)).1,(AF ((lGet x (iNat x0.2) (0,0,0)).1,(lGet x (iNat x0.2) (0,0,0)).2.1,(lGet x (iNat x0.2) (0,0,0)).2.2)).2.1,(AF ((lGet x (iNat x0.2) (0,0,0)).1,(lGet x (iNat x0.2) (0,0,0)).2.1,(lGet x (iNat x0.2) (0,0,0)).2.2)).2.2.1,(AF ((lGet x (iNat x0.2) (0,0,0)).1,(lGet x (iNat x0.2) (0,0,0)).2.1,(lGet x (iNat x0.2) (0,0,0)).2.2)).2.2.2)]) (bSel (iEq (lGet x (iNat x0.2) (0,0,0)).1 2) (Dy (x0.1,(BO (x0.1,(lGet x (iNat x0.2) (0,0,0)).1,(lGet x (iNat x0.2) (0,0,0)).2.1,(lGet x (iNat x0.2) (0,0,0)).2.2)))) x0.1)),(iAdd .i64 x0.2 1))) ([],0)).1) 0)))
@[irreducible] def SL(x:List (Int×Int×Int)):Prop:=(LoopOk (fun(x0:((List (Int×(Int×(Int×(Int×Int)))))×Int))=>(bAnd (iLt x0.2 (lLen x)) (bNot (bOr (bNot (BP ((lGet x (iNat x0.2) (0,0,0)).1,0,2))) (bOr (bNot (Cj ((AF ((lGet x (iNat x0.2) (0,0,0)).1,(lGet x (iNat x0.2) (0,0,0)).2.1,(lGet x (iNat x0.2) (0,0,0)).2.2)).1,(AF ((lGet x (iNat x0.2) (0,0,0)).1,(lGet x (iNat x0.2) (0,0,0)).2.1,(lGet x (iNat x0.2) (0,0,0)).2.2)).2.1,(AF ((lGet x (iNat x0.2) (0,0,0)).1,(lGet x (iNat x0.2) (0,0,0)).2.1,(lGet x (iNat x0.2) (0,0,0)).2.2)).2.2.1,(AF ((lGet x (iNat x0.2) (0,0,0)).1,(lGet x (iNat x0.2) (0,0,0)).2.1,(lGet x (iNat x0.2) (0,0,0)).2.2)).2.2.2))) (bNot (bIff (iEq (lGet x (iNat x0.2) (0,0,0)).1 2) (iGe (BO (x0.1,(lGet x (iNat x0.2) (0,0,0)).1,(lGet x (iNat x0.2) (0,0,0)).2.1,(lGet x (iNat x0.2) (0,0,0)).2.2)) 0)))))))) (fun(x0:((List (Int×(Int×(Int×(Int×Int)))))×Int))=>((bSel (iEq (lGet x (iNat x0.2) (0,0,0)).1 1) (lApp x0.1 [(0,(AF ((lGet x (iNat x0.2) (0,0,0)).1,(lGet x (iNat x0.2) (0,0,0)).2.1,(lGet x (iNat x0.2) (0,0,0)).2.2)).1,(AF ((lGet x (iNat x0.2) (0,0,0)).1,(lGet x (iNat x0.2) (0,0,0)).2.1,(lGet x (iNat x0.2) (0,0,0)).2.2)).2.1,(AF ((lGet x (iNat x0.2) (0,0,0)).1,(lGet x (iNat x0.2) (0,0,0)).2.1,(lGet x (iNat x0.2) (0,0,0)).2.2)).2.2.1,(AF ((lGet x (iNat x0.2) (0,0,0)).1,(lGet x (iNat x0.2) (0,0,0)).2.1,(lGet x (iNat x0.2) (0,0,0)).2.2)).2.2.2)]) (bSel (iEq (lGet x (iNat x0.2) (0,0,0)).1 2) (Dy (x0.1,(BO (x0.1,(lGet x (iNat x0.2) (0,0,0)).1,(lGet x (iNat x0.2) (0,0,0)).2.1,(lGet x (iNat x0.2) (0,0,0)).2.2)))) x0.1)),(iAdd .i64 x0.2 1))) (fun(x0:((List (Int×(Int×(Int×(Int×Int)))))×Int))=>(((iLt x0.2 (lLen x))=true→((((0:Int)≤x0.2)∧(x0.2<(((List.length x):Int))))∧(((iNat x0.2)<(List.length x))∧((Np (x0.1,(lGet x (iNat x0.2) (0,0,0)).1,(lGet x (iNat x0.2) (0,0,0)).2.1,(lGet x (iNat x0.2) (0,0,0)).2.2))∧(((Gy ((lGet x (iNat x0.2) (0,0,0)).1,0,2))∧(((bNot (BP ((lGet x (iNat x0.2) (0,0,0)).1,0,2)))=true→True)∧((bNot (BP ((lGet x (iNat x0.2) (0,0,0)).1,0,2)))=false→((LA ((lGet x (iNat x0.2) (0,0,0)).1,(lGet x (iNat x0.2) (0,0,0)).2.1,(lGet x (iNat x0.2) (0,0,0)).2.2))∧(Ko ((AF ((lGet x (iNat x0.2) (0,0,0)).1,(lGet x (iNat x0.2) (0,0,0)).2.1,(lGet x (iNat x0.2) (0,0,0)).2.2)).1,(AF ((lGet x (iNat x0.2) (0,0,0)).1,(lGet x (iNat x0.2) (0,0,0)).2.1,(lGet x (iNat x0.2) (0,0,0)).2.2)).2.1,(AF ((lGet x (iNat x0.2) (0,0,0)).1,(lGet x (iNat x0.2) (0,0,0)).2.1,(lGet x (iNat x0.2) (0,0,0)).2.2)).2.2.1,(AF ((lGet x (iNat x0.2) (0,0,0)).1,(lGet x (iNat x0.2) (0,0,0)).2.1,(lGet x (iNat x0.2) (0,0,0)).2.2)).2.2.2))))))∧(((bOr (bNot (BP ((lGet x (iNat x0.2) (0,0,0)).1,0,2))) (bOr (bNot (Cj ((AF ((lGet x (iNat x0.2) (0,0,0)).1,(lGet x (iNat x0.2) (0,0,0)).2.1,(lGet x (iNat x0.2) (0,0,0)).2.2)).1,(AF ((lGet x (iNat x0.2) (0,0,0)).1,(lGet x (iNat x0.2) (0,0,0)).2.1,(lGet x (iNat x0.2) (0,0,0)).2.2)).2.1,(AF ((lGet x (iNat x0.2) (0,0,0)).1,(lGet x (iNat x0.2) (0,0,0)).2.1,(lGet x (iNat x0.2) (0,0,0)).2.2)).2.2.1,(AF ((lGet x (iNat x0.2) (0,0,0)).1,(lGet x (iNat x0.2) (0,0,0)).2.1,(lGet x (iNat x0.2) (0,0,0)).2.2)).2.2.2))) (bNot (bIff (iEq (lGet x (iNat x0.2) (0,0,0)).1 2) (iGe (BO (x0.1,(lGet x (iNat x0.2) (0,0,0)).1,(lGet x (iNat x0.2) (0,0,0)).2.1,(lGet x (iNat x0.2) (0,0,0)).2.2)) 0)))))=true→True)∧((bOr (bNot (BP ((lGet x (iNat x0.2) (0,0,0)).1,0,2))) (bOr (bNot (Cj ((AF ((lGet x (iNat x0.2) (0,0,0)).1,(lGet x (iNat x0.2) (0,0,0)).2.1,(lGet x (iNat x0.2) (0,0,0)).2.2)).1,(AF ((lGet x (iNat x0.2) (0,0,0)).1,(lGet x (iNat x0.2) (0,0,0)).2.1,(lGet x (iNat x0.2) (0,0,0)).2.2)).2.1,(AF ((lGet x (iNat x0.2) (0,0,0)).1,(lGet x (iNat x0.2) (0,0,0)).2.1,(lGet x (iNat x0.2) (0,0,0)).2.2)).2.2.1,(AF ((lGet x (iNat x0.2) (0,0,0)).1,(lGet x (iNat x0.2) (0,0,0)).2.1,(lGet x (iNat x0.2) (0,0,0)).2.2)).2.2.2))) (bNot (bIff (iEq (lGet x (iNat x0.2) (0,0,0)).1 2) (iGe (BO (x0.1,(lGet x (iNat x0.2) (0,0,0)).1,(lGet x (iNat x0.2) (0,0,0)).2.1,(lGet x (iNat x0.2) (0,0,0)).2.2)) 0)))))=false→(((iEq (lGet x (iNat x0.2) (0,0,0)).1 1)=true→((LA ((lGet x (iNat x0.2) (0,0,0)).1,(lGet x (iNat x0.2) (0,0,0)).2.1,(lGet x (iNat x0.2) (0,0,0)).2.2))∧(AA (((List.length x0.1)+(List.length [(0,(AF ((lGet x (iNat x0.2) (0,0,0)).1,(lGet x (iNat x0.2) (0,0,0)).2.1,(lGet x (iNat x0.2) (0,0,0)).2.2)).1,(AF ((lGet x (iNat x0.2) (0,0,0)).1,(lGet x (iNat x0.2) (0,0,0)).2.1,(lGet x (iNat x0.2) (0,0,0)).2.2)).2.1,(AF ((lGet x (iNat x0.2) (0,0,0)).1,(lGet x (iNat x0.2) (0,0,0)).2.1,(lGet x (iNat x0.2) (0,0,0)).2.2)).2.2.1,(AF ((lGet x (iNat x0.2) (0,0,0)).1,(lGet x (iNat x0.2) (0,0,0)).2.1,(lGet x (iNat x0.2) (0,0,0)).2.2)).2.2.2)]))*5))))∧((iEq (lGet x (iNat x0.2) (0,0,0)).1 1)=false→(((iEq (lGet x (iNat x0.2) (0,0,0)).1 2)=true→(Pa (x0.1,(BO (x0.1,(lGet x (iNat x0.2) (0,0,0)).1,(lGet x (iNat x0.2) (0,0,0)).2.1,(lGet x (iNat x0.2) (0,0,0)).2.2)))))∧((iEq (lGet x (iNat x0.2) (0,0,0)).1 2)=false→True)))))))))))∧((iLt x0.2 (lLen x))=false→True))) ([],0))
theorem WI (x):A7 x=(bSel (iLt (Al (fun(x0:Int)=>(bAnd (iLt x0 (lLen x.1)) (bNot (bAnd (iEq (lGet x.1 (iNat x0) (0,0)).1 x.2.1) (iEq (lGet x.1 (iNat x0) (0,0)).2 x.2.2))))) (fun(x0:Int)=>(iAdd .i64 x0 1)) 0) (lLen x.1)) (Al (fun(x0:Int)=>(bAnd (iLt x0 (lLen x.1)) (bNot (bAnd (iEq (lGet x.1 (iNat x0) (0,0)).1 x.2.1) (iEq (lGet x.1 (iNat x0) (0,0)).2 x.2.2))))) (fun(x0:Int)=>(iAdd .i64 x0 1)) 0) (-1)):=(Hc.v x).trans (by kernel_rfl)
theorem p9 (x):Nt x=(LoopOk (fun(x0:Int)=>(bAnd (iLt x0 (lLen x.1)) (bNot (bAnd (iEq (lGet x.1 (iNat x0) (0,0)).1 x.2.1) (iEq (lGet x.1 (iNat x0) (0,0)).2 x.2.2))))) (fun(x0:Int)=>(iAdd .i64 x0 1)) (fun(x0:Int)=>(((iLt x0 (lLen x.1))=true→((((0:Int)≤x0)∧(x0<(((List.length x.1):Int))))∧((iNat x0)<(List.length x.1))))∧((iLt x0 (lLen x.1))=false→True))) 0):=(Hc.o x).trans (by kernel_rfl)
theorem oS (x):Ep x=(bAnd (bNot (iGt (lLen x) 8)) (bAnd (bNot (iLt (Al (fun(x0:((List (Int×Int))×Int))=>(bAnd (iLt x0.2 (lLen x)) (bAnd (bNot (bNot (B8 (2,(lGet x (iNat x0.2) (0,0,0)).2.1,(lGet x (iNat x0.2) (0,0,0)).2.2,0)))) (bSel (bOr (iEq (lGet x (iNat x0.2) (0,0,0)).1 0) (iEq (lGet x (iNat x0.2) (0,0,0)).1 1)) (bNot (iGe (A7 (x0.1,(lGet x (iNat x0.2) (0,0,0)).2.1,(lGet x (iNat x0.2) (0,0,0)).2.2)) 0)) (bAnd (iEq (lGet x (iNat x0.2) (0,0,0)).1 2) (bNot (iLt (A7 (x0.1,(lGet x (iNat x0.2) (0,0,0)).2.1,(lGet x (iNat x0.2) (0,0,0)).2.2)) 0))))))) (fun(x0:((List (Int×Int))×Int))=>((bSel (bOr (iEq (lGet x (iNat x0.2) (0,0,0)).1 0) (iEq (lGet x (iNat x0.2) (0,0,0)).1 1)) (bSel (iEq (lGet x (iNat x0.2) (0,0,0)).1 1) (lApp x0.1 [((lGet x (iNat x0.2) (0,0,0)).2.1,(lGet x (iNat x0.2) (0,0,0)).2.2)]) x0.1) (lApp (lTake x0.1 (lN (lSub x0.1 0 (iNat (A7 (x0.1,(lGet x (iNat x0.2) (0,0,0)).2.1,(lGet x (iNat x0.2) (0,0,0)).2.2)))))) (lSub x0.1 (iNat (iAdd .i64 (A7 (x0.1,(lGet x (iNat x0.2) (0,0,0)).2.1,(lGet x (iNat x0.2) (0,0,0)).2.2)) 1)) (lN x0.1)))),(iAdd .i64 x0.2 1))) ([],0)).2 (lLen x))) (iEq (lLen (Al (fun(x0:((List (Int×Int))×Int))=>(bAnd (iLt x0.2 (lLen x)) (bAnd (bNot (bNot (B8 (2,(lGet x (iNat x0.2) (0,0,0)).2.1,(lGet x (iNat x0.2) (0,0,0)).2.2,0)))) (bSel (bOr (iEq (lGet x (iNat x0.2) (0,0,0)).1 0) (iEq (lGet x (iNat x0.2) (0,0,0)).1 1)) (bNot (iGe (A7 (x0.1,(lGet x (iNat x0.2) (0,0,0)).2.1,(lGet x (iNat x0.2) (0,0,0)).2.2)) 0)) (bAnd (iEq (lGet x (iNat x0.2) (0,0,0)).1 2) (bNot (iLt (A7 (x0.1,(lGet x (iNat x0.2) (0,0,0)).2.1,(lGet x (iNat x0.2) (0,0,0)).2.2)) 0))))))) (fun(x0:((List (Int×Int))×Int))=>((bSel (bOr (iEq (lGet x (iNat x0.2) (0,0,0)).1 0) (iEq (lGet x (iNat x0.2) (0,0,0)).1 1)) (bSel (iEq (lGet x (iNat x0.2) (0,0,0)).1 1) (lApp x0.1 [((lGet x (iNat x0.2) (0,0,0)).2.1,(lGet x (iNat x0.2) (0,0,0)).2.2)]) x0.1) (lApp (lTake x0.1 (lN (lSub x0.1 0 (iNat (A7 (x0.1,(lGet x (iNat x0.2) (0,0,0)).2.1,(lGet x (iNat x0.2) (0,0,0)).2.2)))))) (lSub x0.1 (iNat (iAdd .i64 (A7 (x0.1,(lGet x (iNat x0.2) (0,0,0)).2.1,(lGet x (iNat x0.2) (0,0,0)).2.2)) 1)) (lN x0.1)))),(iAdd .i64 x0.2 1))) ([],0)).1) 0))):=(Eb.v x).trans (by kernel_rfl)
theorem oI (x):LG x=(((iGt (lLen x) 8)=true→True)∧((iGt (lLen x) 8)=false→(LoopOk (fun(x0:((List (Int×Int))×Int))=>(bAnd (iLt x0.2 (lLen x)) (bAnd (bNot (bNot (B8 (2,(lGet x (iNat x0.2) (0,0,0)).2.1,(lGet x (iNat x0.2) (0,0,0)).2.2,0)))) (bSel (bOr (iEq (lGet x (iNat x0.2) (0,0,0)).1 0) (iEq (lGet x (iNat x0.2) (0,0,0)).1 1)) (bNot (iGe (A7 (x0.1,(lGet x (iNat x0.2) (0,0,0)).2.1,(lGet x (iNat x0.2) (0,0,0)).2.2)) 0)) (bAnd (iEq (lGet x (iNat x0.2) (0,0,0)).1 2) (bNot (iLt (A7 (x0.1,(lGet x (iNat x0.2) (0,0,0)).2.1,(lGet x (iNat x0.2) (0,0,0)).2.2)) 0))))))) (fun(x0:((List (Int×Int))×Int))=>((bSel (bOr (iEq (lGet x (iNat x0.2) (0,0,0)).1 0) (iEq (lGet x (iNat x0.2) (0,0,0)).1 1)) (bSel (iEq (lGet x (iNat x0.2) (0,0,0)).1 1) (lApp x0.1 [((lGet x (iNat x0.2) (0,0,0)).2.1,(lGet x (iNat x0.2) (0,0,0)).2.2)]) x0.1) (lApp (lTake x0.1 (lN (lSub x0.1 0 (iNat (A7 (x0.1,(lGet x (iNat x0.2) (0,0,0)).2.1,(lGet x (iNat x0.2) (0,0,0)).2.2)))))) (lSub x0.1 (iNat (iAdd .i64 (A7 (x0.1,(lGet x (iNat x0.2) (0,0,0)).2.1,(lGet x (iNat x0.2) (0,0,0)).2.2)) 1)) (lN x0.1)))),(iAdd .i64 x0.2 1))) (fun(x0:((List (Int×Int))×Int))=>(((iLt x0.2 (lLen x))=true→((((0:Int)≤x0.2)∧(x0.2<(((List.length x):Int))))∧(((iNat x0.2)<(List.length x))∧((Nt (x0.1,(lGet x (iNat x0.2) (0,0,0)).2.1,(lGet x (iNat x0.2) (0,0,0)).2.2))∧((Km (2,(lGet x (iNat x0.2) (0,0,0)).2.1,(lGet x (iNat x0.2) (0,0,0)).2.2,0))∧(((bNot (B8 (2,(lGet x (iNat x0.2) (0,0,0)).2.1,(lGet x (iNat x0.2) (0,0,0)).2.2,0)))=true→True)∧((bNot (B8 (2,(lGet x (iNat x0.2) (0,0,0)).2.1,(lGet x (iNat x0.2) (0,0,0)).2.2,0)))=false→(((bOr (iEq (lGet x (iNat x0.2) (0,0,0)).1 0) (iEq (lGet x (iNat x0.2) (0,0,0)).1 1))=true→(((iGe (A7 (x0.1,(lGet x (iNat x0.2) (0,0,0)).2.1,(lGet x (iNat x0.2) (0,0,0)).2.2)) 0)=true→True)∧((iGe (A7 (x0.1,(lGet x (iNat x0.2) (0,0,0)).2.1,(lGet x (iNat x0.2) (0,0,0)).2.2)) 0)=false→(((iEq (lGet x (iNat x0.2) (0,0,0)).1 1)=true→(AA (((List.length x0.1)+(List.length [((lGet x (iNat x0.2) (0,0,0)).2.1,(lGet x (iNat x0.2) (0,0,0)).2.2)]))*2)))∧((iEq (lGet x (iNat x0.2) (0,0,0)).1 1)=false→True)))))∧((bOr (iEq (lGet x (iNat x0.2) (0,0,0)).1 0) (iEq (lGet x (iNat x0.2) (0,0,0)).1 1))=false→(((iEq (lGet x (iNat x0.2) (0,0,0)).1 2)=true→(((iLt (A7 (x0.1,(lGet x (iNat x0.2) (0,0,0)).2.1,(lGet x (iNat x0.2) (0,0,0)).2.2)) 0)=true→True)∧((iLt (A7 (x0.1,(lGet x (iNat x0.2) (0,0,0)).2.1,(lGet x (iNat x0.2) (0,0,0)).2.2)) 0)=false→((((0:Int)≤(A7 (x0.1,(lGet x (iNat x0.2) (0,0,0)).2.1,(lGet x (iNat x0.2) (0,0,0)).2.2)))∧((0≤(iNat (A7 (x0.1,(lGet x (iNat x0.2) (0,0,0)).2.1,(lGet x (iNat x0.2) (0,0,0)).2.2))))∧(((iNat (A7 (x0.1,(lGet x (iNat x0.2) (0,0,0)).2.1,(lGet x (iNat x0.2) (0,0,0)).2.2)))≤(List.length x0.1))∧(0<(List.length x0.1)))))∧((((0:Int)≤(iAdd .i64 (A7 (x0.1,(lGet x (iNat x0.2) (0,0,0)).2.1,(lGet x (iNat x0.2) (0,0,0)).2.2)) 1))∧(((iNat (iAdd .i64 (A7 (x0.1,(lGet x (iNat x0.2) (0,0,0)).2.1,(lGet x (iNat x0.2) (0,0,0)).2.2)) 1))≤(lN x0.1))∧(((lN x0.1)≤(List.length x0.1))∧(0<(List.length x0.1)))))∧((0<(List.length x0.1))∧(((List.length (lSub x0.1 0 (iNat (A7 (x0.1,(lGet x (iNat x0.2) (0,0,0)).2.1,(lGet x (iNat x0.2) (0,0,0)).2.2)))))≤(List.length x0.1))∧(AA (((List.length (lSub x0.1 0 (iNat (A7 (x0.1,(lGet x (iNat x0.2) (0,0,0)).2.1,(lGet x (iNat x0.2) (0,0,0)).2.2)))))+(List.length (lSub x0.1 (iNat (iAdd .i64 (A7 (x0.1,(lGet x (iNat x0.2) (0,0,0)).2.1,(lGet x (iNat x0.2) (0,0,0)).2.2)) 1)) (lN x0.1))))*2)))))))))∧((iEq (lGet x (iNat x0.2) (0,0,0)).1 2)=false→True)))))))))))∧((iLt x0.2 (lLen x))=false→True))) ([],0)))):=(Eb.o x).trans (by kernel_rfl)
attribute [irreducible] A7 Nt Ep LG
end
section
set_option maxRecDepth 8000
def oD:DCode:=(.seq [1] (.region [oa 0 1 (.boxB 0 2 (.t 0)),oa 1 2 (.mv (.c (.bool false)))]) (.seq [1] (.seq [12,1] (.region [oa 0 5 (.fieldA 0 (.t 1)),oa 1 6 (.loadB 0 none (.t 5)),oa 2 7 (.bin .lss (.t 6) (.c (.int .i64 0))),om 3 8 7,og 4 9 (.fieldA 0 (.t 1)) 8 false,og 5 10 (.loadB 0 none (.t 9)) 8 false,og 6 11 (.bin .gtr (.t 10) (.c (.int .i64 15))) 8 false,oa 7 12 (.pick (.t 8) (.c (.bool true)) (.t 11))]) (.cond (.t 12) (.seq [2] (.region [oa 0 2 (.mv (.c (.bool false)))]) .ret) .skip)) (.seq [] (.seq [16,15,14,1] (.region [oa 0 13 (.fieldA 1 (.t 1)),oa 1 14 (.loadB 0 none (.t 13)),oa 2 15 (.len (.t 14)),oi 3 16 0]) (.block 0 (.loop [1,14,15,16] 1 (.seq [17,16,15,14,1] (.region [oa 0 17 (.bin .lss (.t 16) (.t 15))]) (.seq [16,15,14,1] (.cond (.t 17) .skip (.exit 0)) (.seq [16,15,14,1] (.block 1 (.seq [16,15,14,4,3,1] (.region [om 0 18 16,oa 1 19 (.indexA 1 (.t 14) (.t 16)),oa 2 20 (.loadH none (.t 19)),om 3 3 18,om 4 4 20]) (.seq [37,16,15,14,1] (.region [om 0 21 4,oF 1 22 Ec [(.t 21)],oa 2 23 (.un .not (.t 22)),om 3 24 23,og 4 25 (.mv (.t 3)) 24 false,og 5 26 (.bin .gtr (.t 25) (.c (.int .i64 0))) 24 false,og 6 27 (.mv (.t 26)) 24 false,og 7 28 (.fieldA 1 (.t 1)) 27 true,og 8 29 (.loadB 0 none (.t 28)) 27 true,og 9 30 (.mv (.t 3)) 27 true,og 10 31 (.bin .sub (.t 30) (.c (.int .i64 1))) 27 true,og 11 32 (.indexA 1 (.t 29) (.t 31)) 27 true,og 12 33 (.loadH none (.t 32)) 27 true,og 13 34 (.mv (.t 4)) 27 true,og 14 35 (.bin .geq (.t 33) (.t 34)) 27 true,og 15 36 (.pick (.t 27) (.t 35) (.c (.bool false))) 24 false,oa 16 37 (.pick (.t 24) (.c (.bool true)) (.t 36))]) (.cond (.t 37) (.seq [2] (.region [oa 0 2 (.mv (.c (.bool false)))]) .ret) .skip)))) (.region [oa 0 38 (.bin .add (.t 16) (.c (.int .i64 1))),om 1 16 38]))))))) (.seq [2] (.region [oa 0 2 (.mv (.c (.bool true)))]) .ret))))
def G7:Fn:=⟨⟨1,39,1,true,[.tmp 2],oD⟩,[.agg [(.frz,.int .i64),(.frz,.sl (.one (.int .i64)))]],.one (.one .own (.bool))⟩
theorem nK:G7.A:=Bp ⟨S0,trivial⟩
def LD:Int×List (Int)→Bool:=G7.V
def Po:Int×List (Int)→Prop:=G7.O
theorem nE:G7.B:=Bq ⟨SX,trivial⟩ (by kernel_rfl) (fun x=>by kernel_rfl)
def oe:DCode:=(.seq [0] (.region [oa 0 2 (.mv (.c .nils))]) (.seq [2] (.region [on 0 3 0,oa 1 4 (.app 1 (.c .nils) (.t 3)),om 2 2 4]) .ret))
def G6:Fn:=⟨⟨1,5,0,false,[.tmp 2],oe⟩,[.one .frz (.sl (.one (.int .i64)))],.one (.one .own (.sl (.one (.int .i64))))⟩
theorem bJ:G6.A:=Bp trivial
def CA:List (Int)→List (Int):=G6.V
def Pe:List (Int)→Prop:=G6.O
theorem bE:G6.B:=Bq trivial (by kernel_rfl) (fun x=>by kernel_rfl)
end
section
set_option maxRecDepth 100000
def R8(x:Int×List (Int))(x0:Int):Bool:=(bAnd (iLt x0 (lLen x.2)) (bNot (bOr (bNot (E0 (lGet x.2 (iNat x0) 0))) (bAnd (iGt x0 0) (iGe (lGet x.2 (iNat (iSub .i64 x0 1)) 0) (lGet x.2 (iNat x0) 0))))))
def R7(x0:Int):Int:=(iAdd .i64 x0 1)
def Wc(x:Int×List (Int))(x0:Int):Prop:=(((iLt x0 (lLen x.2))=true→((((0:Int)≤x0)∧(x0<(((List.length x.2):Int))))∧(((iNat x0)<(List.length x.2))∧((LJ (lGet x.2 (iNat x0) 0))∧(((bNot (E0 (lGet x.2 (iNat x0) 0)))=true→True)∧((bNot (E0 (lGet x.2 (iNat x0) 0)))=false→(((iGt x0 0)=true→((((0:Int)≤(iSub .i64 x0 1))∧((iSub .i64 x0 1)<(((List.length x.2):Int))))∧((iNat (iSub .i64 x0 1))<(List.length x.2))))∧((iGt x0 0)=false→True))))))))∧((iLt x0 (lLen x.2))=false→True))
theorem nJ (x):LD x=(bAnd (bNot (bOr (iLt x.1 0) (iGt x.1 15))) (bNot (iLt (Al (R8 x) R7 0) (lLen x.2)))):=(G7.v x).trans (by kernel_rfl)
theorem nM (x):Po x=(((bOr (iLt x.1 0) (iGt x.1 15))=true→True)∧((bOr (iLt x.1 0) (iGt x.1 15))=false→(LoopOk (R8 x) R7 (Wc x) 0))):=(G7.o x).trans (by kernel_rfl)
theorem Sx (x):CA x=x:=(G6.v x).trans (by kernel_rfl)
theorem bO (x):Pe x=(AA ((List.length x)*1)):=(G6.o x).trans (by kernel_rfl)
attribute [irreducible] LD Po CA Pe
end
section
set_option maxRecDepth 8000
def qM:DCode:=(.seq [0] (.region [oa 0 2 (.mv (.c .undef))]) (.seq [3,0] (.region [on 0 5 0,oa 1 6 (.len (.t 5)),oa 2 7 (.bin .add (.c (.int .i64 10729)) (.t 6)),om 3 3 7]) (.seq [3,0] (.seq [4,3,0] (.region [oi 0 4 0]) (.block 0 (.loop [0,3,4] 1 (.seq [4,3,0] (.seq [15,4,3,0] (.region [om 0 8 4,on 1 9 0,oa 2 10 (.len (.t 9)),oa 3 11 (.bin .lss (.t 8) (.t 10)),om 4 12 11,og 5 13 (.mv (.t 4)) 12 true,og 6 14 (.bin .lss (.t 13) (.c (.int .i64 4000))) 12 true,oa 7 15 (.pick (.t 12) (.t 14) (.c (.bool false)))]) (.cond (.t 15) .skip (.exit 0))) (.seq [4,3,0] (.block 1 (.region [om 0 18 3,oa 1 19 (.bin .mul (.t 18) (.c (.int .i64 131))),on 2 20 0,om 3 21 4,oa 4 22 (.indexA 1 (.t 20) (.t 21)),oa 5 23 (.loadH none (.t 22)),oa 6 24 (.conv .i64 (.t 23)),oa 7 25 (.bin .add (.t 19) (.t 24)),oa 8 26 (.bin .add (.t 25) (.c (.int .i64 7))),oa 9 27 (.bin .and (.t 26) (.c (.int .i64 1073741823))),om 10 3 27])) (.region [om 0 16 4,oa 1 17 (.bin .add (.t 16) (.c (.int .i64 1))),om 2 4 17])))))) (.seq [2] (.region [om 0 28 0,om 1 29 3,oa 2 30 (.build [.nils,(.int .i64 0),(.int .i64 0)] [(0,1,(.t 28)),(2,1,(.t 29))]),oa 3 31 (.boxH 3 (.t 30)),om 4 2 31]) .ret))))
def KC:DFun:=⟨1,32,0,false,[.tmp 2],qM⟩
@[irreducible] def NF:A8:=F4 KC.er.er
@[irreducible] def PL:B3:=DH KC.er
theorem qm:Dh NF PL:=by unfold NF PL;exact Ii (f:=KC.er) trivial
def TI:List HT:=[.one .frz (.sl (.one (.int .u8)))]
def TF:List (Ql×CT):=[(.frz,.sl (.one (.int .u8))),(.own,.int .i64),(.own,.int .i64)]
@[irreducible] def Jw(x:List (Int)):List (Int)×Int×Int:=(shut fun x=>Rk KC TI TF x).1 x
@[irreducible] def NC(x:List (Int)):Prop:=(shut fun x=>Q3 KC TI TF x).1 x
def dP:D6:=UX TI TF NC Jw
theorem qJ:FY PL dP:=by unfold PL;exact fa (f:=KC) (hs:=TI) (cs:=TF) trivial (by kernel_rfl) (fun x=>by kernel_rfl) (fun x h=>by unfold NC at h;exact Eq.mp (congrFun (shut _).2 x) h) (fun x=>by unfold Jw;exact(congrFun (shut _).2 x).symm)
def pT:DCode:=(.seq [0] (.region [oi 0 2 0]) (.seq [0] (.region [om 0 4 0,om 1 5 0,oa 2 6 (.nilck (.t 5)),oa 3 7 (.fieldA 2 (.t 6)),oa 4 8 (.loadH none (.t 7)),oa 5 9 (.bin .mul (.t 8) (.c (.int .i64 6364136223846793005))),oa 6 10 (.bin .add (.t 9) (.c (.int .i64 1442695040888963407))),oa 7 11 (.nilck (.t 4)),oa 8 12 (.fieldA 2 (.t 11)),os 9 (.storeH 1 (.t 12) (.t 10))]) (.seq [3,0] (.region [om 0 13 0,xA 1 14 (.nilck (.t 13)) (rg 1),xA 2 15 (.fieldA 2 (.t 14)) (rg 2),xA 3 16 (.loadH none (.t 15)) (rg 3),xA 4 17 (.bin .shr (.t 16) (.c (.int .u64 33))) (rg 4),om 5 18 0,xA 6 19 (.nilck (.t 18)) [5],xA 7 20 (.fieldA 2 (.t 19)) [5,6],xA 8 21 (.loadH none (.t 20)) [5,6,7],xA 9 22 (.bin .shr (.t 21) (.c (.int .u64 45))) [5,6,7,8],xA 10 23 (.bin .xor (.t 17) (.t 22)) (rg 10),xA 11 24 (.bin .and (.t 23) (.c (.int .i64 255))) (rg 11),xA 12 3 (.mv (.t 24)) (rg 12)]) (.seq [3] (.seq [34,3,0] (.region [om 0 25 0,xA 1 26 (.nilck (.t 25)) (rg 1),xA 2 27 (.fieldA 1 (.t 26)) (rg 2),xA 3 28 (.loadH none (.t 27)) (rg 3),om 4 29 0,xA 5 30 (.nilck (.t 29)) [4],xA 6 31 (.fieldA 0 (.t 30)) [4,5],xA 7 32 (.loadH none (.t 31)) [4,5,6],xA 8 33 (.len (.t 32)) [4,5,6,7],xA 9 34 (.bin .lss (.t 28) (.t 33)) (rg 9)]) (.cond (.t 34) (.seq [3,0] (.region [om 0 35 3,om 1 36 0,xA 2 37 (.nilck (.t 36)) [1],xA 3 38 (.fieldA 0 (.t 37)) [1,2],xA 4 39 (.loadH none (.t 38)) [1,2,3],om 5 40 0,xA 6 41 (.nilck (.t 40)) [5],xA 7 42 (.fieldA 1 (.t 41)) [5,6],xA 8 43 (.loadH none (.t 42)) [5,6,7],xA 9 44 (.indexA 1 (.t 39) (.t 43)) [1,2,3,4,5,6,7,8],xA 10 45 (.loadH none (.t 44)) [1,2,3,4,5,6,7,8,9],xA 11 46 (.conv .i64 (.t 45)) [1,2,3,4,5,6,7,8,9,10],xA 12 47 (.bin .add (.t 35) (.t 46)) (rg 12),xA 13 48 (.bin .and (.t 47) (.c (.int .i64 255))) (rg 13),xA 14 3 (.mv (.t 48)) (rg 14)]) (.region [om 0 49 0,om 1 50 0,oa 2 51 (.nilck (.t 50)),oa 3 52 (.fieldA 1 (.t 51)),oa 4 53 (.loadH none (.t 52)),oa 5 54 (.bin .add (.t 53) (.c (.int .i64 1))),oa 6 55 (.nilck (.t 49)),oa 7 56 (.fieldA 1 (.t 55)),os 8 (.storeH 1 (.t 56) (.t 54))])) .skip)) (.seq [2] (.region [om 0 57 3,om 1 2 57]) .ret)))))
def Kw:DFun:=⟨1,58,0,false,[.tmp 2],pT⟩
@[irreducible] def Fm:A8:=F4 Kw.er.er
@[irreducible] def Ju:B3:=DH Kw.er
theorem Pu:Dh Fm Ju:=by unfold Fm Ju;exact Ii (f:=Kw.er) trivial
def Tv:List HT:=[]
def Tg:List (Ql×CT):=[(.frz,.sl (.one (.int .u8))),(.own,.int .i64),(.own,.int .i64)]
def Tn:QT:=.one (.one .own (.int .i64))
@[irreducible] def BG(x:List (Int)×Int×Int):Int×(Int×Int):=(shut fun x=>IP Kw Tv Tg Tn x).1 x
@[irreducible] def Ia(x:List (Int)×Int×Int):Prop:=(shut fun x=>II Kw Tv Tg Tn x).1 x
def NB:D6:=JO Tv Tg Tn Ia BG
theorem Pw:FY Ju NB:=by unfold Ju;exact LQ (f:=Kw) (hs:=Tv) (cs:=Tg) (q:=Tn) trivial (by kernel_rfl) (fun x=>by kernel_rfl) (fun x h=>by unfold Ia at h;exact Eq.mp (congrFun (shut _).2 x) h) (fun x=>by unfold BG;exact(congrFun (shut _).2 x).symm)
def oE:DCode:=(.seq [1,0] (.region [oi 0 4 0]) (.seq [1,0] (.seq [10,1,0] (.region [om 0 9 1,oa 1 10 (.bin .leq (.t 9) (.c (.int .i64 0)))]) (.cond (.t 10) (.seq [4] (.region [oi 0 4 0]) .ret) .skip)) (.seq [1,0] (.seq [12,1,0] (.region [om 0 11 1,oa 1 12 (.bin .leq (.t 11) (.c (.int .i64 256)))]) (.cond (.t 12) (.seq [4] (.region [om 0 13 0,op 1 14 Fm Ju NB [(.t 13)],om 2 15 1,oa 3 16 (.bin .rem (.t 14) (.t 15)),om 4 4 16]) .ret) .skip)) (.seq [5,1,0] (.region [om 0 17 0,op 1 18 Fm Ju NB [(.t 17)],om 2 5 18]) (.seq [6,5,1,0] (.region [om 0 19 0,op 1 20 Fm Ju NB [(.t 19)],om 2 6 20]) (.seq [7,6,5,1,0] (.region [om 0 21 0,op 1 22 Fm Ju NB [(.t 21)],om 2 7 22]) (.seq [8,7,6,5,1] (.region [om 0 23 0,op 1 24 Fm Ju NB [(.t 23)],om 2 8 24]) (.seq [4] (.region [om 0 25 5,oa 1 26 (.bin .mul (.t 25) (.c (.int .i64 16777216))),om 2 27 6,oa 3 28 (.bin .mul (.t 27) (.c (.int .i64 65536))),oa 4 29 (.bin .add (.t 26) (.t 28)),om 5 30 7,oa 6 31 (.bin .mul (.t 30) (.c (.int .i64 256))),oa 7 32 (.bin .add (.t 29) (.t 31)),om 8 33 8,oa 9 34 (.bin .add (.t 32) (.t 33)),om 10 35 1,oa 11 36 (.bin .rem (.t 34) (.t 35)),om 12 4 36]) .ret))))))))
def Kq:DFun:=⟨2,37,0,false,[.tmp 4],oE⟩
@[irreducible] def CB:A8:=F4 Kq.er.er
@[irreducible] def EY:B3:=DH Kq.er
theorem G8:Dh CB EY:=by unfold CB EY;exact Ii (f:=Kq.er) ⟨Pu,Pu,Pu,Pu,Pu,trivial⟩
def SU:List HT:=[.one .frz (.int .i64)]
def S5:List (Ql×CT):=[(.frz,.sl (.one (.int .u8))),(.own,.int .i64),(.own,.int .i64)]
def S4:QT:=.one (.one .own (.int .i64))
@[irreducible] def AO(x:(List (Int)×Int×Int)×Int):Int×(Int×Int):=(shut fun x=>IP Kq SU S5 S4 x).1 x
@[irreducible] def Eo(x:(List (Int)×Int×Int)×Int):Prop:=(shut fun x=>II Kq SU S5 S4 x).1 x
def Gw:D6:=JO SU S5 S4 Eo AO
theorem G3:FY EY Gw:=by unfold EY;exact LQ (f:=Kq) (hs:=SU) (cs:=S5) (q:=S4) ⟨Pw,Pw,Pw,Pw,Pw,trivial⟩ (by kernel_rfl) (fun x=>by kernel_rfl) (fun x h=>by unfold Eo at h;exact Eq.mp (congrFun (shut _).2 x) h) (fun x=>by unfold AO;exact(congrFun (shut _).2 x).symm)
def pj:DCode:=(.seq [1,0] (.region [oa 0 4 (.mv (.c (.bool false)))]) (.seq [4] (.region [om 0 5 0,om 1 6 1,op 2 7 CB EY Gw [(.t 5),(.t 6)],oa 3 8 (.bin .eql (.t 7) (.c (.int .i64 0))),om 4 4 8]) .ret))
def Kv:DFun:=⟨2,9,0,false,[.tmp 4],pj⟩
@[irreducible] def Gx:A8:=F4 Kv.er.er
@[irreducible] def KB:B3:=DH Kv.er
theorem SY:Dh Gx KB:=by unfold Gx KB;exact Ii (f:=Kv.er) ⟨G8,trivial⟩
def Tu:List HT:=[.one .frz (.int .i64)]
def To:List (Ql×CT):=[(.frz,.sl (.one (.int .u8))),(.own,.int .i64),(.own,.int .i64)]
def Tt:QT:=.one (.one .own (.bool))
@[irreducible] def Cn(x:(List (Int)×Int×Int)×Int):Bool×(Int×Int):=(shut fun x=>IP Kv Tu To Tt x).1 x
@[irreducible] def Jr(x:(List (Int)×Int×Int)×Int):Prop:=(shut fun x=>II Kv Tu To Tt x).1 x
def PH:D6:=JO Tu To Tt Jr Cn
theorem SW:FY KB PH:=by unfold KB;exact LQ (f:=Kv) (hs:=Tu) (cs:=To) (q:=Tt) ⟨G3,trivial⟩ (by kernel_rfl) (fun x=>by kernel_rfl) (fun x h=>by unfold Jr at h;exact Eq.mp (congrFun (shut _).2 x) h) (fun x=>by unfold Cn;exact(congrFun (shut _).2 x).symm)
def mY:DCode:=(.seq [1,0] (.region [oi 0 4 0]) (.seq [4] (.region [on 0 5 1,om 1 6 0,on 2 7 1,oa 3 8 (.len (.t 7)),op 4 9 CB EY Gw [(.t 6),(.t 8)],oa 5 10 (.indexA 1 (.t 5) (.t 9)),ob 6 11 (.loadH none (.t 10)),om 7 4 11]) .ret))
def Ki:DFun:=⟨2,12,0,false,[.tmp 4],mY⟩
@[irreducible] def Nf:A8:=F4 Ki.er.er
@[irreducible] def Pj:B3:=DH Ki.er
theorem m9:Dh Nf Pj:=by unfold Nf Pj;exact Ii (f:=Ki.er) ⟨G8,trivial⟩
def Ss:List HT:=[.one .frz (.sl (.one (.int .i64)))]
def Sz:List (Ql×CT):=[(.frz,.sl (.one (.int .u8))),(.own,.int .i64),(.own,.int .i64)]
def SF:QT:=.one (.one .own (.int .i64))
@[irreducible] def CP(x:(List (Int)×Int×Int)×List (Int)):Int×(Int×Int):=(shut fun x=>IP Ki Ss Sz SF x).1 x
@[irreducible] def M9(x:(List (Int)×Int×Int)×List (Int)):Prop:=(shut fun x=>II Ki Ss Sz SF x).1 x
def bz:D6:=JO Ss Sz SF M9 CP
theorem nu:FY Pj bz:=by unfold Pj;exact LQ (f:=Ki) (hs:=Ss) (cs:=Sz) (q:=SF) ⟨G3,trivial⟩ (by kernel_rfl) (fun x=>by kernel_rfl) (fun x h=>by unfold M9 at h;exact Eq.mp (congrFun (shut _).2 x) h) (fun x=>by unfold CP;exact(congrFun (shut _).2 x).symm)
def sm:DCode:=(.seq [0] (.region [oa 0 2 (.mv (.c (.bool false)))]) (.seq [2] (.region [on 0 3 0,oa 1 4 (.len (.t 3)),oa 2 5 (.bin .gtr (.t 4) (.c (.int .i64 1048576))),om 3 2 5]) .ret))
def JA:Fn:=⟨⟨1,6,0,true,[.tmp 2],sm⟩,[.one .frz (.sl (.one (.int .u8)))],.one (.one .own (.bool))⟩
theorem rI:JA.A:=Bp trivial
def KF:List (Int)→Bool:=JA.V
def TK:List (Int)→Prop:=JA.O
theorem rC:JA.B:=Bq trivial (by kernel_rfl) (fun x=>by kernel_rfl)
end
section
set_option maxRecDepth 100000
def WC(x:List (Int))(x0:(Int×Int)):Bool:=(bAnd (iLt x0.2 (lLen x)) (iLt x0.2 4000))
def bV(x:List (Int))(x0:(Int×Int)):(Int×Int):=((iAnd .i64 (iAdd .i64 (iAdd .i64 (iMul .i64 x0.1 131) (iConv .i64 (lGet x (iNat x0.2) 0))) 7) 1073741823),(iAdd .i64 x0.2 1))
def ca(x:List (Int))(x0:(Int×Int)):Prop:=(((bAnd (iLt x0.2 (lLen x)) (iLt x0.2 4000))=true→((((0:Int)≤x0.2)∧(x0.2<(((List.length x):Int))))∧((iNat x0.2)<(List.length x))))∧((bAnd (iLt x0.2 (lLen x)) (iLt x0.2 4000))=false→True))
theorem qD (x):Jw x=(x,0,(Al (WC x) (bV x) ((iAdd .i64 10729 (lLen x)),0)).1):=by unfold Jw;exact(congrFun (shut _).2 x).trans (by kernel_rfl)
theorem ql (x):NC x=(LoopOk (WC x) (bV x) (ca x) ((iAdd .i64 10729 (lLen x)),0)):=by unfold NC;exact(congrFun (shut _).2 x).trans (by kernel_rfl)
theorem pe (x):BG x=((bSel (iLt x.2.1 (lLen x.1)) (iAnd .i64 (iAdd .i64 (iAnd .i64 (iXor .i64 (iShr .i64 (iAdd .i64 (iMul .i64 x.2.2 6364136223846793005) 1442695040888963407) 33) (iShr .i64 (iAdd .i64 (iMul .i64 x.2.2 6364136223846793005) 1442695040888963407) 45)) 255) (iConv .i64 (lGet x.1 (iNat x.2.1) 0))) 255) (iAnd .i64 (iXor .i64 (iShr .i64 (iAdd .i64 (iMul .i64 x.2.2 6364136223846793005) 1442695040888963407) 33) (iShr .i64 (iAdd .i64 (iMul .i64 x.2.2 6364136223846793005) 1442695040888963407) 45)) 255)),(bSel (iLt x.2.1 (lLen x.1)) (iAdd .i64 x.2.1 1) x.2.1),(iAdd .i64 (iMul .i64 x.2.2 6364136223846793005) 1442695040888963407)):=by unfold BG;exact(congrFun (shut _).2 x).trans (by kernel_rfl)
theorem qi (x):Ia x=(((0:Int)≤33)∧(((0:Int)≤45)∧(((iLt x.2.1 (lLen x.1))=true→((((0:Int)≤x.2.1)∧(x.2.1<(((List.length x.1):Int))))∧((iNat x.2.1)<(List.length x.1))))∧((iLt x.2.1 (lLen x.1))=false→True)))):=by unfold Ia;exact(congrFun (shut _).2 x).trans (by kernel_rfl)
theorem oO (x):AO x=(bSel (iLe x.2 0) (0,x.1.2) (bSel (iLe x.2 256) ((iRem (BG x.1).1 x.2),(BG x.1).2) ((iRem (iAdd .i64 (iAdd .i64 (iAdd .i64 (iMul .i64 (BG x.1).1 16777216) (iMul .i64 (BG (x.1.1,(BG x.1).2)).1 65536)) (iMul .i64 (BG (x.1.1,(BG (x.1.1,(BG x.1).2)).2)).1 256)) (BG (x.1.1,(BG (x.1.1,(BG (x.1.1,(BG x.1).2)).2)).2)).1) x.2),(BG (x.1.1,(BG (x.1.1,(BG (x.1.1,(BG x.1).2)).2)).2)).2))):=by unfold AO;exact(congrFun (shut _).2 x).trans (by kernel_rfl)
theorem oP (x):Eo x=(((iLe x.2 0)=true→True)∧((iLe x.2 0)=false→(((iLe x.2 256)=true→((Ia x.1)∧(x.2≠0)))∧((iLe x.2 256)=false→((Ia x.1)∧((Ia (x.1.1,(BG x.1).2))∧((Ia (x.1.1,(BG (x.1.1,(BG x.1).2)).2))∧((Ia (x.1.1,(BG (x.1.1,(BG (x.1.1,(BG x.1).2)).2)).2))∧(x.2≠0))))))))):=by unfold Eo;exact(congrFun (shut _).2 x).trans (by kernel_rfl)
theorem pV (x):Cn x=((iEq (AO x).1 0),(AO x).2):=by unfold Cn;exact(congrFun (shut _).2 x).trans (by kernel_rfl)
theorem pZ (x):Jr x=(Eo x):=by unfold Jr;exact(congrFun (shut _).2 x).trans (by kernel_rfl)
theorem ny (x):CP x=((lGet x.2 (iNat (AO (x.1,(lLen x.2))).1) 0),(AO (x.1,(lLen x.2))).2):=by unfold CP;exact(congrFun (shut _).2 x).trans (by kernel_rfl)
theorem nr (x):M9 x=((Eo (x.1,(lLen x.2)))∧((((0:Int)≤(AO (x.1,(lLen x.2))).1)∧((AO (x.1,(lLen x.2))).1<(((List.length x.2):Int))))∧((iNat (AO (x.1,(lLen x.2))).1)<(List.length x.2)))):=by unfold M9;exact(congrFun (shut _).2 x).trans (by kernel_rfl)
theorem su (x):KF x=(iGt (lLen x) 1048576):=(JA.v x).trans (by kernel_rfl)
theorem rW (x):TK x=True:=(JA.o x).trans (by kernel_rfl)
attribute [irreducible] KF TK
end
open Go.RowKit
theorem HRel.below{ι:Ao}{σ:Ac}{w w':World}(H:HRel ι σ w)(B:Below w.heap.size w w'):HRel ι σ w':=by
 have far:∀ (j:Nat) (b:Blk),σ[j]?=some b→b.k≠.dead→w'.heap[(ι j).b]?=w.heap[(ι j).b]?:=fun j b hj hbk=>B.block _ (H.there j b hj hbk)
 refine⟨fun l blk h hd i v hv=>?_,fun l blk h hk=>?_,H.apart,fun l blk h hd=>HH (H.there l blk h hd) B.size⟩
 · obtain⟨c,x,hx,hr⟩:=H.cells l blk h hd i v hv;exact⟨c,x,by rw[Qs (w:=w) (far l blk h hd)];exact hx,hr⟩
 · obtain⟨g1,g2,arr,e,g3,g4⟩:=H.own l blk h hk;exact⟨g1,g2,arr,e,by rw[far l blk h (by rw[hk];decide)];exact g3,g4⟩
theorem Step.below{ι:Ao}{σ:Ac}{w w':World}(B:Below w.heap.size w w'):Step ι σ w ι σ w':=
 { Step.refl ι σ w with frame:=fun b hb _=>B.block b hb,size:=B.size,os:=B.os,output:=B.output,tape:=B.tape }
def Bw(xs:List (List UInt8))(sep:List UInt8):List UInt8:=sep.intercalate xs
def PC:A8:=fun args h Q=>∃ (u:V) (sep:List UInt8) (xs:List (List UInt8)),args=[u,.str sep]∧xs.length≤140737488355328∧(Bw xs sep).length≤140737488355328 ∧
 ((xs=[]∧(u= .nils∨∃ l o,u= .slice l o 0))∨∃ (l o:Nat) (b:Blk),u= .slice l o xs.length∧0<xs.length∧h[l]?=some b∧b.k≠.dead∧∀ (k:Nat) x,xs[k]?=some x→b.cs[o+k]?=some (.str x))∧Q (.str (Bw xs sep)) h
def wu(P:Program)(g:FuncId):Prop:=
 (∀ (bk o c:Nat) (xs:List ByteArray) (sep:ByteArray) (w:World),(∀ (j:Nat) x,xs[j]?=some x→w.cell? ⟨bk,o+j,none⟩=some (.string x))→bk<w.heap.size→xs.length≤140737488355328→xs.length≤c→(Lib.join (xs.map (·.data.toList)) sep.data.toList).length≤140737488355328 →
  Calls P g #[.slice (some ⟨bk,o,none⟩) xs.length c,.string sep] w fun e w'=>e= .returned (.string ⟨(Lib.join (xs.map (·.data.toList)) sep.data.toList).toArray⟩)∧Below w.heap.size w w') ∧
 ∀ (a:Option Addr) (c:Nat) (sep:ByteArray) (w:World),Calls P g #[.slice a 0 c,.string sep] w fun e w'=>e= .returned (.string ⟨#[]⟩)∧w'=w
theorem sG{P:Program}{g:FuncId}(hs:wu P g):Aw P g PC:=by
 rintro Φ ι σ w args xs Q hΦ H hargs ⟨u,sep,ss,rfl,hn,hlen,hu,hQ⟩ _;have hl:=hargs.1
 match xs,hl with
 | [x, y], _=>
   have hy:=E5 (hargs.2 1 _ _ rfl rfl (fun _=>0));have hx:=hargs.2 0 _ _ rfl rfl (fun _=>0);subst hy;rcases hu with⟨rfl,hu⟩|⟨l,o,b,rfl,hpos,hb,hk,hc⟩
   · have key:∃ a c,x= .slice a 0 c:=by
      rcases hu with rfl|⟨l,o,rfl⟩
      · obtain⟨a,rfl⟩:=L3 hx;exact⟨a,0,rfl⟩
      · obtain⟨_,_,⟨c,rfl,_⟩|⟨_,a,rfl⟩⟩:=E3 hx
        · exact⟨_,c,rfl⟩
        · exact⟨a,0,rfl⟩
     obtain⟨a,c,rfl⟩:=key;refine(hs.2 a c ⟨sep.toArray⟩ w).mono ?_;rintro e w' ⟨rfl,rfl⟩;exact⟨_,.str (Bw [] sep),σ,ι,rfl,hQ,hΦ,fun β=>.str _,H,.refl _ _ _⟩
   · have hl:Φ l=none:=(UR hx).1 l o _ rfl
     have hb':(kill Φ σ)[l]?=some b:=by rw[L6 hl];exact hb
     obtain⟨b1,g1,hc1⟩:=E3 hx;rw[hb'] at g1;cases g1;rcases hc1 with⟨c,rfl,c1,c2⟩|⟨h0,_⟩
     · have hbs:∀ (s:List UInt8),(ByteArray.mk s.toArray).data.toList=s:=fun s=>by simp
       have e1:(ss.map fun s=>ByteArray.mk s.toArray).map (·.data.toList)=ss:=by
        rw[List.map_map];simp[Function.comp_def]
       have hcall:=hs.1 (ι l).b ((ι l).o+o) c (ss.map fun s=>ByteArray.mk s.toArray) ⟨sep.toArray⟩ w (fun j x hx=>by
        rw[Ew] at hx
        cases hj:ss[j]? with
        |none=>rw[hj] at hx;cases hx
        | some s=>
          rw[hj] at hx;cases hx;obtain⟨_,z,q1,q2⟩:=H.cells l b hb' hk (o+j) _ (hc j s hj)
          rw[Ou,q1,E5 (q2 (fun _=>0))]) (H.there l b hb' hk) (by simpa using hn) (by simpa using c1) (by rw[e1,hbs];exact hlen)
       rw[AL,e1,hbs] at hcall;refine hcall.mono ?_;rintro e w' ⟨rfl,B⟩;exact⟨_,.str (Bw ss sep),σ,ι,rfl,hQ,hΦ,fun β=>.str _,H.below B,Step.below B⟩
     · omega
def Ud:List UInt8:=[97,32,98,32,99,32,100,32,101,32,102,32,103,32,104,32,105,32,106,32,107,32,108,32,109,32,110,32,111,32,112,32,113,32,114,32,115,32,116,32,117,32,118,32,119,32,120,32,121,32,122,32,49,32,50,32,51,32,52,32,53,32,54,32,55,32,56,32,57,32,48,32,101,110,116,101,114,32,101,115,99,32,98,97,99,107,32,116,97,98,32,115,112,97,99,101,32,109,105,110,117,115,32,101,113,117,97,108,32,108,101,102,116,32,114,105,103,104,116,32,117,112,32,100,111,119,110,32,102,49,32,102,50,32,102,51,32,102,52,32,102,53,32,102,54,32,102,55,32,102,56,32,102,57]
def Cx:List (List UInt8):=[[97],[98],[99],[100],[101],[102],[103],[104],[105],[106],[107],[108],[109],[110],[111],[112],[113],[114],[115],[116],[117],[118],[119],[120],[121],[122],[49],[50],[51],[52],[53],[54],[55],[56],[57],[48],[101,110,116,101,114],[101,115,99],[98,97,99,107],[116,97,98],[115,112,97,99,101],[109,105,110,117,115],[101,113,117,97,108],[108,101,102,116],[114,105,103,104,116],[117,112],[100,111,119,110],[102,49],[102,50],[102,51],[102,52],[102,53],[102,54],[102,55],[102,56],[102,57]]
def LF:A8:=fun args h Q=>∃ s sep:List UInt8,args=[.str s,.str sep]∧s.length<4294967281∧1≤sep.length∧Q (.slice h.length 0 (Lib.split s sep).length) (h++[⟨.own,1,(Lib.split s sep).map .str⟩])
def gx(P:Program)(g:FuncId):Prop:=∃ gm,P.globalNamed "internal/bytealg.MaxLen"= some gm∧∀ (s sep:List UInt8) (m:Int) (w:World),s.length<4294967281→1≤sep.length→w.cell? ⟨gm,0,none⟩=some (.int .i64 m) →
 Calls P g #[.string ⟨s.toArray⟩,.string ⟨sep.toArray⟩] w fun e w'=>∃ T,e= .returned (.slice (some ⟨w.heap.size,0,none⟩) (Lib.split s sep).length (Lib.split s sep).length)∧w'=w.alloc (.cells ((Lib.split s sep).map fun s=>Value.string ⟨s.toArray⟩).toArray T)
theorem Gl.maxLen{P:Program}{ι:Ao}{σ:Ac}{w:World}(h:Gl P ι σ w){gm:Nat}(hg:P.globalNamed "internal/bytealg.MaxLen"= some gm):∃ m,w.cell? ⟨gm,0,none⟩=some (.int .i64 m):=by
 obtain⟨cs,h1,h2⟩:=h.1 "internal/bytealg.MaxLen" (by simp[KR]) gm hg
 unfold Mw at h2;rw[Ad (by decide),Ab rfl] at h2;obtain⟨m,hm⟩:=h2
 exact⟨m,by
  have:w.cell? ⟨gm,0,none⟩=cs[0]?:=by
   simp only[World.var?,hg,Fu] at h1;split at h1<;>simp_all [World.cell?]
  rw[this,hm]⟩
theorem rT{P:Program}{g:FuncId}(hs:gx P g):Aw P g LF:=by
 obtain⟨gm,hgm,hs⟩:=hs;rintro Φ ι σ w args xs Q hΦ H hargs ⟨s,sep,rfl,hs1,hs2,hQ⟩ hG;have hl:=hargs.1;obtain⟨m,hm⟩:=hG.maxLen hgm
 match xs,hl with
 | [x, y],_=>
   have hx:=E5 (hargs.2 0 _ _ rfl rfl (fun _=>0));have hy:=E5 (hargs.2 1 _ _ rfl rfl (fun _=>0));subst hx;subst hy;refine(hs s sep m w hs1 hs2 hm).mono ?_;rintro e w' ⟨T,rfl,rfl⟩;generalize Lib.split s sep=ws at hQ
   have hcl:RelCells ι (kill Φ σ) (ws.map .str) (ws.map fun s=>Value.string ⟨s.toArray⟩).toArray.toList:=by
    refine⟨by simp,fun i v hv=>?_⟩;rw[Ew] at hv
    cases hi:ws[i]? with
    |none=>rw[hi] at hv;cases hv
    | some s=>
      rw[hi] at hv;cases hv;exact⟨rfl,.string ⟨s.toArray⟩,by simp[hi],fun β=>.str s⟩
   have B:BRel ι (kill Φ σ) (fun _=>0) [] w w:=⟨fun i cs h=>by simp at h,fun i cs h=>by simp at h,fun i j cs ds _ h=>by simp at h,fun i cs l blk h=>by simp at h⟩;have S:SRel ι (kill Φ σ) (fun _=>0) [] #[]:=⟨AU _,fun i=>by rw[show get [] i=V.undef from rfl];exact Rel.undef _⟩;obtain⟨g1,_,_,g2⟩:=NV H B S (ws.map fun s=>Value.string ⟨s.toArray⟩).toArray T 1 (ws.map .str) hcl;rw[← JF hΦ] at g1 g2;refine⟨_,.slice σ.length 0 ws.length,_,_,rfl,hQ,hΦ.push _,fun β=>?_,g1,g2⟩;have hlen:(kill Φ σ).length=σ.length:=Dt Φ σ;rw[JF hΦ]
   have:=Rel.slice (ι:=upd ι (kill Φ σ).length ⟨w.heap.size,0,(ws.map fun s=>Value.string ⟨s.toArray⟩).toArray.size⟩) (σ:=kill Φ σ++[⟨.own,1,ws.map .str⟩]) (β:=β) σ.length 0 ws.length ws.length ⟨.own,1,ws.map .str⟩
    (by rw[← hlen];simp) (AU _) (by rw[← hlen,Cb];simp) (AU _)
   rw[← hlen,Cb] at this;rw[← hlen];simpa using this
def Ps:A8:=fun args h Q=>∃ s sub:List UInt8,args=[.str s,.str sub]∧s.length<4294967281∧Q (.int .i64 (Lib.index s sub)) h
def e9(P:Program)(g:FuncId):Prop:=∃ gm,P.globalNamed "internal/bytealg.MaxLen"= some gm∧∀ (s sub:ByteArray) (m:Int) (w:World),s.size<4294967281→w.cell? ⟨gm,0,none⟩=some (.int .i64 m) →
 Calls P g #[.string s,.string sub] w fun e w'=>e= .returned (.int .i64 (Lib.index s.data.toList sub.data.toList))∧w'=w
theorem rm{P:Program}{g:FuncId}(hs:e9 P g):Aw P g Ps:=by
 obtain⟨gm,hgm,hs⟩:=hs;rintro Φ ι σ w args xs Q hΦ H hargs ⟨s,b,rfl,hlt,hQ⟩ hG;have hl:=hargs.1;obtain⟨m,hm⟩:=hG.maxLen hgm
 match xs,hl with
 | [x,y],_=>
   have hx:=E5 (hargs.2 0 _ _ rfl rfl (fun _=>0));have hy:=E5 (hargs.2 1 _ _ rfl rfl (fun _=>0));subst hx;subst hy;refine(hs ⟨s.toArray⟩ ⟨b.toArray⟩ m w (by simpa [ByteArray.size] using hlt) hm).mono ?_;rintro e w' ⟨rfl,rfl⟩;exact⟨_,.int .i64 (Lib.index s b),σ,ι,rfl,hQ,hΦ,fun β=>by simpa using Rel.int .i64 _,H,.refl _ _ _⟩
def Px:A8:=fun args h Q=>∃ s:List UInt8,args=[.str s]∧s.length≤18∧Q (.tup [.int .i64 ((Lib.atoi s).getD 0),.ifc (Lib.atoi s).isSome]) h
def iy(P:Program)(g:FuncId):Prop:=∃ ge,P.globalNamed "strconv.ErrSyntax"= some ge ∧
 (∀ (s:ByteArray) (n:Int) (w:World),s.size≤18→Lib.atoi s.data.toList=some n→Calls P g #[.string s] w fun e w'=>e= .returned (.tuple #[.int .i64 n,.nilIface])∧Below w.heap.size w w') ∧
 ∀ (s:ByteArray) (t:TypeId) (p:Value) (w:World),s.size≤18→Lib.atoi s.data.toList=none→w.var? P "strconv.ErrSyntax"= some #[.iface t p]→Calls P g #[.string s] w fun e w'=>(∃ T v,e= .returned (.tuple #[.int .i64 0,.iface T v]))∧Below w.heap.size w w'
theorem jH{ι:Ao}{σ:Ac}{β:Nat→Nat}{a b:V}{x y:Value}(ha:a.ok1=true)(hb:b.ok1=true)(h1:Rel ι σ β a x)(h2:Rel ι σ β b y):Rel ι σ β (.tup [a,b]) (.tuple #[x,y]):=by
 refine Rel.tup [a,b] [x,y] rfl (fun v hv=>?_) (fun i v w hv hw=>?_)
 · simp only[BE,List.not_mem_nil,or_false] at hv;rcases hv with rfl|rfl
   · exact ha
   · exact hb
 · match i with
   |0=>cases hv;cases hw;exact h1
   |1=>cases hv;cases hw;exact h2
   |n+2=>cases hv
theorem tj{P:Program}{g:FuncId}(hs:iy P g):Aw P g Px:=by
 obtain⟨ge,hge,hok,herr⟩:=hs;rintro Φ ι σ w args xs Q hΦ H hargs ⟨s,rfl,hlt,hQ⟩ hG;have hl:=hargs.1
 match xs,hl with
 | [x],_=>
   have hx:=E5 (hargs.2 0 _ _ rfl rfl (fun _=>0));subst hx
   have hsz:(ByteArray.mk s.toArray).size≤18:=by simpa [ByteArray.size] using hlt
   have hd:(ByteArray.mk s.toArray).data.toList=s:=by simp
   cases ha:Lib.atoi s with
   | some n=>
     rw[ha] at hQ;refine(hok ⟨s.toArray⟩ n w hsz (by rw[hd];exact ha)).mono ?_;rintro e w' ⟨rfl,B⟩;exact⟨_,.tup [.int .i64 n,.ifc true],σ,ι,rfl,hQ,hΦ,fun β=>jH rfl rfl (.int .i64 n) .nilIfc,H.below B,Step.below B⟩
   | none=>
     rw[ha] at hQ
     obtain⟨cs,h1,h2⟩:=hG.1 "strconv.ErrSyntax" (by simp[KR]) ge hge
     unfold Mw at h2;rw[Ab rfl] at h2;obtain⟨t,p,rfl⟩:=h2;refine(herr ⟨s.toArray⟩ t p w hsz (by rw[hd];exact ha) h1).mono ?_;rintro e w' ⟨⟨T,v,rfl⟩,B⟩;exact⟨_,.tup [.int .i64 0,.ifc false],σ,ι,rfl,hQ,hΦ,fun β=>jH rfl rfl (.int .i64 0) (.ifc T v),H.below B,Step.below B⟩
def OW:A8:=fun args h Q=>∃ (s:List UInt8) (b:UInt8),args=[.str s,.str [b]]∧Q (.int .i64 (Lib.indexByte s b)) h
def vo(P:Program)(g:FuncId):Prop:=∀ (s:ByteArray) (c:UInt8) (w:World),Calls P g #[.string s,.string ⟨#[c]⟩] w fun e w'=>e= .returned (.int .i64 (Lib.indexByte s.data.toList c))∧w'=w
theorem rY{P:Program}{g:FuncId}(hs:vo P g):Aw P g OW:=by
 rintro Φ ι σ w args xs Q hΦ H hargs ⟨s,b,rfl,hQ⟩ _;have hl:=hargs.1
 match xs,hl with
 | [x,y],_=>
   have hx:=E5 (hargs.2 0 _ _ rfl rfl (fun _=>0));have hy:=E5 (hargs.2 1 _ _ rfl rfl (fun _=>0));subst hx;subst hy;refine(hs ⟨s.toArray⟩ b w).mono ?_;rintro e w' ⟨rfl,rfl⟩;exact⟨_,.int .i64 (Lib.indexByte s b),σ,ι,rfl,hQ,hΦ,fun β=>by simpa using Rel.int .i64 _,H,.refl _ _ _⟩
def Pv:A8:=fun args h Q=>∃ i:Int,args=[.int .i64 i]∧-9223372036854775808≤i∧i≤9223372036854775807∧Q (.str (Lib.itoa i)) h
def iL(P:Program)(g:FuncId):Prop:=∃ gt,P.globalNamed "internal/strconv.uint64pow10"= some gt∧∀ (i:Int) (_:-9223372036854775808≤i) (_:i≤9223372036854775807) (w:World),w.var? P "internal/strconv.uint64pow10"= some ((List.range 20).map fun i=>Value.int .u64 ((10^i:Nat):Int)).toArray →
 Calls P g #[.int .i64 i] w fun e w'=>e= .returned (.string ⟨(Lib.itoa i).toArray⟩)∧Below w.heap.size w w'
theorem tu{P:Program}{g:FuncId}(hs:iL P g):Aw P g Pv:=by
 obtain⟨gt,hgt,hs⟩:=hs;rintro Φ ι σ w args xs Q hΦ H hargs ⟨i,rfl,h0,h1,hQ⟩ hG;have hl:=hargs.1
 match xs,hl with
 | [x],_=>
   have hx:=D0 (hargs.2 0 _ _ rfl rfl (fun _=>0));subst hx
   obtain⟨cs,g1,g2⟩:=hG.1 "internal/strconv.uint64pow10" (by simp[KR]) gt hgt
   unfold Mw at g2;rw[Ad (by decide),Ad (by decide)] at g2;subst g2;refine(hs i h0 h1 w g1).mono ?_;rintro e w' ⟨rfl,B⟩;exact⟨_,.str (Lib.itoa i),σ,ι,rfl,hQ,hΦ,fun β=>.str _,H.below B,Step.below B⟩
section
set_option maxRecDepth 8000
def pL(hs:List HT)(q:QT)(ok:TuX hs→Prop)(v:TuX hs→q.D):B3:=fun args H Q=>∃ x:TuX hs,DV.encL (C9 hs x)=args∧ok x∧Q (q.dv (v x)).enc H
theorem NW(hs:List HT)(q:QT)(ok:TuX hs→Prop)(v:TuX hs→q.D):HC (pL hs q ok v) (HI hs q ok v):=by
 intro args g w Q h hg hQ;unfold HI at h
 cases hx:Ff hs args with
 |none=>rw[hx] at h;cases h
 | some x=>
   rw[hx] at h;simp only[Ai,Aj] at h;obtain⟨rfl,rfl⟩:=h;exact⟨x,OJ hx,hg,hQ []⟩
theorem UO{h h0:Ac}{ω0 ω:Nat→W}{ρ:Nat→Nat}{args:List PV}{us:List V}{H:List (List PV)}(R:RS h0 ω0 ω ρ ⟨args,[],H⟩ ⟨us,[],h⟩ X0)(x:V)(hx:x.flat=true):RS h0 ω0 ω ρ ⟨[],[],H⟩ ⟨[],[],h⟩ (X1 (.fl x) x):=by
 have e:∀ p:List Nat,((PV.fl x).fcell p= .fl .undef)∨((PV.fl x).fcell p= .fl x∧x.fcell p=x):=by
  intro p
  match p with
  |[]=>exact .inl rfl
  |[0]=>right;cases x<;>first|exact⟨rfl,rfl⟩|cases hx
  |[n+1]=>exact .inl rfl
  |_::_::_=>exact .inl (by simp[PV.fcell])
 refine(R.forget).handx ?_ (fun p=>?_) (fun p i pb tp=>?_)
 · cases x<;>first|trivial|(refine⟨fun us h=>?_,fun us h=>?_⟩<;>cases h)|cases hx
 · rcases e p with e|⟨e1,e2⟩
   · rw[e];exact .undef _ _
   · rw[e1,e2];exact .v _ _ hx
 · rcases e p with e|⟨e1,e2⟩
   · rw[e];simp[PV.q]
   · rw[e1];simp[PV.q]
theorem Vf(x:V):(PV.fl x).nob:=by
 intro p hb pb tp
 match p with
 |[]=>simp[PV.fcell,PV.q]
 |[0]=>simp[PV.fcell,PV.q]
 |[n+1]=>simp[PV.fcell,PV.q]
 |_::_::_=>simp[PV.fcell,PV.q]
theorem It{h0:Ac}{ω0 ω:Nat→W}{ρ:Nat→Nat}{st:PS}{us:St}(R:RS h0 ω0 ω ρ st us X0)(t:Nat){v:PV}(hv:Aa st.sl t=v)(h1:∀ cs,v≠.agg cs)(h2:∀ vs,v≠.tup vs)(h3:v≠.fl .undef):RC us.hp ω (.at (.s t) [0]) v (get us.sl t):=by
 have r:RC us.hp ω (.at (.s t) [0]) ((Aa st.sl t).fcell [0]) ((get us.sl t).fcell [0]):=R.core.rc (.s t) [0];have sh:=R.sh t;rw[hv] at r sh
 have e1:v.fcell [0]=v:=by cases v<;>first|rfl|exact absurd rfl (h1 _)|exact absurd rfl (h2 _)
 have e2:(get us.sl t).fcell [0]=get us.sl t:=by
  have s1:(∀ us',get us.sl t≠.agg us')∧∀ us',get us.sl t≠.tup us':=by
   cases v with
   |agg cs=>exact absurd rfl (h1 _)
   |tup vs=>exact absurd rfl (h2 _)
   |fl x=>cases x<;>first|exact absurd rfl h3|exact sh
   |_=>exact sh
  generalize get us.sl t=u at s1
  cases u<;>first|rfl|exact absurd rfl (s1.1 _)|exact absurd rfl (s1.2 _)
 rw[e1,e2] at r;exact r
def Fc(l:List (List UInt8)):List (List PV):=l.map fun s=>[.fl (.str s)]
theorem fx(l:List (List UInt8)):(Fc l).flatten=l.map fun s=>.fl (.str s):=by
 induction l with
 |nil=>rfl
 |cons n r ih=>simpa [Fc] using ih
theorem uL{l:List (List UInt8)}{k:Nat}(h:k<l.length):Aa (Fc l).flatten k= .fl (.str (l[k])):=by
 rw[fx,DZ,Ew,AE h];rfl
def cr:List HT:=[.one .frz (.sl (.one .str)),.one .frz .str]
def df:QT:=.one (.one .own .str)
@[irreducible] def Ns(x:List (List UInt8)×List UInt8):List UInt8:=(shut fun(x:List (List UInt8)×List UInt8)=>Bw x.1 x.2).1 x
@[irreducible] def Ni(x:List (List UInt8)×List UInt8):Prop:=(shut fun(x:List (List UInt8)×List UInt8)=>x.1.length≤140737488355328∧(Bw x.1 x.2).length≤140737488355328).1 x
theorem b9 (x):Ns x=Bw x.1 x.2:=by unfold Ns;exact congrFun (shut _).2 x
theorem b8 (x):Ni x=(x.1.length≤140737488355328∧(Bw x.1 x.2).length≤140737488355328):=by unfold Ni;exact congrFun (shut _).2 x
def di:Fh:=HI cr df Ni Ns
@[irreducible] def Pz:B3:=pL cr df Ni Ns
theorem o9:HC Pz di:=by unfold Pz;exact NW _ _ _ _
theorem oV:Dh PC Pz:=by
 unfold Pz;rintro h ω0 ρ args us H Q K R hloc ⟨⟨(xs:List (List UInt8)),(sep:List UInt8)⟩,rfl,hok,hQ⟩ hK;have hlen:=R.lsl
 match us,hlen with
 | [u1,u2],_=>
   have c1:RC h ω0 (.at (.s 0) [0]) (.sl .frz (Fc xs)) u1:=It (us:=⟨[u1,u2],[],h⟩) R 0 rfl (by simp) (by simp) (by simp);have c2:RC h ω0 (.at (.s 1) [0]) (.fl (.str sep)) u2:=It (us:=⟨[u1,u2],[],h⟩) R 1 rfl (by simp) (by simp) (by simp)
   have e2:u2= .str sep:=by cases c2;rfl
   subst e2;have hok:Ni (xs,sep):=hok;have hQ:Q (.fl (.str (Ns (xs,sep)))) H:=hQ;rw[b8] at hok;rw[b9] at hQ;refine⟨u1,sep,xs,rfl,hok.1,hok.2,?_,hK _ _ _ _ _ _ hQ (UO R _ rfl) (Vf _)⟩;generalize hes:Fc xs=es at c1
   have hxl:es.length=xs.length:=by rw[← hes];simp[Fc]
   cases c1 with
   |nil=>exact .inl ⟨D2 (by rw[← hxl];rfl),.inl rfl⟩
   | sl _ _ _ l o n b hb hk hc hne hn hw hle hr=>
     subst hes;rcases Mn xs.length with h0|h0
     · exact .inl ⟨D2 h0,.inr ⟨l,o,by rw[hn,hxl,h0]⟩⟩
     · refine .inr ⟨l,o,b,by rw[hn,hxl],h0,hb,hk,fun k x hx=>?_⟩
       have hkl:k<xs.length:=by
        rcases Bn k xs.length with h|h
        · exact h
        · rw[Bv h] at hx;cases hx
       have hbw:b.w=1:=by
        obtain⟨y,ys,rfl⟩:=List.exists_cons_of_length_pos h0;have:=hw [.fl (.str y)] (by simp[Fc]);simpa using this.symm
       rw[hxl,hbw,IA] at hle hr;have r:=hr k hkl;rw[uL hkl] at r;rw[AE hkl] at hx;cases hx
       have e:get b.cs (o+k)= .str (xs[k]):=by
        generalize get b.cs (o+k)=z at r
        cases r with
        |v=>rfl
       rw[CI,AE (show o+k<b.cs.length by omega)] at e;rw[AE (show o+k<b.cs.length by omega)];simpa using e
def bR:List HT:=[.one .frz .str,.one .frz .str]
def cj:QT:=.one (.one .own (.sl (.one .str)))
@[irreducible] def En(x:List UInt8×List UInt8):List (List UInt8):=(shut fun(x:List UInt8×List UInt8)=>Lib.split x.1 x.2).1 x
@[irreducible] def Kk(x:List UInt8×List UInt8):Prop:=(shut fun(x:List UInt8×List UInt8)=>x.1.length<4294967281∧1≤x.2.length).1 x
theorem bu (x):En x=(Lib.split x.1 x.2):=by unfold En;exact congrFun (shut _).2 x
theorem bN (x):Kk x=(x.1.length<4294967281∧1≤x.2.length):=by unfold Kk;exact congrFun (shut _).2 x
def WB:Fh:=HI bR cj Kk En
@[irreducible] def Nk:B3:=pL bR cj Kk En
theorem bG:HC Nk WB:=by unfold Nk;exact NW _ _ _ _
theorem vL(s sep:List UInt8):Lib.split s sep≠[]:=by
 unfold Lib.split;generalize Lib.count s sep=k
 cases k with
 |zero=>simp[Lib.splitK]
 |succ k=>unfold Lib.splitK;split<;>simp
theorem yc{h h0:Ac}{ω0 ω:Nat→W}{ρ:Nat→Nat}{args:List PV}{us:List V}{H:List (List PV)}(R:RS h0 ω0 ω ρ ⟨args,[],H⟩ ⟨us,[],h⟩ X0)(l:List (List UInt8))(hl:l≠[]) :
 ∃ ω',RS h0 ω0 ω' ρ ⟨[],[],H⟩ ⟨[],[],h++[⟨.own,1,l.map .str⟩]⟩ (X1 (.sl .own (Fc l)) (.slice h.length 0 l.length)):=by
 have hz:(l.map V.str).all V.flat=true:=by simp[V.flat]
 have h1:=(R.forget).handz hz
 have e1:(l.map V.str).map Bo=l.map fun s=>PV.fl (.str s):=by rw[List.map_map];rfl
 rw[e1] at h1
 have hc:Bj (l.map fun s=>PV.fl (.str s))=true:=by
  rw[← e1];exact LX hz
 obtain⟨ω',h2⟩:=h1.newslice (es:=Fc l) (w:=1) hc (by intro e;exact hl (by simpa [Fc] using e)) (fun e he=>by simp only[Fc,List.mem_map] at he;obtain⟨_,_,rfl⟩:=he;rfl) (fun k _=>by rw[fx]) (by simp[Fc])
 have e2:(Fc l).length=l.length:=by simp[Fc]
 rw[e2] at h2
 exact⟨ω',h2⟩
theorem yF(es:List (List PV)):(PV.sl .own es).nob:=by
 intro p hb pb tp
 match p with
 |[]=>simp[PV.fcell,PV.q]
 |[0]=>simp[PV.fcell,PV.q]
 |[n+1]=>simp[PV.fcell,PV.q]
 |_::_::_=>simp[PV.fcell,PV.q]
theorem bF:Dh LF Nk:=by
 unfold Nk;rintro h ω0 ρ args us H Q K R hloc ⟨⟨(s:List UInt8),(sep:List UInt8)⟩,rfl,hok,hQ⟩ hK;have hlen:=R.lsl
 match us,hlen with
 | [u1,u2],_=>
   have c1:RC h ω0 (.at (.s 0) [0]) (.fl (.str s)) u1:=It (us:=⟨[u1,u2],[],h⟩) R 0 rfl (by simp) (by simp) (by simp);have c2:RC h ω0 (.at (.s 1) [0]) (.fl (.str sep)) u2:=It (us:=⟨[u1,u2],[],h⟩) R 1 rfl (by simp) (by simp) (by simp)
   have e1:u1= .str s:=by cases c1;rfl
   have e2:u2= .str sep:=by cases c2;rfl
   subst e1;subst e2;have hok:Kk (s,sep):=hok;have hQ:Q (.sl .own (Fc (En (s,sep)))) H:=hQ;rw[bN] at hok;rw[bu] at hQ;obtain⟨ω',R'⟩:=yc R (Lib.split s sep) (vL s sep);exact⟨s,sep,rfl,hok.1,hok.2,hK _ _ _ _ _ _ hQ R' (yF _)⟩
def aK:List HT:=[.one .frz .str,.one .frz .str]
def aL:QT:=.one (.one .own (.int .i64))
@[irreducible] def D9(x:List UInt8×List UInt8):Int:=(shut fun(x:List UInt8×List UInt8)=>Lib.indexByte x.1 (x.2.getD 0 0)).1 x
@[irreducible] def Kb(x:List UInt8×List UInt8):Prop:=(shut fun(x:List UInt8×List UInt8)=>x.2.length=1).1 x
theorem V4 (x):D9 x=Lib.indexByte x.1 (x.2.getD 0 0):=by unfold D9;exact congrFun (shut _).2 x
theorem V5 (x):Kb x=(x.2.length=1):=by unfold Kb;exact congrFun (shut _).2 x
def aJ:Fh:=HI aK aL Kb D9
@[irreducible] def OV:B3:=pL aK aL Kb D9
theorem lR:HC OV aJ:=by unfold OV;exact NW _ _ _ _
theorem lS:Dh OW OV:=by
 unfold OV;rintro h ω0 ρ args us H Q K R hloc ⟨⟨(s:List UInt8),(sep:List UInt8)⟩,rfl,hok,hQ⟩ hK;have hlen:=R.lsl
 match us,hlen with
 | [u1,u2],_=>
   have c1:RC h ω0 (.at (.s 0) [0]) (.fl (.str s)) u1:=It (us:=⟨[u1,u2],[],h⟩) R 0 rfl (by simp) (by simp) (by simp);have c2:RC h ω0 (.at (.s 1) [0]) (.fl (.str sep)) u2:=It (us:=⟨[u1,u2],[],h⟩) R 1 rfl (by simp) (by simp) (by simp)
   have e1:u1= .str s:=by cases c1;rfl
   have e2:u2= .str sep:=by cases c2;rfl
   subst e1;subst e2;have hok:Kb (s,sep):=hok;have hQ:Q (.fl (.int .i64 (D9 (s,sep)))) H:=hQ;rw[V5] at hok;rw[V4] at hQ;obtain⟨b,rfl⟩:=List.length_eq_one_iff.1 hok;exact⟨s,b,rfl,hK _ _ _ _ _ _ hQ (UO R _ rfl) (Vf _)⟩
def dj:List HT:=[.one .frz (.int .i64)]
def dk:QT:=.one (.one .own .str)
@[irreducible] def Nr(x:Int):List UInt8:=(shut fun(x:Int)=>Lib.itoa x).1 x
@[irreducible] def Nj(x:Int):Prop:=(shut fun(x:Int)=>-9223372036854775808≤x∧x≤9223372036854775807).1 x
theorem WH (x):Nr x=(Lib.itoa x):=by unfold Nr;exact congrFun (shut _).2 x
theorem WE (x):Nj x=(-9223372036854775808≤x∧x≤9223372036854775807):=by unfold Nj;exact congrFun (shut _).2 x
def cz:Fh:=HI dj dk Nj Nr
@[irreducible] def PD:B3:=pL dj dk Nj Nr
theorem oN:HC PD cz:=by unfold PD;exact NW _ _ _ _
theorem oZ:Dh Pv PD:=by
 unfold PD;rintro h ω0 ρ args us H Q K R hloc ⟨(x:Int),rfl,hok,hQ⟩ hK;have hlen:=R.lsl
 match us,hlen with
 | [u1],_=>
   have c1:RC h ω0 (.at (.s 0) [0]) (.fl (.int .i64 x)) u1:=It (us:=⟨[u1],[],h⟩) R 0 rfl (by simp) (by simp) (by simp)
   have e1:u1= .int .i64 x:=by cases c1;rfl
   subst e1;have hok:Nj x:=hok;have hQ:Q (.fl (.str (Nr x))) H:=hQ;rw[WE] at hok;rw[WH] at hQ;exact⟨x,rfl,hok.1,hok.2,hK _ _ _ _ _ _ hQ (UO R _ rfl) (Vf _)⟩
def cg:List HT:=[.one .frz .str,.one .frz .str]
def bZ:QT:=.one (.one .own (.int .i64))
@[irreducible] def FK(x:List UInt8×List UInt8):Int:=(shut fun(x:List UInt8×List UInt8)=>Lib.index x.1 x.2).1 x
@[irreducible] def Nb(x:List UInt8×List UInt8):Prop:=(shut fun(x:List UInt8×List UInt8)=>x.1.length<4294967281).1 x
theorem bD (x):FK x=(Lib.index x.1 x.2):=by unfold FK;exact congrFun (shut _).2 x
theorem bB (x):Nb x=(x.1.length<4294967281):=by unfold Nb;exact congrFun (shut _).2 x
def bX:Fh:=HI cg bZ Nb FK
@[irreducible] def Pp:B3:=pL cg bZ Nb FK
theorem nV:HC Pp bX:=by unfold Pp;exact NW _ _ _ _
theorem nz:Dh Ps Pp:=by
 unfold Pp;rintro h ω0 ρ args us H Q K R hloc ⟨⟨(s:List UInt8),(sep:List UInt8)⟩,rfl,hok,hQ⟩ hK;have hlen:=R.lsl
 match us,hlen with
 | [u1,u2],_=>
   have c1:RC h ω0 (.at (.s 0) [0]) (.fl (.str s)) u1:=It (us:=⟨[u1,u2],[],h⟩) R 0 rfl (by simp) (by simp) (by simp);have c2:RC h ω0 (.at (.s 1) [0]) (.fl (.str sep)) u2:=It (us:=⟨[u1,u2],[],h⟩) R 1 rfl (by simp) (by simp) (by simp)
   have e1:u1= .str s:=by cases c1;rfl
   have e2:u2= .str sep:=by cases c2;rfl
   subst e1;subst e2;have hok:Nb (s,sep):=hok;have hQ:Q (.fl (.int .i64 (FK (s,sep)))) H:=hQ;rw[bB] at hok;rw[bD] at hQ;exact⟨s,sep,rfl,hok,hK _ _ _ _ _ _ hQ (UO R _ rfl) (Vf _)⟩
def cV:List HT:=[.one .frz .str]
def cA:QT:=.tup [.one .own (.int .i64),.one .own .ifc]
@[irreducible] def DU(x:List UInt8):Int×Bool:=(shut fun(x:List UInt8)=>((Lib.atoi x).getD 0,(Lib.atoi x).isSome)).1 x
@[irreducible] def Nh(x:List UInt8):Prop:=(shut fun(x:List UInt8)=>x.length≤18).1 x
theorem ck (x):DU x=(((Lib.atoi x).getD 0,(Lib.atoi x).isSome)):=by unfold DU;exact congrFun (shut _).2 x
theorem b7 (x):Nh x=(x.length≤18):=by unfold Nh;exact congrFun (shut _).2 x
def cZ:Fh:=HI cV cA Nh DU
@[irreducible] def Py:B3:=pL cV cA Nh DU
theorem oY:HC Py cZ:=by unfold Py;exact NW _ _ _ _
theorem iY{x:V}(hx:x.flat=true):Shp1 (.fl x) x:=by
 cases x<;>first|trivial|(refine⟨fun us h=>?_,fun us h=>?_⟩<;>cases h)|cases hx
theorem fJ{x:V}(hx:x.flat=true):x.cells=[x]:=by
 cases x<;>first|rfl|cases hx
theorem xL{h h0:Ac}{ω0 ω:Nat→W}{ρ:Nat→Nat}{args:List PV}{us:List V}{H:List (List PV)}(R:RS h0 ω0 ω ρ ⟨args,[],H⟩ ⟨us,[],h⟩ X0)(x y:V)(hx:x.flat=true)(hy:y.flat=true) :
 RS h0 ω0 ω ρ ⟨[],[],H⟩ ⟨[],[],h⟩ (X1 (.tup [.fl x,.fl y]) (.tup [x,y]))∧(PV.tup [.fl x,.fl y]).nob:=by
 have e:∀ p:List Nat,((PV.tup [.fl x,.fl y]).fcell p= .fl .undef)∨∃ z,z.flat=true∧(PV.tup [.fl x,.fl y]).fcell p= .fl z∧(V.tup [x,y]).fcell p=z:=by
  intro p
  match p with
  |[]=>exact .inl rfl
  |[_]=>exact .inl rfl
  |[0,0]=>exact .inr ⟨x,hx,rfl,by show get x.cells 0=x;rw[fJ hx];rfl⟩
  |[1,0]=>exact .inr ⟨y,hy,rfl,by show get y.cells 0=y;rw[fJ hy];rfl⟩
  |[0,c+1]=>exact .inl rfl
  |[1,c+1]=>exact .inl rfl
  |[i+2,0]=>exact .inl rfl
  |[i+2,c+1]=>exact .inl rfl
  |_::_::_::_=>exact .inl rfl
 refine⟨(R.forget).handx ⟨[x,y],rfl,rfl,fun i=>?_⟩ (fun p=>?_) (fun p i pb tp=>?_),fun p hb pb tp=>?_⟩
 · match i with
   |0=>exact iY hx
   |1=>exact iY hy
   |n+2=>trivial
 · rcases e p with e|⟨z,hz,e1,e2⟩
   · rw[e];exact .undef _ _
   · rw[e1,e2];exact .v _ _ hz
 · rcases e p with e|⟨z,hz,e1,e2⟩
   · rw[e];simp[PV.q]
   · rw[e1];simp[PV.q]
 · rcases e p with e|⟨z,hz,e1,e2⟩
   · rw[e];simp[PV.q]
   · rw[e1];simp[PV.q]
theorem o8:Dh Px Py:=by
 unfold Py;rintro h ω0 ρ args us H Q K R hloc ⟨(x:List UInt8),rfl,hok,hQ⟩ hK;have hlen:=R.lsl
 match us,hlen with
 | [u1],_=>
   have c1:RC h ω0 (.at (.s 0) [0]) (.fl (.str x)) u1:=It (us:=⟨[u1],[],h⟩) R 0 rfl (by simp) (by simp) (by simp)
   have e1:u1= .str x:=by cases c1;rfl
   subst e1;have hok:Nh x:=hok;have hQ:Q (.tup [.fl (.int .i64 (DU x).1),.fl (.ifc (DU x).2)]) H:=hQ;rw[b7] at hok;rw[ck] at hQ;have r:=xL R (.int .i64 ((Lib.atoi x).getD 0)) (.ifc (Lib.atoi x).isSome) rfl rfl;exact⟨x,rfl,hok,hK _ _ _ _ _ _ hQ r.1 r.2⟩
end
end
end Go.Ag
