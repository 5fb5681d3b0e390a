/- Part 5 of what FnLayers needs. No conditions. -/
import Derived.WalkKit
import Derived.ProofKit
import Derived.OpenShut
import Derived.Carry
import Derived.ChangeSame
import Derived.KernelRfl
import Derived.Test.YtbkpfpcnjpggaaaLibD
namespace Go.Ag
set_option linter.unusedSimpArgs false
set_option linter.unusedVariables false
noncomputable section
theorem Vq(d:DS)(c:Opnd)(t:Bool):ChgS d (setc d c t):=by
 cases c with
 |t g=>exact Q6 d g t
 |c v=>exact ChgS.refl d
theorem VU{d:DS}{s:PS}{c:Opnd}{b:Bool}(hs:ES d s)(h:c.pev s.sl= .fl (.bool b)):ES (setc d c b) s:=by
 cases c with
 |t g=>exact V8 hs h
 |c v=>exact hs
theorem Fv:∀ (c:DCode) (d:DS),(dev c d).All (ChgS d)
 |.skip,d=>ChgS.refl d
 |.region ops,d=>Q4 ops d (ChgS.refl d)
 | .regionU ops,d=>by
   simp only[dev]
   split
   · exact Q4 ops d (ChgS.refl d)
   · trivial
 | .seq l a b,d=>by
   refine DT.then_all (Fv a d.clean) (fun st h=>?_) (fun st h=>h.rem)
   have h1:ChgS d (Ic d (Ph l st)):=(h.trans (aY l st)).rem
   exact DT.All.imp (fun _ h2=>h1.trans h2) (Fv b _)
 | .cond c a b,d=>by
   simp only[dev]
   cases hc:c.dev d.sl with
   | bool t=>
     cases t with
     |lit t=>cases t<;>first|exact Fv a d|exact Fv b d
     |dyn t=>exact⟨DT.All.imp (fun _ h=>(Vq d c true).trans h) (Fv a _),DT.All.imp (fun _ h=>(Vq d c false).trans h) (Fv b _)⟩
   |_=>trivial
 |.block i a,d=>DT.unexit_all i (Fv a d)
 |.loop live n a,d=>cg (fun d=>Fv a d.clean) d
 |.exit i,d=>ChgS.refl d
 |.ret,d=>ChgS.refl d
theorem Ex:∀ (c:DCode),AllD c.obs→∀ {d d':DS} {s:PS} {e:AExit} {k:D6},ES d s→(dev c d).ok.den→(dev c d).lf=some (e,d')→(∀ s',ES d' s'→k e s')→EK c.er k s
 | .skip,_,d,d',s,e,k,hs,hok,hl,hk=>by
   simp only[dev,DT.lf,Aj,Ak] at hl
   obtain⟨rfl,rfl⟩:=hl
   exact hk s hs
 | .region ops,ho,d,d',s,e,k,hs,hok,hl,hk=>by
   have he:=WT ops hl
   subst he
   exact Sb ops ho rfl hk d s hs hok hl
 | .regionU ops,ho,d,d',s,e,k,hs,hok,hl,hk=>by
   simp only[dev] at hok hl
   split at hok
   · rename_i hp
     rw[Ab hp] at hl
     have he:=WT ops hl
     subst he
     exact⟨hp,Sb ops ho rfl hk d s hs hok hl⟩
   · exact hok.elim
 | .seq l a b,ho,d,d',s,e,k,hs,hok,hl,hk=>by
   obtain⟨h1,h2⟩:=ho.app
   obtain⟨hoa,hc⟩:=DT.then_s (Fv a d.clean) hok hl
   simp only[DCode.er,EK]
   rcases hc with⟨st0,m,hla,hm,hch,hob,hlb⟩|⟨he,st0,hla,rfl⟩
   · refine Ex a h1 hs.clean hoa hla fun s' hs'=>?_
     exact Ex b h2 (((hm s' hs').trim l).rem) hob hlb hk
   · refine Ex a h1 hs.clean hoa hla fun s' hs'=>?_
     cases e<;>first|(cases he;done)|exact hk s' hs'.rem
 | .cond c a b,ho,d,d',s,e,k,hs,hok,hl,hk=>by
   obtain⟨h1,h2⟩:=ho.app
   have hv:=c.dev_ev hs
   simp only[dev] at hok hl
   simp only[DCode.er,EK]
   cases hc:c.dev d.sl with
   | bool t=>
     rw[hc] at hok hl hv
     have hp:=hv.of (by simp)
     simp only[DV.enc] at hp
     rw[hp]
     simp only
     cases t with
     | lit t=>
       cases t with
       |true=>exact Ex a h1 hs hok hl hk
       |false=>exact Ex b h2 hs hok hl hk
     | dyn t=>
       have hok:=(PX.if_den _ _ _).mp hok
       cases t with
       |true=>exact Ex a h1 (VU hs hp) (hok.1 rfl) hl hk
       |false=>exact Ex b h2 (VU hs hp) (hok.2 rfl) hl hk
   |_=>rw[hc] at hok;exact hok.elim
 | .block i a,ho,d,d',s,e,k,hs,hok,hl,hk=>by
   simp only[dev,DT.unexit_ok,DT.unexit_lf] at hok hl
   obtain⟨e0,d0,h0⟩:=DT.ok_lf hok
   rw[h0] at hl
   simp only[BI,Aj,Ak] at hl
   obtain⟨rfl,rfl⟩:=hl
   refine Ex a ho hs hok h0 fun s' hs'=>?_
   have:=hk s' hs'
   cases e0 with
   |normal=>exact this
   |ret=>exact this
   | exit j=>
     simp only[Ru]
     simp only[AExit.un] at this
     split
     · rename_i hj;rw[Ab hj] at this;exact this
     · rename_i hj;rw[Ae hj] at this;exact this
 | .loop live n a,ho,d,d',s,e,k,hs,hok,hl,hk=>by
   simp only[dev] at hok hl
   exact fp (fun d=>Fv a d.clean) (fun d s e d' k hs hok hl hk=>Ex a ho hs.clean hok hl hk) hs hok hl hk
 | .exit i,_,d,d',s,e,k,hs,hok,hl,hk=>by
   simp only[dev,DT.lf,Aj,Ak] at hl
   obtain⟨rfl,rfl⟩:=hl
   exact hk s hs
 | .ret,_,d,d',s,e,k,hs,hok,hl,hk=>by
   simp only[dev,DT.lf,Aj,Ak] at hl
   obtain⟨rfl,rfl⟩:=hl
   exact hk s hs
mutual
def DV.flt:DV→Bool
 |.bool _|.int _ _|.str _|.ifc _=>true
 |.agg cs=>DV.fltL cs
 |.tup vs=>DV.fltL vs
 |_=>false
def DV.fltL:List DV→Bool
 |[]=>true
 |v::r=>v.flt&&DV.fltL r
end
mutual
theorem Rk:∀ (v:DV),v.flt=true→v.enc.flt=true
 |.bool _,_|.int _ _,_|.str _,_|.ifc _,_=>rfl
 |.agg cs,h=>QO cs h
 |.tup cs,h=>QO cs h
theorem QO:∀ (l:List DV),DV.fltL l=true→PV.fltL (DV.encL l)=true
 |[],_=>rfl
 | v::r,h=>by
   simp only[DV.fltL,Ah] at h
   simp only[DV.encL,PV.fltL,Rk v h.1,QO r h.2,B8]
end
theorem QR:∀ (l:List DV),Gj l=true→DV.okL l=true
 |[],_=>rfl
 | v::r,h=>by
   simp only[Gj,Ah] at h
   have:v.ok=true:=by cases v<;>first|rfl|(have:=h.1;cases this)
   simp only[DV.okL,this,QR r h.2,B8]
theorem EBx.segm2{a:List DC}{b:List PV}{o n:Nat}(h:EBx a b)(hl:o+n≤a.length)(hk:DV.okL (Bf (A0 a) o n)=true):Go.Ag.segm b o n=DV.encL (Bf (A0 a) o n)∧o+n≤b.length:=by
 rcases h with rfl|h
 · simp only[Br,Nat.le_zero_eq,Nat.add_eq_zero_iff] at hl;obtain⟨rfl,rfl⟩:=hl;refine⟨?_,IP _⟩;cases b<;>rfl
 · exact⟨h.segm o n hk,by rw[← h.len];exact hl⟩
theorem QZ{st st':DS}{s:PS}{r:ARes}{v:DV}(hs:ES st s)(h:G4 st r=some (v,st'))(hv:v.ok=true):∃ s',F8 s r=some (v.enc,s')∧ES st' s':=by
 cases r with
 | tmp t=>
   simp only[G4] at h;split at h
   · rename_i hc;simp only[Ah] at hc;simp only[Aj] at h
     have hk:(AK (.t t) st).1.ok=true:=by
      have:(AK (.t t) st).1=v:=by simp only[AK,h]
      rw[this];exact hv
     obtain⟨m1,m2⟩:=Di (.t t) hs hk
     have hne:AR st.sl t≠.any:=by intro e;rw[e] at hc;cases hc.2
     have hp:=(hs.sl.get t).of hne;simp only[AK,h,mvOut] at m1 m2;refine⟨(Dy (Aa s.sl t) t s).2,?_,m2⟩;simp only[F8];rw[Ab (by rw[hp];exact bl _ hc.1),← m1]
   · cases h
 | cell t n=>
   simp only[G4] at h;have hp:=hs.sl.get t
   cases hv:AR st.sl t with
   | box i o=>
     rw[hv] at h hp;have hp:=hp.of (by simp);simp only at h;split at h
     · rename_i hc;simp only[Ah] at hc;simp only[Bb] at h;obtain⟨⟨g,r⟩,h1,h2⟩:=h;simp only at h2;subst h2;obtain⟨e1,e2⟩:=(hs.bx.get i).segm2 (BS hc.1) (QR _ hc.2)
       have hg:g= .tt:=by
        unfold I6 at h1;simp only[AE] at h1;split at h1
        · simp only[Bb,Ak] at h1;obtain⟨_,_,rfl,_⟩:=h1;rfl
        · cases h1
       subst hg;obtain⟨s',e3,e4⟩:=TP (p:=.box i o) hs (.inr rfl) h1;refine⟨s',?_,e4⟩;simp only[F8,hp,DV.enc];rw[Ab ⟨e2,by rw[e1];exact N9 _ hc.2⟩];exact e3
     · cases h
   | ptr i o=>
     rw[hv] at h hp;have hp:=hp.of (by simp);simp only at h;split at h
     · rename_i hc;simp only[Ah] at hc;simp only[Bb] at h;obtain⟨⟨g,r⟩,h1,h2⟩:=h;simp only at h2;subst h2;obtain⟨e1,e2⟩:=(hs.hp.get i).segm2 (BS hc.1) (QR _ hc.2)
       have hg:g= .tt∧i<st.hp.length:=by
        unfold HR at h1;simp only[AE] at h1;split at h1
        · rename_i hb;simp only[Ah] at hb;simp only[Bb,Ak] at h1;obtain⟨_,_,rfl,_⟩:=h1;exact⟨rfl,BS hb.1.1⟩
        · cases h1
       obtain⟨rfl,hi⟩:=hg;obtain⟨s',e3,e4⟩:=TJ (p:=.ptr i o) hs (.inr rfl) h1 trivial;refine⟨s',?_,e4⟩;simp only[F8,hp,DV.enc];rw[Ab ⟨by rw[← hs.hp.len];exact hi,e2,by rw[e1];exact N9 _ hc.2⟩];exact e3
     · cases h
   |_=>rw[hv] at h;cases h
theorem QF:∀ {res:List ARes} {st st':DS} {s:PS} {vs:List DV},ES st s→Fu st res=some (vs,st')→DV.okL vs=true→∃ s',Fq s res=some (DV.encL vs,s')∧ES st' s'
 | [],st,st',s,vs,hs,h,_=>by
   simp only[Fu,Aj,Ak] at h
   obtain⟨rfl,rfl⟩:=h
   exact⟨s,rfl,hs⟩
 | r :: rs,st,st',s,vs,hs,h,hk=>by
   simp only[Fu] at h
   split at h
   · rename_i v st1 h1
     split at h
     · rename_i vs1 st2 h2
       simp only[Aj,Ak] at h
       obtain⟨rfl,rfl⟩:=h
       simp only[DV.okL,Ah] at hk
       obtain⟨s1,e1,e2⟩:=QZ hs h1 hk.1
       obtain⟨s2,e3,e4⟩:=QF e2 h2 hk.2
       exact⟨s2,by simp only[Fq,e1,e3,DV.encL],e4⟩
     · cases h
   · cases h
theorem V6:∀ {res:List ARes} {st:DS} {s:PS} {v:DV},ES st s→Et st res=some v→v.ok=true→∃ s',Gm s res=some (v.enc,s'):=by
 have gen:∀ {res:List ARes} {st:DS} {s:PS} {v:DV},ES st s→v.ok=true→(Fu st res).map (fun x=>DV.tup x.1)=some v→∃ s',(Fq s res).map (fun(vs,st)=>(PV.tup vs,st))=some (v.enc,s'):=fun hs hv h=>by
  simp only[Bb] at h;obtain⟨⟨vs,st'⟩,h1,rfl⟩:=h;obtain⟨s',e1,_⟩:=QF hs h1 hv;exact⟨s',by rw[e1];rfl⟩
 intro res st s v hs h hv
 cases res with
 |nil=>exact gen (res:=[]) hs hv h
 | cons r rs=>
   cases rs with
   | nil=>
     simp only[Et,Bb] at h;obtain⟨⟨v',st'⟩,h1,rfl⟩:=h;obtain⟨s',e1,_⟩:=QZ hs h1 hv;exact⟨s',e1⟩
   |cons r2 rs=>exact gen (res:=r::r2::rs) hs hv h
theorem KC {res:List ARes}:∀ {t:DT} {g:PX} {v:DV},t.val res=(g,some v)→v≠.any→g.den →
 t.ok.den∧∃ e st v0,t.lf=some (e,st)∧(∀ i,e≠.exit i)∧Et st res=some v0∧v0.ok=true∧v.enc=v0.enc
 | .leaf e st,g,v,h,hv,hg=>by
   have gen:(match Et st res with|some v=>if (v.ok&&!v.hasPtr)=true then (PX.tt,some v) else (PX.ff,none)|none=>(PX.ff,none))=(g,some v)→Et st res=some v∧v.ok=true:=fun h=>by
    split at h
    · split at h
      · rename_i h1 h2;simp only[Ak,Aj] at h;obtain⟨_,rfl⟩:=h;simp only[Ah] at h2;exact⟨h1,h2.1⟩
      · simp at h
    · simp at h
   cases e with
   |exit i=>simp[DT.val] at h
   |normal=>obtain⟨h1,h2⟩:=gen h;exact⟨trivial,.normal,st,v,rfl,by simp,h1,h2,rfl⟩
   |ret=>obtain⟨h1,h2⟩:=gen h;exact⟨trivial,.ret,st,v,rfl,by simp,h1,h2,rfl⟩
 | .node c a b,g,v,h,hv,hg=>by
   simp only[DT.val] at h
   have hno:∀ {t:DT} {g:PX},t.val res=(g,none)→¬ g.den:=by
    intro t
    induction t with
    | leaf e st=>
      intro g h;cases e<;>simp only[DT.val] at h<;>(repeat' split at h)<;>simp only[Ak,reduceCtorEq,and_false,J7] at h<;>subst h<;>exact id
    | node c x y ih1 ih2=>
      intro g h hg;simp only[DT.val] at h
      cases h1:x.val res with
      | mk g1 v1=>
        cases h2:y.val res with
        | mk g2 v2=>
          rw[h1,h2] at h
          cases v1 with
          | none=>
            simp only[Ak] at h;obtain⟨rfl,rfl⟩:=h;have:=(PX.if_den _ _ _).mp hg
            cases c with
            |true=>exact ih1 h1 (this.1 rfl)
            |false=>exact ih2 h2 (this.2 rfl)
          |some v1=>cases v2<;>simp at h
    | chk g0 t ih=>
      intro g h hg;simp only[DT.val] at h
      cases h1:t.val res with
      | mk g1 v1=>
        rw[h1] at h;simp only[Ak] at h;obtain⟨rfl,rfl⟩:=h;exact ih h1 ((PX.land_den _ _).mp hg).2
    | bad=>
      intro g h;simp only[DT.val,Ak,J7] at h;subst h;exact id
   cases h1:a.val res with
   | mk g1 v1=>
     cases h2:b.val res with
     | mk g2 v2=>
       rw[h1,h2] at h
       have fin:∀ (v1 v2:DV),g=PX.if' c g1 g2→a.val res=(g1,some v1)→b.val res=(g2,some v2)→v=Ca c v1 v2→(DT.node c a b).ok.den∧∃ e st v0,(DT.node c a b).lf=some (e,st)∧(∀ i,e≠.exit i)∧Et st res=some v0∧v0.ok=true∧v.enc=v0.enc:=by
        intro v1 v2 hgg h1 h2 hvv;subst hgg;have hg:=(PX.if_den _ _ _).mp hg;have he:=(ON c v1 v2).resolve_left (by rw[← hvv];exact hv);rw[← hvv] at he
        have n1:v1≠.any:=by rintro rfl;apply hv;rw[hvv];cases v2<;>rfl
        have n2:v2≠.any:=by rintro rfl;apply hv;rw[hvv];cases v1<;>rfl
        show (PX.if' c a.ok b.ok).den∧∃ e st v0,(DT.node c a b).lf=some (e,st)∧(∀ i,e≠.exit i)∧Et st res=some v0∧v0.ok=true∧v.enc=v0.enc;rw[PX.if_den]
        cases c with
        | true=>
          obtain⟨k1,e,st,v0,k2,k3,k4,k5,k6⟩:=KC h1 n1 (hg.1 rfl);exact⟨⟨fun _=>k1,fun h=>by cases h⟩,e,st,v0,k2,k3,k4,k5,by rw[he];exact k6⟩
        | false=>
          obtain⟨k1,e,st,v0,k2,k3,k4,k5,k6⟩:=KC h2 n2 (hg.2 rfl);exact⟨⟨fun h=>(by cases h),fun _=>k1⟩,e,st,v0,k2,k3,k4,k5,by rw[he];exact k6⟩
       cases v1 with
       | none=>
         simp only[Ak] at h;obtain⟨rfl,rfl⟩:=h;have hg:=(PX.if_den _ _ _).mp hg;show (PX.if' c a.ok b.ok).den∧_;rw[PX.if_den]
         cases c with
         |true=>exact absurd (hg.1 rfl) (hno h1)
         | false=>
           obtain⟨k1,e,st,v0,k2,k3,k4,k5,k6⟩:=KC h2 hv (hg.2 rfl);exact⟨⟨fun h=>(by cases h),fun _=>k1⟩,e,st,v0,k2,k3,k4,k5,k6⟩
       | some v1=>
         cases v2 with
         | none=>
           simp only[Ak,Aj] at h;obtain⟨rfl,rfl⟩:=h;have hg:=(PX.if_den _ _ _).mp hg;show (PX.if' c a.ok b.ok).den∧_;rw[PX.if_den]
           cases c with
           |false=>exact absurd (hg.2 rfl) (hno h2)
           | true=>
             obtain⟨k1,e,st,v0,k2,k3,k4,k5,k6⟩:=KC h1 hv (hg.1 rfl);exact⟨⟨fun _=>k1,fun h=>by cases h⟩,e,st,v0,k2,k3,k4,k5,k6⟩
         | some v2=>
           simp only[Ak,Aj] at h;exact fin v1 v2 h.1.symm h1 h2 h.2.symm
 | .chk g0 t,g,v,h,hv,hg=>by
   simp only[DT.val] at h
   cases h1:t.val res with
   | mk g1 v1=>
     rw[h1] at h;simp only[Ak] at h;obtain⟨rfl,rfl⟩:=h;have hg:=(PX.land_den _ _).mp hg;obtain⟨k1,k2⟩:=KC h1 hv hg.2;exact⟨(PX.land_den _ _).mpr ⟨hg.1,k1⟩,k2⟩
 |.bad,g,v,h,hv,hg=>by simp[DT.val] at h
theorem EL.append:∀ {a:List DC} {b:List PV} {c:List DC} {d:List PV},EL a b→EL c d→EL (a++c) (b++d)
 |[],[],_,_,_,h=>h
 |_::_,_::_,_,_,h,h'=>⟨h.1,EL.append h.2 h'⟩
theorem Lv:∀ (n:Nat),EL (Eo n) (FG n)
 |0=>trivial
 |n+1=>⟨.inl rfl,Lv n⟩
theorem Lw:∀ (n:Nat),EB (Er n) (He n)
 |0=>trivial
 |n+1=>⟨.inl rfl,Lw n⟩
theorem aM {f:DFun} (ho:AllD f.body.obs) {args:List DV} {g:PX} {v:DV} (h:MC f args=(g,some v)) (hg:g.den) (hv:v≠.any) (hl:args.length=f.nparams) (hp:f.pure=true→v.flt=true)
 {Q:PV→List (List PV)→Prop} (hQ:∀ H,Q v.enc H):CI f.er (DV.encL args) [] Q:=by
 unfold MC at h
 obtain⟨hok,e,st,v0,h1,h2,h3,h4,h5⟩:=KC h hv hg
 refine⟨by rw[Dj];exact hl,fun _=>rfl,?_⟩
 refine Ex f.body ho (d:=⟨news args++Eo (f.nslots-f.nparams),Er f.nbox,[]⟩) ⟨(EL.news args).append (Lv _),Lw _,trivial⟩ hok h1 fun s' hs'=>?_
 obtain⟨s2,e2⟩:=V6 hs' h3 h4
 rw[← h5] at e2
 have fin:(match Gm s' f.res with|some (v,st)=>if f.pure=true then v.flt=true∧Q v [] else Q v st.hp|none=>False):=by
  rw[e2];simp only;split
  · rename_i hpu;exact⟨Rk v (hp hpu),hQ _⟩
  · exact hQ _
 cases e with
 |normal=>exact fin
 |ret=>exact fin
 |exit i=>exact absurd rfl (h2 i)
def TuX:List HT→Type
 |[]=>Unit
 |[a]=>a.D
 |a::r=>a.D×TuX r
def D9:(l:List HT)→List DV→Option (TuX l)
 |[],[]=>some ()
 |[a],[v]=>a.of v
 | a::b::r,v::vs=>(match a.of v,D9 (b::r) vs with
   |some x,some y=>some (x,y)
   |_,_=>none)
 |_,_=>none
def Cw:(l:List HT)→TuX l→List DV
 |[],_=>[]
 |[a],x=>[a.dv x]
 |a::b::r,x=>a.dv x.1::Cw (b::r) x.2
inductive QT where
 |one (h:HT)|tup (l:List HT)
def QT.D:QT→Type
 |.one h=>h.D
 |.tup l=>TuX l
def QT.of:(q:QT)→DV→Option q.D
 |.one h,v=>h.of v
 |.tup l,.tup vs=>D9 l vs
 |.tup _,_=>none
def QT.dv:(q:QT)→q.D→DV
 |.one h,x=>h.dv x
 |.tup l,x=>.tup (Cw l x)
def QT.ofO(q:QT):Option DV→Option q.D
 |some v=>q.of v
 |none=>none
def O7:(l:List (Ql×CT))→AgX l
 |[]=>()
 |[a]=>a.2.dflt
 |a::b::r=>(a.2.dflt,O7 (b::r))
def HT.dflt:(h:HT)→h.D
 |.one _ t=>t.dflt
 |.agg l=>O7 l
def WV:(l:List HT)→TuX l
 |[]=>()
 |[a]=>a.dflt
 |a::b::r=>(a.dflt,WV (b::r))
def QT.dflt:(q:QT)→q.D
 |.one h=>h.dflt
 |.tup l=>WV l
def HT.flt:HT→Bool
 |.one _ t=>t.flat
 |.agg l=>l.all fun a=>a.2.flat
def QT.flt:QT→Bool
 |.one h=>h.flt
 |.tup l=>l.all HT.flt
theorem Mi:∀ {l:List HT} {vs:List DV} {x:TuX l},D9 l vs=some x→DV.encL (Cw l x)=DV.encL vs
 |[],[],_,_=>rfl
 | [a],[v],x,h=>by
   show [(a.dv x).enc]=[v.enc]
   rw[(Mj (t:=a) h).1]
 | a :: b::r,v::vs,x,h=>by
   have h':(match a.of v,D9 (b::r) vs with|some x,some y=>some (x,y)|_,_=>none)=some x:=h
   clear h
   cases h1:a.of v with
   |none=>rw[h1] at h';cases h'
   | some p=>
     cases h2:D9 (b::r) vs with
     |none=>rw[h1,h2] at h';cases h'
     | some q=>
       rw[h1,h2] at h'
       have h':=BT h'
       subst h'
       show (a.dv p).enc::DV.encL (Cw (b::r) q)=v.enc::DV.encL vs
       rw[(Mj h1).1,Mi h2]
theorem SO{q:QT}{v:DV}{x:q.D}(h:q.of v=some x):(q.dv x).enc=v.enc∧v≠.any:=by
 cases q with
 |one t=>exact Mj (t:=t) h
 | tup l=>
   cases v<;>try (cases h;done)
   rename_i cs;refine⟨?_,by simp⟩;show PV.tup _=PV.tup _;rw[Mi (l:=l) h]
theorem J3:∀ (l:List HT) (x:TuX l),(Cw l x).length=l.length
 |[],_=>rfl
 |[_],_=>rfl
 | a::b::r,x=>by
   show (Cw (b::r) x.2).length+1=(b::r).length+1
   rw[J3 (b::r) x.2]
theorem Sp{q:Ql}{t:CT}{v:DV}{x:t.D}(hf:t.flat=true)(h:t.ofQ q v=some x):v.flt=true:=by
 cases t<;>first|(cases hf;done)|skip
 all_goals (cases v<;>first|rfl|(cases h;done))
theorem WH:∀ {l:List (Ql×CT)} {vs:List DV} {x:AgX l},l.all (fun a=>a.2.flat)=true→Dv l vs=some x→DV.fltL vs=true
 |[],[],_,_,_=>rfl
 | [a],[v],x,hf,h=>by
   simp only[D2,List.all_nil,KE] at hf
   simp only[DV.fltL,Sp (q:=a.1) hf h,B8]
 | a :: b::r,v::vs,x,hf,h=>by
   have h':(match a.2.ofQ a.1 v,Dv (b::r) vs with|some x,some y=>some (x,y)|_,_=>none)=some x:=h
   clear h
   rw[D2,Ah] at hf
   cases h1:a.2.ofQ a.1 v with
   |none=>rw[h1] at h';cases h'
   | some p=>
     cases h2:Dv (b::r) vs with
     |none=>rw[h1,h2] at h';cases h'
     |some q=>simp only[DV.fltL,Sp hf.1 h1,WH hf.2 h2,B8]
theorem RV{t:HT}{v:DV}{x:t.D}(hf:t.flt=true)(h:t.of v=some x):v.flt=true:=by
 cases t with
 |one q t=>exact Sp (q:=q) (t:=t) hf h
 | agg l=>
   cases v<;>try (cases h;done)
   exact WH (l:=l) hf h
theorem WM:∀ {l:List HT} {vs:List DV} {x:TuX l},l.all HT.flt=true→D9 l vs=some x→DV.fltL vs=true
 |[],[],_,_,_=>rfl
 | [a],[v],x,hf,h=>by
   simp only[D2,List.all_nil,KE] at hf
   simp only[DV.fltL,RV (t:=a) hf h,B8]
 | a :: b::r,v::vs,x,hf,h=>by
   have h':(match a.of v,D9 (b::r) vs with|some x,some y=>some (x,y)|_,_=>none)=some x:=h
   clear h
   rw[D2,Ah] at hf
   cases h1:a.of v with
   |none=>rw[h1] at h';cases h'
   | some p=>
     cases h2:D9 (b::r) vs with
     |none=>rw[h1,h2] at h';cases h'
     |some q=>simp only[DV.fltL,RV hf.1 h1,WM hf.2 h2,B8]
theorem WG{q:QT}{v:DV}{x:q.D}(hf:q.flt=true)(h:q.of v=some x):v.flt=true:=by
 cases q with
 |one t=>exact RV (t:=t) hf h
 | tup l=>
   cases v<;>try (cases h;done)
   exact WM (l:=l) hf h
def Sa(hs:List HT)(q:QT)(ok:TuX hs→Prop)(v:TuX hs→q.D):Ib:=fun args=>match D9 hs args with
 |some x=>some (.p (ok x),q.dv (v x))
 |none=>none
def DT.valQ(q:QT)(res:List ARes):DT→PX×Option q.D
 |.leaf (.exit _) _=>(.ff,none)
 | .leaf _ st=>(match Et st res with
   | some v=>if v.ok&&!v.hasPtr then (match q.of v with
     |some y=>(.tt,some y)
     |none=>(.ff,none)) else (.ff,none)
   |none=>(.ff,none))
 | .node c a b=>(match a.valQ q res,b.valQ q res with
   |(g,none),(g',y)=>(PX.if' c g g',y)
   |(g,x),(g',none)=>(PX.if' c g g',x)
   |(g,some x),(g',some y)=>(PX.if' c g g',some (bSel c x y)))
 | .chk g t=>(match t.valQ q res with
   |(g',v)=>(g.land g',v))
 |.bad=>(.ff,none)
theorem Lg{q:QT}{res:List ARes}:∀ {t:DT} {g:PX},t.valQ q res=(g,none)→¬ g.den
 | .leaf e st,g,h=>by
   cases e<;>simp only[DT.valQ] at h<;>(repeat' split at h)<;>simp only[Ak,reduceCtorEq,and_false,J7] at h<;>subst h<;>exact id
 | .node c x y,g,h=>by
   intro hg
   simp only[DT.valQ] at h
   cases h1:x.valQ q res with
   | mk g1 v1=>
     cases h2:y.valQ q res with
     | mk g2 v2=>
       rw[h1,h2] at h
       cases v1 with
       | none=>
         simp only[Ak] at h
         obtain⟨rfl,rfl⟩:=h
         have:=(PX.if_den _ _ _).mp hg
         cases c with
         |true=>exact Lg h1 (this.1 rfl)
         |false=>exact Lg h2 (this.2 rfl)
       |some v1=>cases v2<;>simp at h
 | .chk g0 t,g,h=>by
   intro hg
   simp only[DT.valQ] at h
   cases h1:t.valQ q res with
   | mk g1 v1=>
     rw[h1] at h
     simp only[Ak] at h
     obtain⟨rfl,rfl⟩:=h
     exact Lg h1 ((PX.land_den _ _).mp hg).2
 | .bad,g,h=>by
   simp only[DT.valQ,Ak,J7] at h
   subst h;exact id
theorem OX{q:QT}{res:List ARes}:∀ {t:DT} {g:PX} {y:q.D},t.valQ q res=(g,some y)→g.den →
 t.ok.den∧∃ e st v0,t.lf=some (e,st)∧(∀ i,e≠.exit i)∧Et st res=some v0∧v0.ok=true∧q.of v0=some y
 | .leaf e st,g,y,h,hg=>by
   have gen:(match Et st res with|some v=>if (v.ok&&!v.hasPtr)=true then (match q.of v with|some y=>(PX.tt,some y)|none=>(PX.ff,none)) else (PX.ff,none)|none=>(PX.ff,none))=(g,some y)→∃ v,Et st res=some v∧v.ok=true∧q.of v=some y:=fun h=>by
    split at h
    · rename_i v hv;split at h
      · rename_i hc;simp only[Ah] at hc;split at h
        · rename_i y' hy;simp only[Ak,Aj] at h;obtain⟨_,rfl⟩:=h;exact⟨v,hv,hc.1,hy⟩
        · simp at h
      · simp at h
    · simp at h
   cases e with
   |exit i=>simp[DT.valQ] at h
   |normal=>obtain⟨v,h1,h2,h3⟩:=gen h;exact⟨trivial,.normal,st,v,rfl,by simp,h1,h2,h3⟩
   |ret=>obtain⟨v,h1,h2,h3⟩:=gen h;exact⟨trivial,.ret,st,v,rfl,by simp,h1,h2,h3⟩
 | .node c a b,g,y,h,hg=>by
   simp only[DT.valQ] at h;show (PX.if' c a.ok b.ok).den∧∃ e st v0,(DT.node c a b).lf=some (e,st)∧(∀ i,e≠.exit i)∧Et st res=some v0∧v0.ok=true∧q.of v0=some y;rw[PX.if_den]
   cases h1:a.valQ q res with
   | mk g1 v1=>
     cases h2:b.valQ q res with
     | mk g2 v2=>
       rw[h1,h2] at h
       have hgg:g=PX.if' c g1 g2:=by
        cases v1<;>cases v2<;>simp only[Ak] at h<;>exact h.1.symm
       subst hgg;have hg:=(PX.if_den _ _ _).mp hg
       cases c with
       | true=>
         have:v1=some y:=by
          cases v1 with
          |none=>exact absurd (hg.1 rfl) (Lg h1)
          |some v1=>cases v2<;>simp only[Ak,Ha] at h<;>exact h.2
         subst this;obtain⟨k1,k2⟩:=OX h1 (hg.1 rfl);exact⟨⟨fun _=>k1,fun h=>by cases h⟩,k2⟩
       | false=>
         have:v2=some y:=by
          cases v2 with
          |none=>exact absurd (hg.2 rfl) (Lg h2)
          |some v2=>cases v1<;>simp only[Ak,G2] at h<;>exact h.2
         subst this;obtain⟨k1,k2⟩:=OX h2 (hg.2 rfl);exact⟨⟨fun h=>(by cases h),fun _=>k1⟩,k2⟩
 | .chk g0 t,g,y,h,hg=>by
   simp only[DT.valQ] at h
   cases h1:t.valQ q res with
   | mk g1 v1=>
     rw[h1] at h;simp only[Ak] at h;obtain⟨rfl,rfl⟩:=h;have hg:=(PX.land_den _ _).mp hg;obtain⟨k1,k2⟩:=OX h1 hg.2;exact⟨(PX.land_den _ _).mpr ⟨hg.1,k1⟩,k2⟩
 |.bad,g,y,h,hg=>by simp[DT.valQ] at h
def QT.isB:QT→Bool
 |.one (.one _ .bool)=>true
 |_=>false
def MO(f:DFun)(hs:List HT)(q:QT)(x:TuX hs):PX×Option q.D:=
 if q.isB then ((MC f (Cw hs x)).1,q.ofO (MC f (Cw hs x)).2)
 else (dev f.body ⟨news (Cw hs x)++Eo (f.nslots-f.nparams),Er f.nbox,[]⟩).valQ q f.res
def Jm(f:DFun)(hs:List HT)(q:QT)(x:TuX hs):q.D:=(MO f hs q x).2.getD q.dflt
def Jj(f:DFun)(hs:List HT)(q:QT)(x:TuX hs):Prop:=(MO f hs q x).1.den
def KB(f:DFun)(hs:List HT)(q:QT)(x:TuX hs):Bool:=(MO f hs q x).2.isSome
def KG(f:DFun)(hs:List HT)(q:QT):Bool:=hs.length == f.nparams&&(!f.pure||q.flt)
theorem VI {f:DFun} {hs:List HT} {q:QT} (ho:AllD f.body.obs) (hst:KG f hs q=true) (x:TuX hs) (hc:KB f hs q x=true) (hok:Jj f hs q x)
 {Q:PV→List (List PV)→Prop} (hQ:∀ H,Q (q.dv (Jm f hs q x)).enc H):CI f.er (DV.encL (Cw hs x)) [] Q:=by
 simp only[KG,Ah,AD,B3,BU] at hst
 unfold KB at hc
 unfold Jm at hQ
 unfold Jj at hok
 unfold MO at hc hQ hok
 by_cases hb:q.isB=true
 · rw[Ab hb] at hc hQ hok
   cases hd:MC f (Cw hs x) with
   | mk g o=>
     rw[hd] at hc hQ hok
     cases o with
     |none=>cases hc
     | some w=>
       obtain⟨y,hy⟩:=Option.isSome_iff_exists.mp hc;rw[hy] at hQ;have hy:q.of w=some y:=hy;obtain⟨h1,h2⟩:=SO hy
       refine aM ho hd hok h2 (by rw[J3];exact hst.1) (fun hp=>WG (by simpa [hp] using hst.2) hy) fun H=>?_
       have:=hQ H;rw[Fy,h1] at this;exact this
 · rw[Ae hb] at hc hQ hok
   cases hd:(dev f.body ⟨news (Cw hs x)++Eo (f.nslots-f.nparams),Er f.nbox,[]⟩).valQ q f.res with
   | mk g o=>
     rw[hd] at hc hQ hok
     cases o with
     |none=>cases hc
     | some y=>
       simp only[Fy] at hQ;obtain⟨k1,e,st,v0,k2,k3,k4,k5,k6⟩:=OX hd hok;obtain⟨h1,h2⟩:=SO k6;refine⟨by rw[Dj,J3];exact hst.1,fun _=>rfl,?_⟩
       refine Ex f.body ho (d:=⟨news (Cw hs x)++Eo (f.nslots-f.nparams),Er f.nbox,[]⟩) ⟨(EL.news _).append (Lv _),Lw _,trivial⟩ k1 k2 fun s' hs'=>?_
       obtain⟨s2,e2⟩:=V6 hs' k4 k5;rw[← h1] at e2
       have fin:(match Gm s' f.res with|some (v,st)=>if f.pure=true then v.flt=true∧Q v [] else Q v st.hp|none=>False):=by
        rw[e2];simp only;split
        · rename_i hpu;exact⟨by rw[h1];exact Rk _ (WG (by simpa [hpu] using hst.2) k6),hQ _⟩
        · exact hQ _
       cases e with
       |normal=>exact fin
       |ret=>exact fin
       |exit i=>exact absurd rfl (k3 i)
theorem aZ{f:DFun}{hs:List HT}{q:QT}(ho:AllD f.body.obs)(hst:KG f hs q=true)(hc:∀ x,KB f hs q x=true){ok:TuX hs→Prop}{v:TuX hs→q.D}(hok:∀ x,ok x→Jj f hs q x)(hv:∀ x,Jm f hs q x=v x) :
 O3 (CI f.er) (Sa hs q ok v):=by
 intro args g w Q h hg hQ
 unfold Sa at h
 cases hx:D9 hs args with
 |none=>rw[hx] at h;cases h
 | some x=>
   rw[hx] at h;simp only[Aj,Ak] at h;obtain⟨rfl,rfl⟩:=h;rw[← Mi hx]
   exact VI ho hst x (hc x) (hok x hg) fun H=>by rw[hv];exact hQ H
attribute [irreducible] MO Jm Jj KB KG
def EE:List (Ql×CT)→List (Ql×CT)
 |[]=>[]
 |(.frz,_)::r=>EE r
 |a::r=>a::EE r
def FP:List (Ql×CT)→List DV→List DV
 |[],_=>[]
 |(.frz,_)::r,vs=>.any::FP r vs
 |_::r,v::vs=>v::FP r vs
 |_::r,[]=>.any::FP r []
def Jb:List (Ql×CT)→List DC→Option (List DV)
 |[],[]=>some []
 |(.frz,_)::r,c::l=>if c.d then none else Jb r l
 | _::r,c::l=>(match Jb r l with
   |some vs=>some (c.v::vs)
   |none=>none)
 |_,_=>none
def AG:List DV→List DC
 |[]=>[]
 |v::r=>⟨false,v⟩::AG r
def SH(st:DS):List ARes→Option (DV×DS)
 |[r]=>G4 st r
 | rs=>(match Fu st rs with
   |some x=>some (.tup x.1,x.2)
   |none=>none)
def rP(q:QT)(cs:List (Ql×CT))(res:List ARes)(st:DS):Option (q.D×AgX (EE cs)):=
 match SH st res with
 | some (v,st')=>if v.ok&&!v.hasPtr then (match st'.hp with
   | [blk]=>(match Jb cs blk with
     | some vs=>(match q.of v,Dv (EE cs) vs with
       |some y,some b=>some (y,b)
       |_,_=>none)
     |none=>none)
   |_=>none) else none
 |none=>none
def rN(cs:List (Ql×CT))(res:List ARes)(st:DS):Option (AgX cs):=
 match SH st res with
 | some (v,st')=>if v.isP0 then (match st'.hp with
   |[blk]=>Dv cs (A0 blk)
   |_=>none) else none
 |none=>none
def DT.valR{α:Type}(R:DS→Option α):DT→PX×Option α
 |.leaf (.exit _) _=>(.ff,none)
 | .leaf _ st=>(match R st with
   |some y=>(.tt,some y)
   |none=>(.ff,none))
 | .node c a b=>(match a.valR R,b.valR R with
   |(g,none),(g',y)=>(PX.if' c g g',y)
   |(g,x),(g',none)=>(PX.if' c g g',x)
   |(g,some x),(g',some y)=>(PX.if' c g g',some (bSel c x y)))
 | .chk g t=>(match t.valR R with
   |(g',v)=>(g.land g',v))
 |.bad=>(.ff,none)
theorem Lf{α:Type}{R:DS→Option α}:∀ {t:DT} {g:PX},t.valR R=(g,none)→¬ g.den
 | .leaf e st,g,h=>by
   cases e<;>simp only[DT.valR] at h<;>(repeat' split at h)<;>simp only[Ak,reduceCtorEq,and_false,J7] at h<;>subst h<;>exact id
 | .node c x y,g,h=>by
   intro hg
   simp only[DT.valR] at h
   cases h1:x.valR R with
   | mk g1 v1=>
     cases h2:y.valR R with
     | mk g2 v2=>
       rw[h1,h2] at h
       cases v1 with
       | none=>
         simp only[Ak] at h
         obtain⟨rfl,rfl⟩:=h
         have:=(PX.if_den _ _ _).mp hg
         cases c with
         |true=>exact Lf h1 (this.1 rfl)
         |false=>exact Lf h2 (this.2 rfl)
       |some v1=>cases v2<;>simp at h
 | .chk g0 t,g,h=>by
   intro hg
   simp only[DT.valR] at h
   cases h1:t.valR R with
   | mk g1 v1=>
     rw[h1] at h
     simp only[Ak] at h
     obtain⟨rfl,rfl⟩:=h
     exact Lf h1 ((PX.land_den _ _).mp hg).2
 | .bad,g,h=>by
   simp only[DT.valR,Ak,J7] at h
   subst h;exact id
theorem L3{α:Type}{R:DS→Option α}:∀ {t:DT} {g:PX} {y:α},t.valR R=(g,some y)→g.den →
 t.ok.den∧∃ e st,t.lf=some (e,st)∧(∀ i,e≠.exit i)∧R st=some y
 | .leaf e st,g,y,h,hg=>by
   have gen:(match R st with|some y=>(PX.tt,some y)|none=>(PX.ff,none))=(g,some y)→R st=some y:=fun h=>by
    split at h
    · rename_i y' hy;simp only[Ak,Aj] at h;rw[hy,h.2]
    · simp at h
   cases e with
   |exit i=>simp[DT.valR] at h
   |normal=>exact⟨trivial,.normal,st,rfl,by simp,gen h⟩
   |ret=>exact⟨trivial,.ret,st,rfl,by simp,gen h⟩
 | .node c a b,g,y,h,hg=>by
   simp only[DT.valR] at h;show (PX.if' c a.ok b.ok).den∧∃ e st,(DT.node c a b).lf=some (e,st)∧(∀ i,e≠.exit i)∧R st=some y;rw[PX.if_den]
   cases h1:a.valR R with
   | mk g1 v1=>
     cases h2:b.valR R with
     | mk g2 v2=>
       rw[h1,h2] at h
       have hgg:g=PX.if' c g1 g2:=by
        cases v1<;>cases v2<;>simp only[Ak] at h<;>exact h.1.symm
       subst hgg;have hg:=(PX.if_den _ _ _).mp hg
       cases c with
       | true=>
         have:v1=some y:=by
          cases v1 with
          |none=>exact absurd (hg.1 rfl) (Lf h1)
          |some v1=>cases v2<;>simp only[Ak,Ha] at h<;>exact h.2
         subst this;obtain⟨k1,k2⟩:=L3 h1 (hg.1 rfl);exact⟨⟨fun _=>k1,fun h=>by cases h⟩,k2⟩
       | false=>
         have:v2=some y:=by
          cases v2 with
          |none=>exact absurd (hg.2 rfl) (Lf h2)
          |some v2=>cases v1<;>simp only[Ak,G2] at h<;>exact h.2
         subst this;obtain⟨k1,k2⟩:=L3 h2 (hg.2 rfl);exact⟨⟨fun h=>(by cases h),fun _=>k1⟩,k2⟩
 | .chk g0 t,g,y,h,hg=>by
   simp only[DT.valR] at h
   cases h1:t.valR R with
   | mk g1 v1=>
     rw[h1] at h;simp only[Ak] at h;obtain⟨rfl,rfl⟩:=h;have hg:=(PX.land_den _ _).mp hg;obtain⟨k1,k2⟩:=L3 h1 hg.2;exact⟨(PX.land_den _ _).mpr ⟨hg.1,k1⟩,k2⟩
 |.bad,g,y,h,hg=>by simp[DT.valR] at h
theorem OZ{p:DS→Prop}:∀ {t:DT} {e:AExit} {st:DS},t.All p→t.lf=some (e,st)→p st
 | .leaf _ _,_,_,h,hl=>by
   simp only[DT.lf,Aj,Ak] at hl
   obtain⟨_,rfl⟩:=hl;exact h
 | .node c a b,_,_,h,hl=>by
   simp only[DT.lf] at hl
   cases c with
   |true=>exact OZ h.1 hl
   |false=>exact OZ h.2 hl
 |.chk _ t,_,_,h,hl=>OZ (t:=t) h hl
 |.bad,_,_,_,hl=>by cases hl
theorem UF{st st':DS}{r:ARes}{v:DV}(h:G4 st r=some (v,st')):ChgS st st':=by
 cases r with
 | tmp t=>
   simp only[G4] at h;split at h
   · simp only[Aj] at h;have:=ChgS.mvOut (.t t) st;simp only[AK,h] at this;exact this
   · cases h
 | cell t n=>
   simp only[G4] at h;split at h
   · split at h
     · simp only[Bb] at h;obtain⟨⟨g,r⟩,h1,h2⟩:=h;simp only at h2;subst h2;exact Uk h1
     · cases h
   · split at h
     · simp only[Bb] at h;obtain⟨⟨g,r⟩,h1,h2⟩:=h;simp only at h2;subst h2;exact Ux h1
     · cases h
   · cases h
theorem TW:∀ {rs:List ARes} {st st':DS} {vs:List DV},Fu st rs=some (vs,st')→ChgS st st'
 | [],st,st',vs,h=>by
   simp only[Fu,Aj,Ak] at h
   rw[h.2];exact ChgS.refl _
 | r :: rs,st,st',vs,h=>by
   simp only[Fu] at h
   split at h
   · rename_i v st1 h1
     split at h
     · rename_i vs1 st2 h2
       simp only[Aj,Ak] at h
       obtain⟨_,rfl⟩:=h
       exact(UF h1).trans (TW h2)
     · cases h
   · cases h
theorem Wh{res:List ARes}{st st':DS}{s:PS}{v:DV}(hs:ES st s)(h:SH st res=some (v,st'))(hv:v.ok=true):(∃ s',Gm s res=some (v.enc,s')∧ES st' s')∧ChgS st st':=by
 have gen:∀ {res:List ARes},(match Fu st res with|some x=>some (DV.tup x.1,x.2)|none=>none)=some (v,st')→(∃ s',(Fq s res).map (fun(vs,st)=>(PV.tup vs,st))=some (v.enc,s')∧ES st' s')∧ChgS st st':=fun {res} h=>by
  split at h
  · rename_i x hx;obtain⟨vs,st1⟩:=x;simp only[Aj,Ak] at h;obtain⟨rfl,rfl⟩:=h;obtain⟨s',e1,e2⟩:=QF hs hx hv;exact⟨⟨s',by rw[e1];rfl,e2⟩,TW hx⟩
  · cases h
 cases res with
 |nil=>exact gen (res:=[]) h
 | cons r rs=>
   cases rs with
   |nil=>exact⟨QZ hs h hv,UF h⟩
   |cons r2 rs=>exact gen (res:=r::r2::rs) h
theorem La:∀ {l:List (Ql×CT)} {vs:List DV} {x:AgX l},Dv l vs=some x→(∀ v∈vs,v≠.any)∧∀ v∈B0 l x,v≠.any
 |[],[],_,_=>⟨by simp,by simp[B0]⟩
 | [a],[v],x,h=>by
   obtain⟨h1,h2⟩:=LV (q:=a.1) (t:=a.2) h;refine⟨by simpa using h2,fun w hw=>?_⟩;have hw:w∈[a.2.dv a.1 x]:=hw;rw[List.mem_singleton] at hw;subst hw;exact dv_known _ _ _
 | a :: b::r,v::vs,x,h=>by
   have h':(match a.2.ofQ a.1 v,Dv (b::r) vs with|some x,some y=>some (x,y)|_,_=>none)=some x:=h;clear h
   cases h1:a.2.ofQ a.1 v with
   |none=>rw[h1] at h';cases h'
   | some p=>
     cases h2:Dv (b::r) vs with
     |none=>rw[h1,h2] at h';cases h'
     | some q=>
       rw[h1,h2] at h';have h':=BT h';subst h';obtain⟨k1,k2⟩:=La h2;refine⟨fun w hw=>?_,fun w hw=>?_⟩
       · rcases BF.mp hw with rfl|hw
         · exact(LV h1).2
         · exact k1 w hw
       · have hw:w∈a.2.dv a.1 p::B0 (b::r) q:=hw;rcases BF.mp hw with rfl|hw
         · exact dv_known _ _ _
         · exact k2 w hw
  where dv_known (q:Ql) (t:CT) (x:t.D):t.dv q x≠.any:=by cases t<;>simp[CT.dv]
theorem UG:∀ (l:List (Ql×CT)) (x:AgX l),(∀ v∈B0 l x,v≠.any)∧(B0 l x).length=l.length
 |[],_=>⟨by simp[B0],rfl⟩
 |[a],x=>⟨fun w hw=>by
  have hw:w∈[a.2.dv a.1 x]:=hw
  rw[List.mem_singleton] at hw
  subst hw
  exact La.dv_known _ _ _,rfl⟩
 | a :: b::r,x=>by
   obtain⟨h1,h2⟩:=UG (b::r) x.2
   refine⟨fun w hw=>?_,?_⟩
   · have hw:w∈a.2.dv a.1 x.1::B0 (b::r) x.2:=hw
     rcases BF.mp hw with rfl|hw
     · exact La.dv_known _ _ _
     · exact h1 w hw
   · show (B0 (b::r) x.2).length+1=(b::r).length+1
     rw[h2]
theorem QV:∀ (cs:List (Ql×CT)) {blk:List DV} {blk':List DC} {p:List PV} {vs w:List DV},EL blk' p→Chg (AG blk) blk'→Jb cs blk'=some vs→DV.encL w=DV.encL vs→(∀ v∈vs,v≠.any)→(∀ v∈w,v≠.any) →
 blk.length=cs.length→(∀ v∈blk,v≠.any)→p=DV.encL (DU blk (FP cs w))
 | [],blk,blk',p,vs,w,he,hc,hp,hw,hv,hvw,hl,hb=>by
   have:blk=[]:=Em hl;subst this
   cases blk' with
   | nil=>cases p with
     |nil=>rfl
     |cons=>exact he.elim
   |cons=>cases hp
 | (q, t)::r,blk,blk',p,vs,w,he,hc,hp,hw,hv,hvw,hl,hb=>by
   cases blk with
   |nil=>cases hl
   |cons v0 blk=>
   cases blk' with
   |nil=>cases q<;>cases hp
   |cons c l=>
   cases p with
   |nil=>exact he.elim
   |cons x p=>
   have hl':blk.length=r.length:=by simpa using hl
   have hb':∀ v∈blk,v≠.any:=fun v hv=>hb v (List.mem_cons_of_mem _ hv)
   by_cases hq:q= .frz
   · subst hq;have hp:(if c.d then none else Jb r l)=some vs:=hp;split at hp
     · cases hp
     · rename_i hd;have hc1:c=⟨false,v0⟩:=hc.1.resolve_left hd
       have hx:x=v0.enc:=by
        rcases he.1 with h|h
        · rw[hc1] at h;exact absurd h (hb v0 (I5 ..))
        · rw[h,hc1]
       show x::p=v0.enc::DV.encL (DU blk (FP r w));rw[hx,QV r he.2 hc.2 hp hw hv hvw hl' hb']
   · have hp':(match Jb r l with|some vs=>some (c.v::vs)|none=>none)=some vs:=by
      cases q<;>first|exact absurd rfl hq|exact hp
     cases hpr:Jb r l with
     |none=>rw[hpr] at hp';cases hp'
     | some vs1=>
       rw[hpr] at hp';have hp':=BT hp';subst hp'
       cases w with
       |nil=>cases hw
       |cons w0 w=>
       simp only[DV.encL,FD] at hw
       have hx:x=w0.enc:=by
        rcases he.1 with h|h
        · exact absurd h (hv c.v (I5 ..))
        · rw[h,hw.1]
       have hw0:w0.isAny=false:=by
        have:=hvw w0 (I5 ..)
        cases w0<;>first|rfl|exact absurd rfl this
       have e:FP ((q,t)::r) (w0::w)=w0::FP r w:=by cases q<;>first|exact absurd rfl hq|rfl
       rw[e];simp only[DU,hw0,Ax,AJ,DV.encL];rw[hx,QV r he.2 hc.2 hpr hw.2 (fun v h=>hv v (List.mem_cons_of_mem _ h)) (fun v h=>hvw v (List.mem_cons_of_mem _ h)) hl' hb']
def MQ(f:DFun)(hs:List HT)(cs:List (Ql×CT))(q:QT)(x:TuX (.agg cs::hs)):PX×Option (q.D×AgX (EE cs)):=
 match Cw (.agg cs::hs) x with
 |.agg blk::r=>(dev f.body ⟨news (.ptr 0 0::r)++Eo (f.nslots-f.nparams),Er f.nbox,[AG blk]⟩).valR (rP q cs f.res)
 |_=>(.ff,none)
def Gr(f:DFun)(hs:List HT)(cs:List (Ql×CT))(q:QT)(x:TuX (.agg cs::hs)):q.D×AgX (EE cs):=(MQ f hs cs q x).2.getD (q.dflt,O7 (EE cs))
def Gk(f:DFun)(hs:List HT)(cs:List (Ql×CT))(q:QT)(x:TuX (.agg cs::hs)):Prop:=(MQ f hs cs q x).1.den
def RW(f:DFun)(hs:List HT)(cs:List (Ql×CT))(q:QT)(x:TuX (.agg cs::hs)):Bool:=(MQ f hs cs q x).2.isSome
def SM(f:DFun)(hs:List HT)(cs:List (Ql×CT)):Bool:=hs.length+1 == f.nparams&&!f.pure&&Nat.blt 0 cs.length
def GX(hs:List HT)(cs:List (Ql×CT))(q:QT)(ok:TuX (.agg cs::hs)→Prop)(v:TuX (.agg cs::hs)→q.D×AgX (EE cs)):Cv:=fun args b=>match args,b with
 | a::r,[blk]=>if a.isP0 then (match D9 (.agg cs::hs) (.agg blk::r) with
   |some x=>some (.p (ok x),q.dv (v x).1,[FP cs (B0 (EE cs) (v x).2)])
   |none=>none) else none
 |_,_=>none
theorem cz(cs:List (Ql×CT))(hs:List HT)(x:TuX (.agg cs::hs)):∃ r b,Cw (.agg cs::hs) x= .agg (B0 cs b)::r:=by
 cases hs with
 |nil=>exact⟨[],x,rfl⟩
 |cons a r=>exact⟨Cw (a::r) x.2,x.1,rfl⟩
theorem Wg:∀ (l:List DV),EL (AG l) (DV.encL l)
 |[]=>trivial
 |_::r=>⟨.inr rfl,Wg r⟩
theorem Iy {f : DFun} {hs : List HT} {cs:List (Ql×CT)} {q:QT} (ho:AllD f.body.obs) (hst:SM f hs cs=true) (hc:∀ x,RW f hs cs q x=true) {ok:TuX (.agg cs::hs)→Prop} {v:TuX (.agg cs::hs)→q.D×AgX (EE cs)} (hok:∀ x,ok x→Gk f hs cs q x) (hv:∀ x,Gr f hs cs q x=v x) :
 Ei (CI f.er) (GX hs cs q ok v):=by
 intro args b g w H Q h hg hQ
 simp only[SM,Ah,AD,BU] at hst
 unfold GX at h
 split at h
 · rename_i a r blk
   split at h
   · rename_i ha
     have ha:a= .ptr 0 0:=by unfold DV.isP0 at ha;split at ha<;>first|rfl|cases ha
     subst ha
     cases hx:D9 (.agg cs::hs) (.agg blk::r) with
     |none=>rw[hx] at h;cases h
     | some x=>
       rw[hx] at h;simp only[Aj,Ak] at h;obtain⟨rfl,rfl,rfl⟩:=h;have he:=Mi hx;obtain⟨r',b,hd⟩:=cz cs hs x;rw[hd] at he;simp only[DV.encL,DV.enc,FD,PV.agg.injEq] at he
       have hlr:r'.length=hs.length:=by
        have:=J3 (.agg cs::hs) x;rw[hd] at this;simpa using this
       have hc:=hc x;have hok:=hok x hg;unfold RW at hc;unfold Gk at hok;have hvx:=hv x;unfold Gr at hvx;unfold MQ at hc hok hvx;rw[hd] at hc hok hvx;simp only at hc hok hvx
       cases hdd:(dev f.body ⟨news (.ptr 0 0::r')++Eo (f.nslots-f.nparams),Er f.nbox,[AG (B0 cs b)]⟩).valR (rP q cs f.res) with
       | mk g o=>
         rw[hdd] at hc hok hvx
         cases o with
         |none=>cases hc
         | some y=>
           simp only[Fy] at hvx;obtain⟨k1,e,st,k2,k3,k4⟩:=L3 hdd hok;have hchg:ChgS _ st:=OZ (Fv f.body _) k2;show CI f.er (PV.ptr 0 0::DV.encL r) [DV.encL blk] Q;rw[← he.1,← he.2];refine⟨by simp only[Bu,Dj,hlr];exact hst.1.1,fun hp=>absurd hp (by simp[DFun.er,hst.1.2]),?_⟩
           refine Ex f.body ho (d:=⟨news (.ptr 0 0::r')++Eo (f.nslots-f.nparams),Er f.nbox,[AG (B0 cs b)]⟩) (s:=⟨DV.encL (.ptr 0 0::r')++FG (f.nslots-f.nparams),He f.nbox,[DV.encL (B0 cs b)]⟩) ⟨(EL.news _).append (Lv _),Lw _,.inr (Wg _),trivial⟩ k1 k2 fun s' hs'=>?_
           unfold rP at k4;split at k4
           · rename_i v0 st' hr; split at k4
             · rename_i hv0; simp only[Ah,BU] at hv0;split at k4
               · rename_i blk' hblk;split at k4
                 · rename_i vs hvs;split at k4
                   · rename_i y0 b0 hy0 hb0;simp only[Aj] at k4;subst k4;obtain⟨⟨s2,e2,e3⟩,hch2⟩:=Wh hs' hr hv0.1;have hch:=(hchg.trans hch2).hp;have e4:=e3.hp;rw[hblk] at hch e4
                     cases hp2:s2.hp with
                     |nil=>rw[hp2] at e4;exact e4.elim
                     | cons p l=>
                       rw[hp2] at e4
                       have hl0:l=[]:=by cases l<;>first|rfl|exact e4.2.elim
                       subst hl0
                       have hne:0<blk'.length:=by
                        cases blk' with
                        | nil=>cases cs with
                          |nil=>exact absurd hst.2 (by decide)
                          |cons a cs=>obtain⟨q0,t0⟩:=a;cases q0<;>cases hvs
                        |cons=>simp
                       have hEL:=e4.1.to hne;obtain⟨kn1,kn2⟩:=La hb0;obtain⟨kb1,kb2⟩:=UG cs b;have hpb:=QV cs hEL hch.1 hvs (Pj hb0) kn1 kn2 kb2 kb1;obtain⟨h1,_⟩:=SO hy0
                       have hQ':Q (q.dv y0).enc (Es (Gp [blk] [FP cs (B0 (EE cs) b0)])):=by
                        have:=hQ;rw[← hvx] at this;exact this
                       have hmix : DV.encL (DU (B0 cs b) (FP cs (B0 (EE cs) b0)))=DV.encL (DU blk (FP cs (B0 (EE cs) b0))):=by
                        have:∀ (a c l:List DV),DV.encL a=DV.encL c→DV.encL (DU a l)=DV.encL (DU c l):=by
                         intro a
                         induction a with
                         | nil=>intro c l h;cases c with
                           |nil=>rfl
                           |cons=>cases h
                         | cons x a ih=>
                           intro c l h
                           cases c with
                           |nil=>cases h
                           | cons z c=>
                             simp only[DV.encL,FD] at h
                             cases l with
                             |nil=>simp only[DU,DV.encL,h.1,h.2]
                             | cons w l=>
                               simp only[DU,DV.encL,ih c l h.2];by_cases hw:w.isAny=true
                               · rw[Ab hw,Ab hw,h.1]
                               · rw[Ae hw,Ae hw]
                        exact this _ _ _ he.1
                       have fin:(match Gm s' f.res with|some (v,st)=>if f.pure=true then v.flt=true∧Q v [] else Q v st.hp|none=>False):=by
                        rw[e2];simp only[hst.1.2,Ax,AJ,hp2];rw[← h1,hpb,hmix];exact hQ'
                       cases e with
                       |normal=>exact fin
                       |ret=>exact fin
                       |exit i=>exact absurd rfl (k3 i)
                   · cases k4
                 · cases k4
               · cases k4
             · cases k4
           · cases k4
   · cases h
 · cases h
def MR(f:DFun)(hs:List HT)(cs:List (Ql×CT))(x:TuX hs):PX×Option (AgX cs):=
 (dev f.body ⟨news (Cw hs x)++Eo (f.nslots-f.nparams),Er f.nbox,[]⟩).valR (rN cs f.res)
def MG(f:DFun)(hs:List HT)(cs:List (Ql×CT))(x:TuX hs):AgX cs:=(MR f hs cs x).2.getD (O7 cs)
def Mq(f:DFun)(hs:List HT)(cs:List (Ql×CT))(x:TuX hs):Prop:=(MR f hs cs x).1.den
def Sd(f:DFun)(hs:List HT)(cs:List (Ql×CT))(x:TuX hs):Bool:=(MR f hs cs x).2.isSome
def Sx(f:DFun)(hs:List HT)(cs:List (Ql×CT)):Bool:=hs.length == f.nparams&&!f.pure&&Nat.blt 0 cs.length
def Oq(hs:List HT)(cs:List (Ql×CT))(ok:TuX hs→Prop)(v:TuX hs→AgX cs):Cv:=fun args b=>match b with
 | []=>(match D9 hs args with
   |some x=>some (.p (ok x),.ptr 0 0,[B0 cs (v x)])
   |none=>none)
 |_=>none
theorem Vi:∀ {l:List (Ql×CT)} {vs:List DV} {x:AgX l},Dv l vs=some x→vs.length=l.length
 |[],[],_,_=>rfl
 |[a],[v],x,h=>rfl
 | a :: b::r,v::vs,x,h=>by
   have h':(match a.2.ofQ a.1 v,Dv (b::r) vs with|some x,some y=>some (x,y)|_,_=>none)=some x:=h
   cases h1:a.2.ofQ a.1 v with
   |none=>rw[h1] at h';cases h'
   | some p=>
     cases h2:Dv (b::r) vs with
     |none=>rw[h1,h2] at h';cases h'
     | some q=>
       have:=Vi h2
       simp only[Bu] at this ⊢
       omega
theorem Ut {f : DFun} {hs:List HT} {cs:List (Ql×CT)} (ho:AllD f.body.obs) (hst:Sx f hs cs=true) (hc:∀ x,Sd f hs cs x=true) {ok:TuX hs→Prop} {v:TuX hs→AgX cs} (hok:∀ x,ok x→Mq f hs cs x) (hv:∀ x,MG f hs cs x=v x) :
 Ei (CI f.er) (Oq hs cs ok v):=by
 intro args b g w H Q h hg hQ
 simp only[Sx,Ah,AD,BU] at hst
 unfold Oq at h
 split at h
 · cases hx : D9 hs args with
   |none=>rw[hx] at h;cases h
   | some x=>
     rw[hx] at h;simp only[Aj,Ak] at h;obtain⟨rfl,rfl,rfl⟩:=h;have he:=Mi hx;have hc:=hc x;have hok:=hok x hg;have hvx:=hv x;unfold Sd at hc;unfold Mq at hok;unfold MG at hvx;unfold MR at hc hok hvx
     cases hdd:(dev f.body ⟨news (Cw hs x)++Eo (f.nslots-f.nparams),Er f.nbox,[]⟩).valR (rN cs f.res) with
     | mk g o=>
       rw[hdd] at hc hok hvx
       cases o with
       |none=>cases hc
       | some y=>
         simp only[Fy] at hvx;obtain⟨k1,e,st,k2,k3,k4⟩:=L3 hdd hok;show CI f.er (DV.encL args) [] Q;rw[← he];refine⟨by rw[Dj,J3];exact hst.1.1,fun hp=>absurd hp (by simp[DFun.er,hst.1.2]),?_⟩
         refine Ex f.body ho (d:=⟨news (Cw hs x)++Eo (f.nslots-f.nparams),Er f.nbox,[]⟩) ⟨(EL.news _).append (Lv _),Lw _,trivial⟩ k1 k2 fun s' hs'=>?_
         unfold rN at k4;split at k4
         · rename_i v0 st' hr;split at k4
           · rename_i hv0
             have hv0:v0= .ptr 0 0:=by unfold DV.isP0 at hv0;split at hv0<;>first|rfl|cases hv0
             subst hv0;split at k4
             · rename_i blk' hblk;obtain⟨⟨s2,e2,e3⟩,_⟩:=Wh hs' hr rfl;have e4:=e3.hp;rw[hblk] at e4
               cases hp2:s2.hp with
               |nil=>rw[hp2] at e4;exact e4.elim
               | cons p l=>
                 rw[hp2] at e4
                 have hl0:l=[]:=by cases l<;>first|rfl|exact e4.2.elim
                 subst hl0
                 have hne:0<blk'.length:=by
                  have:=Vi k4;rw[Lo] at this;have:=BS hst.2;omega
                 have hEL:=e4.1.to hne;obtain⟨kn1,_⟩:=La k4
                 have hpe:p=DV.encL (A0 blk'):=by
                  have:∀ {a:List DC} {b:List PV},EL a b→(∀ v∈A0 a,v≠.any)→b=DV.encL (A0 a):=by
                   intro a
                   induction a with
                   |nil=>intro b h _;cases b<;>first|rfl|exact h.elim
                   | cons c a ih=>
                     intro b h hk
                     cases b with
                     |nil=>exact h.elim
                     | cons x b=>
                       simp only[A0,DV.encL];rcases h.1 with h1|h1
                       · exact absurd h1 (hk _ (I5 ..))
                       · rw[h1,ih h.2 fun v hv=>hk v (List.mem_cons_of_mem _ hv)]
                  exact this hEL kn1
                 have hQ':Q (.ptr 0 0) [DV.encL (B0 cs y)]:=by
                  have:=hQ;rw[← hvx] at this;exact this
                 have fin:(match Gm s' f.res with|some (v,st)=>if f.pure=true then v.flt=true∧Q v [] else Q v st.hp|none=>False):=by
                  rw[e2];simp only[hst.1.2,Ax,AJ,hp2];rw[hpe,← Pj k4];exact hQ'
                 cases e with
                 |normal=>exact fin
                 |ret=>exact fin
                 |exit i=>exact absurd rfl (k3 i)
             · cases k4
           · cases k4
         · cases k4
 · cases h
attribute [irreducible] MQ Gr Gk RW SM MR MG Mq Sd Sx
open Go.RowKit Go.WideShapes Go.ChangeShapes
inductive Ty where
 |int (k:IntKind)
 |bool
 |str
 |sl (t:Ty)
 |unit
 |pair (a b:Ty)
def Ty.w:Ty→Nat
 |.int _|.bool|.str|.sl _=>1
 |.unit=>0
 |.pair a b=>a.w+b.w
def MB(P:Program)(f:TypeId→Option Ty):List Field→Nat→Option Ty
 |[],_=>some .unit
 | g::r,off=>
   match f g.type with
   |some a=>if g.offset=off∧a.w=P.cellsOf g.type then (match MB P f r (off+a.w) with|some b=>some (.pair a b)|none=>none) else none
   |none=>none
def Gt(P:Program):Nat→TypeId→Option Ty
 |0,_=>none
 | d+1,t=>
   match P.underlying t with
   |some (.int k)=>some (.int k)
   |some .bool=>some .bool
   |some .string=>some .str
   |some (.slice e)=>(match Gt P d e with|some te=>if te.w=P.cellsOf e∧0<te.w then some (.sl te) else none|none=>none)
   |some (.struct fs)=>(match MB P (Gt P d) fs.toList 0 with|some ty=>if ty.w=P.cellsOf t then some ty else none|none=>none)
   |_=>none
def Sh(σ:Ac):Ty→List V→Prop
 |.int k,cs=>∃ n,cs=[.int k n]∧(Lit.int k n).wf=true
 |.bool,cs=>∃ b,cs=[.bool b]
 |.str,cs=>∃ s,cs=[.str s]∧s.length≤maxLen
 |.sl t,cs=>cs=[.nils]∨∃ (l n:Nat) (bs:List V),cs=[.slice l 0 n]∧σ[l]?=some ⟨.ro,t.w,bs⟩∧bs.length=n*t.w∧n≤maxLen∧∀ i,i<n→Sh σ t ((bs.drop (i*t.w)).take t.w)
 |.unit,cs=>cs=[]
 |.pair a b,cs=>∃ xs ys,cs=xs++ys∧Sh σ a xs∧Sh σ b ys
theorem Sh.len{σ:Ac}:∀ {ty:Ty} {cs:List V},Sh σ ty cs→cs.length=ty.w
 |.int _,_,⟨_,h,_⟩=>by rw[h];rfl
 |.bool,_,⟨_,h⟩=>by rw[h];rfl
 |.str,_,⟨_,h,_⟩=>by rw[h];rfl
 |.sl _,_,h=>by rcases h with h|⟨_,_,_,h,_⟩<;>rw[h]<;>rfl
 |.unit,_,h=>by rw[h];rfl
 |.pair a b,_,⟨xs,ys,h,h1,h2⟩=>by rw[h,D3,h1.len,h2.len];rfl
theorem Sh.mono{σ e:Ac}:∀ {ty:Ty} {cs:List V},Sh σ ty cs→Sh (σ++e) ty cs
 |.int _,_,h=>h
 |.bool,_,h=>h
 |.str,_,h=>h
 | .sl _,_,h=>by
   rcases h with h|⟨l,n,bs,h,h1,h2,h3,h4⟩
   · exact .inl h
   · exact .inr ⟨l,n,bs,h,by rw[A5 (Bz h1)];exact h1,h2,h3,fun i hi=>(h4 i hi).mono⟩
 |.unit,_,h=>h
 |.pair _ _,_,⟨xs,ys,h,h1,h2⟩=>⟨xs,ys,h,h1.mono,h2.mono⟩
def CX(σ:Ac):Prop:=∀ (l:Nat) (b:Blk),σ[l]?=some b→b.k= .ro
def Mv(ι:Ap)(σ:Ac)(W:World)(ty:Ty)(cs:List Value):Prop:=
 ∃ ι' e vs,HRel ι' (σ++e) W∧Keeps ι σ ι' (σ++e)∧CX (σ++e)∧Sh (σ++e) ty vs∧vs.length=cs.length∧∀ (i:Nat) v x,vs[i]?=some v→cs[i]?=some x→v.cell=true∧∀ β,Rel ι' (σ++e) β v x
theorem HRel.lay{ι:Ap}{σ:Ac}{W:World}(h:HRel ι σ W)(hro:CX σ){b off c:Nat}{wd:Nat}{bs:List V}(hb:b<W.heap.size)(hc:∀ (i:Nat) v,bs[i]?=some v→v.cell=true∧∃ x,W.cell? ⟨b,off+i,none⟩=some x∧∀ β,Rel ι σ β v x) :
 HRel (B1 ι σ.length ⟨b,off,c⟩) (σ++[⟨.ro,wd,bs⟩]) W∧CX (σ++[⟨.ro,wd,bs⟩]):=by
 have K:=K9 ι σ ⟨b,off,c⟩ ⟨.ro,wd,bs⟩
 have hall:CX (σ++[⟨.ro,wd,bs⟩]):=by
  intro l blk hl;rcases DZ hl with⟨_,hl⟩|⟨_,rfl⟩
  · exact hro l blk hl
  · rfl
 refine⟨⟨fun l blk hl hk i v hv=>?_,fun l blk hl hk=>?_,fun l l' blk blk' hne hl hl' hk hk'=>?_,fun l blk hl hk=>?_⟩,hall⟩
 · rcases DZ hl with⟨hlt,hl⟩|⟨rfl,rfl⟩
   · rw[Cc _ _ _ _ (by omega)];obtain⟨a,x,b',c⟩:=h.cells l blk hl hk i v hv;exact⟨a,x,b',fun β=>(c β).cellMono K a⟩
   · rw[BD];obtain⟨a,x,b',c⟩:=hc i v hv;exact⟨a,x,b',fun β=>(c β).cellMono K a⟩
 · have:=hall l blk hl;rw[hk] at this;cases this
 · have:=hall l blk hl;rw[hk] at this;cases this
 · rcases DZ hl with⟨hlt,hl⟩|⟨rfl,rfl⟩
   · rw[Cc _ _ _ _ (by omega)];exact h.there l blk hl hk
   · rw[BD];exact hb
theorem Zd{w:World}{a:Addr}{v:Value}(h:w.cell? a=some v):a.block<w.heap.size:=by
 unfold World.cell? at h;rcases Be a.block w.heap.size with h1|h1
 · exact h1
 · rw[Array.getElem?_eq_none h1] at h;cases h
theorem OU{α:Type}{l:List α}{i:Nat}{v:α}(h:l[i]?=some v):i<l.length:=by
 rcases Be i l.length with h1|h1
 · exact h1
 · rw[A4 h1] at h;cases h
section
variable {H:Type} {enc:TypeId×Value→H} {P:Program} {W:World}
theorem TS(d:Nat)(ih:∀ (t:TypeId)(ty:Ty),Gt P d t=some ty→∀ (fuel:Nat)(cs:List Value) x,DataW.trod enc P W 0 (fun _=>true) true fuel t cs=some x→∀ (ι:Ap)(σ:Ac),HRel ι σ W→CX σ→Mv ι σ W ty cs) :
 ∀ (fs:List Field) (off:Nat) (ty:Ty),MB P (Gt P d) fs off=some ty→∀ (fuel:Nat) (cs:List Value),(∀ g∈fs,∃ x,DataW.trod enc P W 0 (fun _=>true) true fuel g.type ((cs.drop g.offset).take (P.cellsOf g.type))=some x) →
   off+ty.w=cs.length→∀ (ι:Ap) (σ:Ac),HRel ι σ W→CX σ→Mv ι σ W ty (cs.drop off)
 | [],off,ty,h,fuel,cs,_,hl,ι,σ,H,hro=>by
   simp only[MB,Aj] at h;subst h;simp only[Ty.w,DN] at hl
   have:cs.drop off=[]:=by rw[hl];simp
   rw[this];exact⟨ι,[],[],by simpa using H,by simpa using Keeps.refl ι σ,by simpa using hro,rfl,rfl,by simp⟩
 | g :: r, off,ty,h,fuel,cs,hg,hl,ι,σ,H,hro=>by
   simp only[MB] at h;split at h
   · rename_i a ha;split at h
     · rename_i hc;obtain⟨h1,h2⟩:=hc;split at h
       · rename_i b hb;cases h;simp only[Ty.w] at hl;obtain⟨x,hx⟩:=hg g (by simp);rw[h1] at hx;obtain⟨ι1,e1,vs1,H1,K1,R1,S1,L1,C1⟩:=ih g.type a ha fuel _ x hx ι σ H hro;obtain⟨ι2,e2,vs2,H2,K2,R2,S2,L2,C2⟩:=TS d ih r (off+a.w) b hb fuel cs (fun g' hg'=>hg g' (by simp[hg'])) (by omega) ι1 (σ++e1) H1 R1;refine⟨ι2,e1++e2,vs1++vs2,by rw[← Bt];exact H2,by rw[← Bt];exact K1.trans K2,by rw[← Bt];exact R2,⟨vs1,vs2,rfl,by rw[← Bt];exact S1.mono,by rw[← Bt];exact S2⟩,?_,fun i v y hv hy=>?_⟩
         · rw[D3,L1,L2];simp;omega
         · have hl1:vs1.length=a.w:=S1.len;by_cases hi:i<vs1.length
           · rw[A5 hi] at hv
             have hy':((cs.drop off).take (P.cellsOf g.type))[i]?=some y:=by
              rw[FE,Ab (by omega)];exact hy
             obtain⟨q1,q2⟩:=C1 i v y hv hy';exact⟨q1,fun β=>by rw[← Bt];exact(q2 β).cellMono K2 q1⟩
           · rw[Ci (by omega)] at hv
             have hy':(cs.drop (off+a.w))[i-vs1.length]?=some y:=by
              rw[Ko] at hy ⊢
              have:off+a.w+(i-vs1.length)=off+i:=by omega
              rw[this];exact hy
             obtain⟨q1,q2⟩:=C2 _ v y hv hy';exact⟨q1,fun β=>by rw[← Bt];exact q2 β⟩
       · cases h
     · cases h
   · cases h
theorem Wi{b o:Nat}(n:Nat):Addr.add ⟨b,o,none⟩ n=⟨b,o+n,none⟩:=by
 unfold Addr.add;split
 · rename_i h;subst h;rfl
 · rfl
theorem T9 {d:Nat} (ih:∀ (t:TypeId) (ty:Ty),Gt P d t=some ty→∀ (fuel:Nat) (cs:List Value) x,DataW.trod enc P W 0 (fun _=>true) true fuel t cs=some x→∀ (ι:Ap) (σ:Ac),HRel ι σ W→CX σ→Mv ι σ W ty cs)
 {e:TypeId} {te:Ty} (hte:Gt P d e=some te) (hw:te.w=P.cellsOf e) {fuel b o:Nat} :
 ∀ (n:Nat),(∀ i,i<n→∃ cs x,W.cells? 0 ⟨b,o+i*te.w,none⟩ te.w=some cs∧DataW.trod enc P W 0 (fun _=>true) true fuel e cs=some x)→∀ (ι:Ap) (σ:Ac),HRel ι σ W→CX σ →
   ∃ (ι':Ap) (ext:Ac) (bs:List V),HRel ι' (σ++ext) W∧Keeps ι σ ι' (σ++ext)∧CX (σ++ext)∧bs.length=n*te.w∧(∀ i,i<n→Sh (σ++ext) te ((bs.drop (i*te.w)).take te.w)) ∧
     ∀ (j:Nat) v,bs[j]?=some v→v.cell=true∧∃ x,W.cell? ⟨b,o+j,none⟩=some x∧∀ β,Rel ι' (σ++ext) β v x
 |0,_,ι,σ,H0,hro=>⟨ι,[],[],by simpa using H0,by simpa using Keeps.refl ι σ,by simpa using hro,by simp,fun i hi=>absurd hi (Nat.not_lt_zero i),by simp⟩
 | n + 1,hn,ι,σ,H0,hro=>by
   obtain⟨ι1,e1,bs,H1,K1,R1,L1,S1,C1⟩:=T9 ih hte hw n (fun i hi=>hn i (Nat.lt_succ_of_lt hi)) ι σ H0 hro;obtain⟨cs,x,hc,hx⟩:=hn n (Nat.lt_succ_self n);obtain⟨ι2,e2,vs,H2,K2,R2,S2,L2,C2⟩:=ih e te hte fuel cs x hx ι1 (σ++e1) H1 R1;obtain⟨_,hcl,hcg⟩:=World.cells?_some hc;refine⟨ι2,e1++e2,bs++vs,by rw[← Bt];exact H2,by rw[← Bt];exact K1.trans K2,by rw[← Bt];exact R2,?_,fun i hi=>?_,fun j v hv=>?_⟩
   · rw[D3,L1,L2,hcl,IU]
   · rw[← Bt];by_cases h:i<n
     · have h1:(i+1)*te.w≤n*te.w:=HO _ h;rw[IU] at h1
       have:((bs++vs).drop (i*te.w)).take te.w=(bs.drop (i*te.w)).take te.w:=by
        rw[List.drop_append_of_le_length (by omega),List.take_append_of_le_length (by rw[List.length_drop];omega)]
       rw[this];exact(S1 i h).mono
     · have:i=n:=by omega
       subst this
       have:((bs++vs).drop (i*te.w)).take te.w=vs:=by
        rw[← L1,List.drop_left,RX (by omega)]
       rw[this];exact S2
   · by_cases h:j<bs.length
     · rw[A5 h] at hv;obtain⟨q1,y,q2,q3⟩:=C1 j v hv;exact⟨q1,y,q2,fun β=>by rw[← Bt];exact(q3 β).cellMono K2 q1⟩
     · rw[Ci (by omega)] at hv;have hlt:=OU hv
       have hlt':j-bs.length<te.w:=by rw[← hcl,← L2];exact hlt
       have hg:=hcg (j-bs.length) hlt';rw[Wi] at hg
       have e0:o+n*te.w+(j-bs.length)=o+j:=by omega
       rw[e0] at hg;obtain⟨y,hy⟩:∃ y,cs[j-bs.length]?=some y:=⟨_,AX (by omega)⟩;obtain⟨q1,q2⟩:=C2 _ v y hv hy;exact⟨q1,y,hg.trans hy,fun β=>by rw[← Bt];exact q2 β⟩
theorem PY:∀ (d:Nat) (t:TypeId) (ty:Ty),Gt P d t=some ty→∀ (fuel:Nat) (cs:List Value) x,DataW.trod enc P W 0 (fun _=>true) true fuel t cs=some x→∀ (ι:Ap) (σ:Ac),HRel ι σ W→CX σ→Mv ι σ W ty cs
 |0,_,_,h=>by simp[Gt] at h
 | d + 1, t, ty,h=>by
   intro fuel cs x hx ι σ H0 hro
   have one:∀ (v:V) (y:Value),cs=[y]→v.cell=true→(∀ β,Rel ι σ β v y)→Sh σ ty [v]→Mv ι σ W ty cs:=by
    intro v y hc hv hr hs;refine⟨ι,[],[v],by simpa using H0,by simpa using Keeps.refl ι σ,by simpa using hro,by simpa using hs,by rw[hc];rfl,fun i u z hu hz=>?_⟩;rw[hc] at hz
    cases i with
    |zero=>simp at hu hz;subst hu;subst hz;exact⟨hv,by simpa using hr⟩
    |succ i=>simp at hu
   unfold Gt at h;split at h
   · rename_i k hu;cases h;obtain⟨n,hc,_,hwf⟩:=DataW.trod_int hu hx;exact one (.int k n) _ hc rfl (fun β=>.int k n) ⟨n,rfl,hwf⟩
   · rename_i hu;cases h;obtain⟨b,hc,_⟩:=DataW.trod_bool hu hx;exact one (.bool b) _ hc rfl (fun β=>.bool b) ⟨b,rfl⟩
   · rename_i hu;cases h;obtain⟨s,hc,_,hwf⟩:=DataW.trod_string hu hx;exact one (.str s.data.toList) _ hc rfl (fun β=>by have:=Rel.str (ι:=ι) (σ:=σ) (β:=β) s.data.toList;simpa using this) ⟨s.data.toList,rfl,by simpa using hwf⟩
   · rename_i e hu;split at h
     · rename_i te hte;split at h
       · rename_i hw;obtain⟨hw,hpos⟩:=hw;cases h;rcases DataW.trod_slice hu hx with⟨hc,_⟩|⟨a,len,cap,elems,rest,n,_,hc,_,_,hle,hcap,hel,hE,hR,_⟩
         · exact one .nils _ hc rfl (fun β=>.nils none) (.inl rfl)
         · obtain⟨hrl,hR⟩:=hR rfl
           have hcell:∀ i,i<cap→∃ cs' y,W.cells? 0 (a.add (i*P.cellsOf e)) (P.cellsOf e)=some cs'∧DataW.trod enc P W 0 (fun _=>true) true n e cs'=some y:=by
            intro i hi;by_cases h:i<len
            · have h1:=hE i h;obtain⟨y,hy⟩:∃ y,elems[i]?=some y:=⟨_,AX (by omega)⟩;rw[hy,Bc] at h1;obtain⟨cs',h1,h2⟩:=h1;exact⟨cs',y,h1,h2⟩
            · have h1:=hR (i-len) (by omega);obtain⟨y,hy⟩:∃ y,rest[i-len]?=some y:=⟨_,AX (by omega)⟩;rw[hy,Bc] at h1;obtain⟨cs',h1,h2⟩:=h1;rw[show len+(i-len)=i by omega] at h1;exact⟨cs',y,h1,h2⟩
           by_cases hc0:cap=0
           · subst hc0
             have:len=0:=by omega
             subst this;exact one .nils _ hc rfl (fun β=>.nils (some a)) (.inl rfl)
           · have hsp:a.spot=none∧a.block<W.heap.size:=by
              obtain⟨cs',y,h1,_⟩:=hcell 0 (by omega);obtain⟨_,h2,h3⟩:=World.cells?_some h1;have h4:=h3 0 (by omega);obtain⟨z,hz⟩:∃ z,cs'[0]?=some z:=⟨_,AX (by omega)⟩;rw[hz] at h4
              have h5:W.cell? a=some z:=by simpa [Addr.add] using h4
              exact⟨World.cell?_spot h5,Zd h5⟩
             obtain⟨ab,ao,asp⟩:=a;obtain⟨hsp,hlt⟩:=hsp;simp only at hsp hlt;subst hsp
             have hcell':∀ i,i<len→∃ cs' y,W.cells? 0 ⟨ab,ao+i*te.w,none⟩ te.w=some cs'∧DataW.trod enc P W 0 (fun _=>true) true n e cs'=some y:=by
              intro i hi;have:=hcell i (by omega);rw[Wi,← hw] at this;exact this
             obtain⟨ι1,e1,bs,H1,K1,R1,L1,S1,C1⟩:=T9 (PY d) hte hw len hcell' ι σ H0 hro;obtain⟨H2,R2⟩:=H1.lay R1 (c:=cap*te.w) (wd:=te.w) hlt C1;have K2:=K9 ι1 (σ++e1) ⟨ab,ao,cap*te.w⟩ ⟨.ro,te.w,bs⟩
             have hg:((σ++e1)++[(⟨.ro,te.w,bs⟩:Blk)])[(σ++e1).length]?=some ⟨.ro,te.w,bs⟩:=by simp
             refine⟨_,e1++[⟨.ro,te.w,bs⟩],[.slice (σ++e1).length 0 len],by rw[← Bt];exact H2,by rw[← Bt];exact K1.trans K2,by rw[← Bt];exact R2,.inr ⟨_,len,bs,rfl,by rw[← Bt];exact hg,L1,by omega,fun i hi=>by rw[← Bt];exact(S1 i hi).mono⟩,by rw[hc];rfl,fun i u z hu hz=>?_⟩;rw[hc] at hz
             cases i with
             | zero=>
               simp at hu hz;subst hu;subst hz;refine⟨rfl,fun β=>?_⟩;have:=Rel.slice (ι:=B1 ι1 (σ++e1).length ⟨ab,ao,cap*te.w⟩) (σ:=(σ++e1)++[⟨.ro,te.w,bs⟩]) (β:=β) (σ++e1).length 0 len cap ⟨.ro,te.w,bs⟩ hg hle (by rw[BD];simp) (by first|assumption|(simp only;omega));rw[BD] at this;simpa using this
             |succ i=>simp at hu
       · cases h
     · cases h
   · rename_i fs hu;split at h
     · rename_i ty' hty;split at h
       · rename_i hw;cases h;obtain⟨xs,n,_,_,hl,hxl,hf⟩:=DataW.trod_struct hu hx
         have:=TS (enc:=enc) d (PY d) fs.toList 0 _ hty n cs (fun g hg=>by
          obtain⟨i,hi⟩:=Gf hg;have h1:=hf i g (by simpa using hi)
          have:i<xs.length:=by rw[hxl];have:=OU hi;simpa using this
          exact⟨_,h1.trans (AX this)⟩) (by omega) ι σ H0 hro
         simpa using this
       · cases h
     · cases h
   · cases h
end
open Go.RowKit Go.WideShapes Go.ChangeShapes
def SL(P:Program)(d:Nat)(t:TypeId):Option (Ty×Bool):=
 match Gt P d t with
 | some ty=>(match P.underlying t with
   |some (.struct _)=>some (ty,true)
   |some (.int _)|some .bool|some .string|some (.slice _)=>some (ty,false)
   |_=>none)
 |none=>none
def Kl(P:Program)(d:Nat):List TypeId→Option (List (Ty×Bool))
 |[]=>some []
 | t::r=>match SL P d t,Kl P d r with
   |some a,some b=>some (a::b)
   |_,_=>none
def ArgOk(σ:Ac):Ty×Bool→V→Prop
 |(ty,true),v=>∃ cs,v= .agg cs∧Sh σ ty cs∧cs.all V.cell=true
 |(ty,false),v=>Sh σ ty [v]∧v.cell=true
def Kj(σ:Ac):List (Ty×Bool)→List V→Prop
 |[],[]=>True
 |a::r,v::s=>ArgOk σ a v∧Kj σ r s
 |_,_=>False
theorem ArgOk.mono{σ e:Ac}{a:Ty×Bool}{v:V}(h:ArgOk σ a v):ArgOk (σ++e) a v:=by
 obtain⟨ty,b⟩:=a
 cases b with
 |true=>obtain⟨cs,h1,h2,h3⟩:=h;exact⟨cs,h1,h2.mono,h3⟩
 |false=>exact⟨h.1.mono,h.2⟩
theorem ArgOk.noBox{σ:Ac}{a:Ty×Bool}{v:V}(h:ArgOk σ a v):∀ i o,v≠.box i o:=by
 obtain⟨ty,b⟩:=a;intro i o e;subst e
 cases b with
 |true=>obtain⟨cs,h1,_⟩:=h;cases h1
 |false=>have:=h.2;cases this
section
variable {H:Type} {enc:TypeId×Value→H} {P:Program} {W:World} {r:Reach} {base:Nat}
theorem bU {d:Nat} {t:TypeId} {a:Ty×Bool} (ha:SL P d t=some a) {v:Value} {dd:DataW H} {ps:List MemPlace} (h:DataW.Trod enc P W 0 (fun _=>true) true t v dd ps) (hok:Value.okWide P W r base t v)
 (ι:Ap) (σ:Ac) (H0:HRel ι σ W) (hro:CX σ) :
 ∃ ι' e u,HRel ι' (σ++e) W∧Keeps ι σ ι' (σ++e)∧CX (σ++e)∧ArgOk (σ++e) a u∧∀ β,Rel ι' (σ++e) β u v:=by
 unfold SL at ha
 split at ha
 · rename_i ty hty
   obtain⟨fuel,hx⟩:=h;obtain⟨ι',e,vs,h1,h2,h3,h4,h5,h6⟩:=PY d t ty hty fuel _ _ hx ι σ H0 hro
   have one:∀ (hc:v.cells=#[v]),a=(ty,false)→∃ ι' e u,HRel ι' (σ++e) W∧Keeps ι σ ι' (σ++e)∧CX (σ++e)∧ArgOk (σ++e) a u∧∀ β,Rel ι' (σ++e) β u v:=by
    intro hc ea;rw[hc] at h5 h6
    match vs,h5,h4,h6 with
    | [u],_,h4,h6=>
      obtain⟨c1,c2⟩:=h6 0 u v rfl rfl;exact⟨ι',e,u,h1,h2,h3,by rw[ea];exact⟨h4,c1⟩,c2⟩
   split at ha
   · rename_i fs hu;cases ha;obtain⟨cs,rfl,_⟩:=okWide_struct hu hok;replace h5:vs.length=cs.toList.length:=h5;refine⟨ι',e,.agg vs,h1,h2,h3,⟨vs,rfl,h4,?_⟩,fun β=>?_⟩
     · rw[B6];intro u hu';obtain⟨i,hi⟩:=Gf hu'
       have:i<cs.toList.length:=by rw[← h5];exact OU hi
       exact(h6 i u _ hi (AX this)).1
     · have:=Rel.agg (ι:=ι') (σ:=σ++e) (β:=β) vs cs.toList h5 (fun u hu'=>by
        obtain⟨i,hi⟩:=Gf hu'
        have:i<cs.toList.length:=by rw[← h5];exact OU hi
        exact(h6 i u _ hi (AX this)).1) (fun i u w hi hw=>(h6 i u w hi hw).2 β)
       simpa using this
   · rename_i k hu;cases ha;obtain⟨n,rfl⟩:=okWide_int hu hok;exact one rfl rfl
   · rename_i hu;cases ha;obtain⟨n,rfl⟩:=okWide_bool hu hok;exact one rfl rfl
   · rename_i hu;cases ha;obtain⟨n,rfl⟩:=okWide_string hu hok;exact one rfl rfl
   · rename_i el hu;cases ha;obtain⟨x,y,z,rfl⟩:=okWide_slice hu hok;exact one rfl rfl
   · cases ha
 · cases ha
theorem UB{d:Nat}:∀ {ts:List TypeId} {tys:List (Ty×Bool)},Kl P d ts=some tys→∀ {vs:List Value} {ds:List (DataW H)} {ps:List MemPlace},DataW.TrodAll enc P W 0 (fun _=>true) true ts vs ds ps →
 (∀ (j:Nat) t v,ts[j]?=some t→vs[j]?=some v→Value.okWide P W r base t v)→∀ (ι:Ap) (σ:Ac),HRel ι σ W→CX σ →
 ∃ ι' e us,HRel ι' (σ++e) W∧Keeps ι σ ι' (σ++e)∧CX (σ++e)∧Kj (σ++e) tys us∧us.length=vs.length∧∀ (i:Nat) u v,us[i]?=some u→vs[i]?=some v→(∀ j o,u≠.box j o)∧∀ β,Rel ι' (σ++e) β u v
 | [],tys,h,vs,ds,ps,hd,_,ι,σ,H0,hro=>by
   obtain⟨rfl,_,_⟩:=trodAll_nil hd
   cases h
   exact⟨ι,[],[],by simpa using H0,by simpa using Keeps.refl ι σ,by simpa using hro,trivial,rfl,by simp⟩
 | t :: ts,tys,h,vs,ds,ps,hd,hok,ι,σ,H0,hro=>by
   obtain⟨v,vs',x,ds',p,q,rfl,rfl,rfl,h1,h2⟩:=trodAll_cons hd
   unfold Kl at h
   split at h
   · rename_i a b ha hb
     cases h
     obtain⟨ι1,e1,u,H1,K1,R1,A1,C1⟩:=bU ha h1 (hok 0 t v rfl rfl) ι σ H0 hro
     obtain⟨ι2,e2,us,H2,K2,R2,A2,L2,C2⟩:=UB hb h2 (fun j t' v' hj hv=>hok (j+1) t' v' hj hv) ι1 (σ++e1) H1 R1
     refine⟨ι2,e1++e2,u::us,by rw[← Bt];exact H2,by rw[← Bt];exact K1.trans K2,by rw[← Bt];exact R2,by rw[← Bt];exact⟨A1.mono,A2⟩,by simp[L2],fun i u' v' hu hv=>?_⟩
     rw[← Bt]
     cases i with
     | zero=>
       simp at hu hv;subst hu;subst hv
       exact⟨A1.noBox,fun β=>(C1 β).mono K2 (fun j o e=>absurd e (A1.noBox j o))⟩
     |succ i=>exact C2 i u' v' (by simpa using hu) (by simpa using hv)
   · cases h
end
def RG(P:Program)(ts:List TypeId):Bool:=ts.all fun t=>P.readableRec t&&decide (t<P.types.size)
theorem TB{H:Type}{enc:TypeId×Value→H}{P:Program}(hl:laidOutB P=true){W W':World}{sp':Nat→Bool}:∀ {ts:List TypeId} {vs:List Value} {ds:List (DataW H)} {ps:List MemPlace},RG P ts=true →
 DataW.TrodAll enc P W 0 (fun _=>true) true ts vs ds ps→(∀ p∈ps,W.sameAt W' p)→(∀ p∈ps,sp' p.block=true)→DataW.TrodAll enc P W' 0 sp' true ts vs ds ps
 | [],vs,ds,ps,_,h,_,_=>by
   obtain⟨rfl,rfl,rfl⟩:=trodAll_nil h
   rfl
 | t::ts,vs,ds,ps,hr,h,h1,h2=>by
   obtain⟨v,vs',x,ds',p,q,rfl,rfl,rfl,g1,g2⟩:=trodAll_cons h
   unfold RG at hr
   rw[D2,Ah,Ah,A7] at hr
   exact⟨p,q,WideElems.Trod_stays hl hr.1.1 hr.1.2 g1 (fun y hy=>h1 y (by simp[hy])) (fun y hy=>h2 y (by simp[hy])),TB hl hr.2 g2 (fun y hy=>h1 y (by simp[hy])) (fun y hy=>h2 y (by simp[hy])),rfl⟩
theorem Zh {H:Type} {enc:TypeId×Value→H} {P:Program} {f:Func} {s:ChangeSpec} {apart fresh handsOn again:Bool} {W W':World} {args:Array Value} {v:Value} {ds gs:List (DataW H)} {before pa pv:List MemPlace}
 (hW:DataW.Whole enc P f.params.toList s.vars apart W args.toList ds gs before)
 (hres:∀ (b:Nat) (sp:Nat→Bool) (hd:Bool),DataW.TrodAll enc P W' b sp hd f.resultTypes.toList (v.resultList f.resultTypes.size) (s.fn H (ds++gs)).results [])
 (hargs:∀ sp:Nat→Bool,(∀ p∈before,sp p.block=true)→DataW.TrodAll enc P W' 0 sp true f.params.toList args.toList (s.fn H (ds++gs)).args pa)
 (hvars:∀ sp:Nat→Bool,(∀ p∈before,sp p.block=true)→DataW.TrodVars enc P W' sp s.vars (s.fn H (ds++gs)).vars pv)
 (hps:before=pa++pv) (hb:Below W.heap.size W W')
 (hok:∀ (j:Nat) (t:TypeId) (r:Value),f.resultTypes[j]?=some t→(v.resultList f.resultTypes.size)[j]?=some r→Value.okWide P W' .any 0 t r) :
 s.post enc P f apart fresh handsOn again W args v W':=by
 have hlt:∀ p∈before,p.block<W.heap.size:=fun p hp=>hW.lt p hp
 have hold:∀ p∈before,(fun b=>decide (b<W.heap.size)) p.block=true:=fun p hp=>by simpa using hlt p hp
 refine⟨ds,gs,before,[],pa,pv,hW,hres _ _ _,hargs _ hold,hvars _ hold,World.keptBut_mono (fun p hp=>⟨hp,?_⟩) (hb.frame (·∈before)),fun _=>?_⟩
 · rw[hps,Dp] at hp
   exact Or.inr hp
 · obtain⟨_,_,_,_,_,hz,hn⟩:=hW
   refine⟨hok,_,_,([]++pa)++pv,⟨[]++pa,pv,trodAll_append (hargs _ (fun _ _=>rfl)) (hres _ _ _),hvars _ (fun _ _=>rfl),rfl,?_,?_⟩,?_⟩
   · intro b off hp
     have hin:MemPlace.cell b off∈before:=by rw[hps];simpa using hp
     rw[hb.frozen (hlt _ hin)];exact hz b off hin
   · intro ha;have:=hn ha;rw[hps] at this;simpa using this
   · intro p hp _;rw[hps];simpa using hp
theorem Zl {H:Type} {enc:TypeId×Value→H} {P:Program} {f:FuncId} {fn:Func} {s:ChangeSpec} {apart fresh handsOn again:Bool} {sem:AS} {tys:List (Ty×Bool)} {d:Nat} {tb:TypeId}
 (hs:AZ P f sem) (has:Kl P d fn.params.toList=some tys) (hrows:RG P fn.params.toList=true) (hl:laidOutB P=true)
 (hres:fn.resultTypes=#[tb]) (htb:P.underlying tb=some .bool) (hvars:s.vars=[])
 (hspec:∀ ds:List (DataW H),ds.length=tys.length→s.fn H ds={ results:=[.lit (.bool true)],args:=ds })
 (law:∀ (σ:Ac) (us:List V),CX σ→Kj σ tys us→sem us σ fun r _=>r= .bool true)
 {W:World} {base:Nat} {args:Array Value} {ds gs:List (DataW H)} {before:List MemPlace}
 (hval:∀ (j:Nat) t v,fn.params[j]?=some t→args[j]?=some v→Value.okWide P W .any base t v)
 (hW:DataW.Whole enc P fn.params.toList s.vars apart W args.toList ds gs before) (hgl:GlW P W) :
 Calls P f args W fun e W'=>∃ v,e= .returned v∧s.post enc P fn apart fresh handsOn again W args v W':=by
 have hW':=hW
 obtain⟨p,q,hA,hV,rfl,hfz,hnd⟩:=hW
 rw[hvars] at hV
 obtain⟨rfl,rfl⟩:=trodVars_none hV
 rw[Ma] at hW'
 obtain⟨ι,e,us,H1,_,R1,A1,L1,C1⟩:=UB (d:=d) has hA (fun j t v hj hv=>hval j t v (by simpa using hj) (by simpa using hv)) (fun _=>⟨0,0,0⟩) [] ⟨by simp,by simp,by simp,by simp⟩ (fun l b h=>by simp at h)
 simp only[Cg] at H1 R1 A1 C1
 have hc:=hs Phm.no ι e W us args.toList _ (.no e) (by rw[LF];exact H1) (by rw[LF];exact⟨L1,fun i u v hu hv=>(C1 i u v hu hv).2⟩) (law e us R1 A1) ⟨hgl,fun nm hn g hg l blk hl hk=>by rw[LF] at hl;have:=R1 l blk hl;rw[hk] at this;cases this⟩
 have hlen:ds.length=tys.length:=by
  have h1:∀ {ts:List TypeId} {tys:List (Ty×Bool)},Kl P d ts=some tys→tys.length=ts.length:=by
   intro ts
   induction ts with
   |nil=>intro tys h;cases h;rfl
   | cons t ts ih=>
     intro tys h;unfold Kl at h;split at h
     · rename_i a b _ hb;cases h;simp[ih hb]
     · cases h
  have h2:∀ {ts:List TypeId} {vs:List Value} {ds:List (DataW H)} {ps:List MemPlace},DataW.TrodAll enc P W 0 (fun _=>true) true ts vs ds ps→ds.length=ts.length:=by
   intro ts
   induction ts with
   |nil=>intro vs ds ps h;obtain⟨_,rfl,_⟩:=trodAll_nil h;rfl
   | cons t ts ih=>
     intro vs ds ps h;obtain⟨v,vs',x,ds',p,q,rfl,rfl,rfl,_,g2⟩:=trodAll_cons h;simp[ih g2]
  rw[h1 has,h2 hA]
 refine(Calls.mono (by simpa using hc) fun en W' hd=>?_:Calls P f args W _)
 obtain⟨x,r,σ',ι',rfl,rfl,_,hx,_,hstep⟩:=hd
 rw[LF,LF] at hstep
 have hx':=hx (fun _=>0)
 cases hx'
 have hb:Below W.heap.size W W':=⟨hstep.os,hstep.tape,hstep.output,hstep.size,fun k hk=>hstep.frame k hk fun l blk hl hk'=>by have:=R1 l blk hl;rw[hk'] at this;cases this⟩
 have hfn:=hspec (ds++[]) (by simpa using hlen)
 have hlt:∀ x∈p,x.block<W.heap.size:=fun x hx=>hW'.lt x hx
 refine⟨_,rfl,Zh (pa:=p) (pv:=[]) hW' (fun _ _ _=>?_) (fun sp hsp=>?_) (fun sp _=>?_) (by simp) hb (ok_one hres rfl (okWide_bool_mk htb true))⟩
 · rw[hfn,hres]
   exact trodAll_cons_mk (shut_bool htb true) trodAll_mk0
 · rw[hfn]
   simp only[Ma];exact TB hl hrows hA (fun x hx=>hb.same (hlt x hx)) hsp
 · rw[hfn,hvars]
   rfl
open Go.ChangeShapes
mutual
def CT.wf:(t:CT)→t.D→Prop
 |.int k,n=>(Lit.int k n).wf=true
 |.bool,_=>True
 |.str,s=>s.length≤maxLen
 |.ifc,_=>True
 |.sl r,l=>@List.length r.D l≤maxLen∧∀ x:r.D,@Membership.mem r.D (List r.D) inferInstance l x→RT.wf r x
def RT.wf:(r:RT)→r.D→Prop
 |.one t,x=>CT.wf t x
 |.cons t r,x=>CT.wf t x.1∧RT.wf r x.2
end
def AgX.wf:(l:List (Ql×CT))→AgX l→Prop
 |[],_=>True
 |[a],x=>a.2.wf x
 |a::b::r,x=>a.2.wf x.1∧AgX.wf (b::r) x.2
def HT.wf:(h:HT)→h.D→Prop
 |.one _ t,x=>t.wf x
 |.agg l,x=>AgX.wf l x
def TuX.wf:(l:List HT)→TuX l→Prop
 |[],_=>True
 |[a],x=>a.wf x
 |a::b::r,x=>a.wf x.1∧TuX.wf (b::r) x.2
def EG:List CT→RT
 |[]=>.one .bool
 |[a]=>.one a
 |a::b::r=>.cons a (EG (b::r))
def Ty.cts:Ty→List CT
 |.int k=>[.int k]
 |.bool=>[.bool]
 |.str=>[.str]
 |.sl t=>[.sl (EG t.cts)]
 |.unit=>[]
 |.pair a b=>a.cts++b.cts
def Ty.good:Ty→Bool
 |.sl t=>Nat.blt 0 t.w&&t.good
 |.pair a b=>a.good&&b.good
 |_=>true
def Ie:Ty×Bool→HT
 |(ty,true)=>.agg (ty.cts.map fun t=>(.frz,t))
 |(ty,false)=>match ty.cts with|[c]=>.one .frz c|_=>.agg []
def Ox:Ty×Bool→Bool
 |(ty,true)=>ty.good
 |(ty,false)=>ty.good&&ty.cts.length == 1
def DL:List CT→Type
 |[]=>Unit
 |a::r=>a.D×DL r
def DL.wf:(l:List CT)→DL l→Prop
 |[],_=>True
 |a::r,x=>a.wf x.1∧DL.wf r x.2
def DL.enc:(l:List CT)→DL l→List PV
 |[],_=>[]
 |a::r,x=>CT.enc a x.1::DL.enc r x.2
def DL.encF:(l:List CT)→DL l→List PV
 |[],_=>[]
 |a::r,x=>(CT.dv .frz a x.1).enc::DL.encF r x.2
def DL.app:(l m:List CT)→DL l→DL m→DL (l++m)
 |[],_,_,y=>y
 |_::l,m,x,y=>(x.1,DL.app l m x.2 y)
theorem DL.app_enc:∀ (l m:List CT) (x:DL l) (y:DL m),DL.enc (l++m) (DL.app l m x y)=DL.enc l x++DL.enc m y
 |[],_,_,_=>rfl
 | a::l,m,x,y=>by
   show CT.enc a x.1::DL.enc (l++m) (DL.app l m x.2 y)=CT.enc a x.1::(DL.enc l x.2++DL.enc m y)
   rw[DL.app_enc l m x.2 y]
theorem DL.app_encF:∀ (l m:List CT) (x:DL l) (y:DL m),DL.encF (l++m) (DL.app l m x y)=DL.encF l x++DL.encF m y
 |[],_,_,_=>rfl
 | a::l,m,x,y=>by
   show (CT.dv .frz a x.1).enc::DL.encF (l++m) (DL.app l m x.2 y)=(CT.dv .frz a x.1).enc::(DL.encF l x.2++DL.encF m y)
   rw[DL.app_encF l m x.2 y]
theorem DL.app_wf:∀ (l m:List CT) (x:DL l) (y:DL m),DL.wf l x→DL.wf m y→DL.wf (l++m) (DL.app l m x y)
 |[],_,_,_,_,h=>h
 |_::l,m,x,y,h,h'=>⟨h.1,DL.app_wf l m x.2 y h.2 h'⟩
theorem DL.len:∀ (l:List CT) (x:DL l),(DL.enc l x).length=l.length
 |[],_=>rfl
 |_::l,x=>by show _+1=_+1;rw[DL.len l x.2]
theorem DL.lenF:∀ (l:List CT) (x:DL l),(DL.encF l x).length=l.length
 |[],_=>rfl
 |_::l,x=>by show _+1=_+1;rw[DL.lenF l x.2]
def DL.rt:(l:List CT)→DL l→(EG l).D
 |[],_=>false
 |[_],x=>x.1
 |_::b::r,x=>(x.1,DL.rt (b::r) x.2)
theorem DL.rt_enc:∀ (l:List CT) (x:DL l),l≠[]→RT.enc (EG l) (DL.rt l x)=DL.enc l x
 |[],_,h=>absurd rfl h
 |[_],_,_=>rfl
 | a::b::r,x,_=>by
   show CT.enc a x.1::RT.enc (EG (b::r)) (DL.rt (b::r) x.2)=CT.enc a x.1::DL.enc (b::r) x.2
   rw[DL.rt_enc (b::r) x.2 (by simp)]
theorem DL.rt_wf:∀ (l:List CT) (x:DL l),l≠[]→DL.wf l x→RT.wf (EG l) (DL.rt l x)
 |[],_,h,_=>absurd rfl h
 |[_],_,_,h=>h.1
 |a::b::r,x,_,h=>⟨h.1,DL.rt_wf (b::r) x.2 (by simp) h.2⟩
def DL.ag:(l:List CT)→DL l→AgX (l.map fun t=>(Ql.frz,t))
 |[],_=>()
 |[_],x=>x.1
 |_::b::r,x=>(x.1,DL.ag (b::r) x.2)
theorem DL.ag_enc:∀ (l:List CT) (x:DL l),DV.encL (B0 (l.map fun t=>(Ql.frz,t)) (DL.ag l x))=DL.encF l x
 |[],_=>rfl
 |[_],_=>rfl
 | a::b::r,x=>by
   show (CT.dv .frz a x.1).enc::DV.encL (B0 ((b::r).map fun t=>(Ql.frz,t)) (DL.ag (b::r) x.2))=(CT.dv .frz a x.1).enc::DL.encF (b::r) x.2
   rw[DL.ag_enc (b::r) x.2]
theorem DL.ag_wf:∀ (l:List CT) (x:DL l),DL.wf l x→AgX.wf (l.map fun t=>(Ql.frz,t)) (DL.ag l x)
 |[],_,_=>trivial
 |[_],_,h=>h.1
 |a::b::r,x,h=>⟨h.1,DL.ag_wf (b::r) x.2 h.2⟩
theorem GZ:∀ (t:Ty),t.cts.length=t.w
 |.int _|.bool|.str|.sl _|.unit=>rfl
 |.pair a b=>by simp only[Ty.cts,Ty.w,D3,GZ a,GZ b]
def ωro(σ:Ac):Nat→W:=fun l=>if l<σ.length then .frz else .none
theorem ωro_frz{σ:Ac}{l:Nat}{b:Blk}(h:σ[l]?=some b):ωro σ l= .frz:=by
 unfold ωro;rw[Ab (Bz h)]
theorem Nq:∀ (a b:List PV) (i:Nat),i<a.length→Aa (a++b) i=Aa a i
 |[],_,_,h=>by cases h
 |_::_,_,0,_=>rfl
 |_::a,b,i+1,h=>Nq a b i (by simpa using h)
theorem M9:∀ (a b:List PV) (i:Nat),Aa (a++b) (a.length+i)=Aa b i
 |[],_,_=>by simp
 | _::a,b,i=>by
   have:=M9 a b i
   simp only[Ct,Bu,RI]
   exact this
theorem P4:∀ (a b:List V) (i:Nat),i<a.length→get (a++b) i=get a i
 |[],_,_,h=>by cases h
 |_::_,_,0,_=>rfl
 |_::a,b,i+1,h=>P4 a b i (by simpa using h)
theorem P2:∀ (a b:List V) (i:Nat),get (a++b) (a.length+i)=get b i
 |[],_,_=>by simp
 | _::a,b,i=>by
   have:=P2 a b i
   simp only[Ct,Bu,RI]
   exact this
theorem P0:∀ (l:List V) (o n i:Nat),i<n→get ((l.drop o).take n) i=get l (o+i)
 |[],o,n,i,_=>by simp[get]
 |c::r,0,0,i,h=>by cases h
 |c::r,0,n+1,0,_=>rfl
 | c::r,0,n+1,i+1,h=>by
   have:=P0 r 0 n i (by omega)
   simp only[Bn] at this
   simp only[L0,List.take_succ_cons,get,Bn]
   simpa using this
 | c::r,o+1,n,i,h=>by
   have:=P0 r o n i h
   rw[List.drop_succ_cons,this,RI]
   rfl
theorem US{w:Nat}:∀ (es:List (List PV)) (i j:Nat),(∀ e∈es,e.length=w)→j<w→i<es.length→Aa es.flatten (i*w+j)=Aa (Az es i) j
 |[],i,_,_,_,h=>by cases h
 | e::r,0,j,hw,hj,_=>by
   have he:=hw e (I5 ..)
   rw[HZ,Bn,Gb,Nq _ _ _ (by omega)]
   rfl
 | e::r,i+1,j,hw,hj,h=>by
   have he:=hw e (I5 ..)
   rw[Gb,show (i+1)*w+j=e.length+(i*w+j) by rw[he,IU];omega,M9]
   exact US r i j (fun e h=>hw e (List.mem_cons_of_mem _ h)) hj (by simpa using h)
theorem Vd {α:Type}(f:α→List PV):∀ (l:List α) (i:Nat) (h:i<l.length),Az (l.map f) i=f l[i]
 |[],_,h=>by cases h
 |_::_,0,_=>rfl
 |_::l,i+1,h=>Vd f l i (by simpa using h)
theorem LH{σ:Ac}:∀ (ty:Ty) {cs:List V},ty.good=true→Sh σ ty cs→∃ x:DL ty.cts,DL.wf ty.cts x ∧
 (∀ i,RC σ (ωro σ) .fz (Aa (DL.enc ty.cts x) i) (get cs i))∧∀ i hd p,RC σ (ωro σ) (.at hd p) (Aa (DL.encF ty.cts x) i) (get cs i)
 | .int k,cs,_,⟨n,h,hw⟩=>by
   subst h;exact⟨(n,()),⟨hw,trivial⟩,fun i=>by cases i<;>first|exact .v _ _ rfl|exact .undef _ _,fun i hd p=>by cases i<;>first|exact .v _ _ rfl|exact .undef _ _⟩
 | .bool,cs,_,⟨b,h⟩=>by
   subst h;exact⟨(b,()),⟨trivial,trivial⟩,fun i=>by cases i<;>first|exact .v _ _ rfl|exact .undef _ _,fun i hd p=>by cases i<;>first|exact .v _ _ rfl|exact .undef _ _⟩
 | .str,cs,_,⟨s,h,hl⟩=>by
   subst h;exact⟨(s,()),⟨hl,trivial⟩,fun i=>by cases i<;>first|exact .v _ _ rfl|exact .undef _ _,fun i hd p=>by cases i<;>first|exact .v _ _ rfl|exact .undef _ _⟩
 | .unit,cs,_,h=>by
   have h:cs=[]:=h;subst h;exact⟨(),trivial,fun i=>.undef _ _,fun i hd p=>.undef _ _⟩
 | .pair a b,cs,hg,⟨xs,ys,h,h1,h2⟩=>by
   simp only[Ty.good,Ah] at hg;obtain⟨x,x1,x2,x3⟩:=LH a hg.1 h1;obtain⟨y,y1,y2,y3⟩:=LH b hg.2 h2;have hl:=h1.len;subst h;refine⟨DL.app _ _ x y,DL.app_wf _ _ x y x1 y1,fun i=>?_,fun i hd p=>?_⟩
   · simp only[Ty.cts];rw[DL.app_enc];by_cases hi:i<a.w
     · rw[Nq _ _ _ (by rw[DL.len,GZ];exact hi),P4 _ _ _ (by rw[hl];exact hi)];exact x2 i
     · obtain⟨j,rfl⟩:=Nat.exists_eq_add_of_le (Nat.le_of_not_lt hi);have e1:=M9 (DL.enc a.cts x) (DL.enc b.cts y) j;have e2:=P2 xs ys j;rw[DL.len,GZ] at e1;rw[hl] at e2;rw[e1,e2];exact y2 j
   · simp only[Ty.cts];rw[DL.app_encF];by_cases hi:i<a.w
     · rw[Nq _ _ _ (by rw[DL.lenF,GZ];exact hi),P4 _ _ _ (by rw[hl];exact hi)];exact x3 i hd p
     · obtain⟨j,rfl⟩:=Nat.exists_eq_add_of_le (Nat.le_of_not_lt hi);have e1:=M9 (DL.encF a.cts x) (DL.encF b.cts y) j;have e2:=P2 xs ys j;rw[DL.lenF,GZ] at e1;rw[hl] at e2;rw[e1,e2];exact y3 j hd p
 | .sl t,cs,hg,h=>by
   simp only[Ty.good,Ah] at hg;have hw0:0<t.w:=BS hg.1
   have hne:t.cts≠[]:=by intro e;have:=GZ t;rw[e] at this;simp only[Br] at this;omega
   rcases h with h|⟨l,n,bs,h,hb,hbl,hn,he⟩
   · subst h;refine⟨(([]:List (EG t.cts).D),()),⟨⟨IP _,fun x hx=>by cases hx⟩,trivial⟩,fun i=>?_,fun i hd p=>?_⟩
     · cases i<;>first|exact .nil _ _|exact .undef _ _
     · cases i<;>first|exact .nil _ _|exact .undef _ _
   · subst h
     have ex:∀ i,∃ x:DL t.cts,i<n→DL.wf t.cts x∧(∀ k,RC σ (ωro σ) .fz (Aa (DL.enc t.cts x) k) (get ((bs.drop (i*t.w)).take t.w) k)):=by
      intro i;by_cases hi:i<n
      · obtain⟨x,h1,h2,_⟩:=LH t hg.2 (he i hi);exact⟨x,fun _=>⟨h1,h2⟩⟩
      · have h0:∀ l:List CT,Nonempty (DL l):=by
         intro l
         induction l with
         |nil=>exact⟨()⟩
         |cons a r ih=>obtain⟨y⟩:=ih;exact⟨(a.dflt,y)⟩
        obtain⟨y⟩:=h0 t.cts;exact⟨y,fun h=>absurd h hi⟩
     let f:Nat→DL t.cts:=fun i=>Classical.choose (ex i)
     have hf:∀ i,i<n→DL.wf t.cts (f i)∧∀ k,RC σ (ωro σ) .fz (Aa (DL.enc t.cts (f i)) k) (get ((bs.drop (i*t.w)).take t.w) k):=fun i hi=>Classical.choose_spec (ex i) hi
     let L:List (EG t.cts).D:=(List.range n).map fun i=>DL.rt t.cts (f i)
     have hL:L.length=n:=by simp[L]
     have hLw:∀ e∈L.map (RT.enc (EG t.cts)),e.length=t.w:=by
      intro e he;obtain⟨y,hy,rfl⟩:=List.mem_map.mp he;obtain⟨i,_,rfl⟩:=List.mem_map.mp hy;rw[DL.rt_enc _ _ hne,DL.len,GZ]
     have hcell:∀ k,k<L.length*t.w→RC σ (ωro σ) .fz (Aa (L.map (RT.enc (EG t.cts))).flatten k) (get bs (0+k)):=by
      intro k hk
      have hdm:k / t.w*t.w+k % t.w=k:=by rw[Pe];exact O0 k t.w
      have hmod:=G3 k hw0
      have hdiv:k / t.w<n:=by rw[hL] at hk;exact(OW hw0).2 hk
      have e1:=US (L.map (RT.enc (EG t.cts))) (k / t.w) (k % t.w) hLw hmod (by rw[BE,hL];exact hdiv);rw[hdm] at e1;rw[e1,Vd _ _ _ (by rw[hL];exact hdiv),Bn];have e2:=P0 bs (k / t.w*t.w) t.w (k % t.w) hmod;rw[hdm] at e2
      have e3:L[k / t.w]'(by rw[hL];exact hdiv)=DL.rt t.cts (f (k / t.w)):=by simp[L]
      rw[e3,DL.rt_enc _ _ hne,← e2];exact(hf _ hdiv).2 _
     have hwf:∀ x∈L,RT.wf (EG t.cts) x:=by
      intro x hx;obtain⟨i,hi,rfl⟩:=List.mem_map.mp hx;exact DL.rt_wf _ _ hne (hf i (List.mem_range.mp hi)).1
     have hle:0+(L.map (RT.enc (EG t.cts))).length*t.w≤bs.length:=by rw[BE,hL,hbl];omega
     refine⟨(L,()),⟨⟨by rw[hL];exact hn,hwf⟩,trivial⟩,fun i=>?_,fun i hd p=>?_⟩
     · cases i with
       |succ i=>exact .undef _ _
       |zero=>exact .sl _ _ _ _ _ _ _ hb (by simp) (ωro_frz hb) (fun e=>by cases e) (by rw[BE,hL]) hLw hle fun k hk=>hcell k (by rw[BE] at hk;exact hk)
     · cases i with
       |succ i=>exact .undef _ _
       |zero=>exact .sl _ _ _ _ _ _ _ hb (by simp) (ωro_frz hb) (fun _ e=>by rcases e with e|⟨_,_,e⟩<;>cases e) (by rw[BE,hL]) hLw hle fun k hk=>hcell k (by rw[BE] at hk;exact hk)
structure ArgD (σ:Ac) (v:PV) (u:V):Prop where
 rc:∀ hd p c,RC σ (ωro σ) (.at hd p) (v.fcell c) (u.fcell c)
 sh:AB v u
 nx:∀ c i pb tp,(v.fcell c).q≠some (.bor (.x i) pb tp)
theorem fh{v:V}(h:v.cell=true):(∀ us,v≠.agg us)∧∀ us,v≠.tup us:=by
 constructor<;>rintro us rfl<;>cases h
theorem SF:∀ (l:List CT) (x:DL l) (i:Nat) (a:Hd) (pb:List Nat) (tp:Bool),(Aa (DL.encF l x) i).q≠some (.bor a pb tp)
 |[],_,_,_,_,_=>by simp[DL.encF,Aa,PV.q]
 |c::r,x,0,a,pb,tp=>by cases c<;>simp[DL.encF,Aa,CT.dv,DV.enc,PV.q]
 |_::r,x,i+1,a,pb,tp=>SF r x.2 i a pb tp
theorem Vx{σ:Ac}{a:Ty×Bool}{u:V}(hg:Ox a=true)(h:ArgOk σ a u):∃ x:(Ie a).D,(Ie a).wf x∧ArgD σ ((Ie a).dv x).enc u:=by
 obtain⟨ty,b⟩:=a
 cases b with
 | true=>
   obtain⟨cs,rfl,hs,hc⟩:=h;obtain⟨x,h1,_,h3⟩:=LH ty hg hs;have hle:=hs.len;refine⟨DL.ag ty.cts x,DL.ag_wf _ _ h1,?_⟩
   have he:((Ie (ty,true)).dv (DL.ag ty.cts x)).enc= .agg (DL.encF ty.cts x):=by
    show PV.agg _=PV.agg _;rw[DL.ag_enc]
   rw[he];refine⟨fun hd p c=>?_,⟨cs,rfl,by rw[hle,DL.lenF,GZ]⟩,fun c i pb tp=>?_⟩
   · match c with
     |[]=>exact .undef _ _
     |[c]=>exact h3 c hd p
     |_::_::_=>exact .undef _ _
   · match c with
     |[]=>simp[PV.fcell,PV.q]
     |[c]=>exact SF _ _ _ _ _ _
     |_::_::_=>simp[PV.fcell,PV.q]
 | false =>
   obtain⟨hs,hc⟩:=h;simp only[Ox,Ah,AD] at hg;obtain⟨x,h1,_,h3⟩:=LH ty hg.1 hs
   have key:∀ (l:List CT) (x:DL l),l.length=1→DL.wf l x→(∀ i hd p,RC σ (ωro σ) (.at hd p) (Aa (DL.encF l x) i) (get [u] i)) →
    ∃ y:(match l with|[c]=>HT.one .frz c|_=>HT.agg []).D,(match l with|[c]=>HT.one .frz c|_=>HT.agg []).wf y∧ArgD σ ((match l with|[c]=>HT.one .frz c|_=>HT.agg []).dv y).enc u:=by
    intro l x hl hwf h3
    match l,x,hl,hwf,h3 with
    | [c],x,_,hwf,h3=>
      have hsc:=fh hc
      have hnf:∀ p,p≠[0]→((CT.dv .frz c x.1).enc).fcell p= .fl .undef:=by
       intro p hp;cases c<;>(match p with|[]=>rfl|[0]=>exact absurd rfl hp|(_+1)::_=>rfl|0::_::_=>rfl)
      have hf0:((CT.dv .frz c x.1).enc).fcell [0]=(CT.dv .frz c x.1).enc:=by cases c<;>rfl
      have hu0:u.fcell [0]=u:=by cases u<;>first|rfl|exact absurd rfl (hsc.1 _)|exact absurd rfl (hsc.2 _)
      refine⟨x.1,hwf.1,⟨fun hd p q=>?_,?_,fun q i pb tp=>?_⟩⟩
      · by_cases hq:q=[0]
        · subst hq;show RC σ (ωro σ) (.at hd p) (((CT.dv .frz c x.1).enc).fcell [0]) (u.fcell [0]);rw[hf0,hu0];exact h3 0 hd p
        · show RC σ (ωro σ) (.at hd p) (((CT.dv .frz c x.1).enc).fcell q) (u.fcell q);rw[hnf q hq];exact .undef _ _
      · show AB ((CT.dv .frz c x.1).enc) u;cases c<;>exact hsc
      · show (((CT.dv .frz c x.1).enc).fcell q).q≠_;by_cases hq:q=[0]
        · subst hq;rw[hf0];exact SF [c] x 0 _ _ _
        · rw[hnf q hq];simp[PV.q]
   exact key ty.cts x hg.2 h1 h3
theorem Qv{σ:Ac}:∀ {tys:List (Ty×Bool)} {us:List V},tys.all Ox=true→Kj σ tys us→∃ x:TuX (tys.map Ie),TuX.wf _ x∧us.length=tys.length ∧
 ∀ t,ArgD σ (Aa (DV.encL (Cw (tys.map Ie) x)) t) (get us t)
 |[],[],_,_=>⟨(),trivial,rfl,fun t=>⟨fun hd p c=>by
  have:(PV.fl V.undef).fcell c= .fl .undef:=by match c with|[]=>rfl|[0]=>rfl|(_+1)::_=>rfl|0::_::_=>rfl
  show RC σ (ωro σ) (.at hd p) ((PV.fl V.undef).fcell c) _
  rw[this];exact .undef _ _,trivial,fun c i pb tp=>by
  have:(PV.fl V.undef).fcell c= .fl .undef:=by match c with|[]=>rfl|[0]=>rfl|(_+1)::_=>rfl|0::_::_=>rfl
  show ((PV.fl V.undef).fcell c).q≠_
  rw[this];simp[PV.q]⟩⟩
 | [a],[u],hg,h=>by
   simp only[D2,List.all_nil,KE] at hg;obtain⟨x,h1,h2⟩:=Vx hg h.1;obtain⟨_,_,_,h4⟩:=Qv (σ:=σ) (tys:=[]) (us:=[]) rfl trivial;refine⟨x,h1,rfl,fun t=>?_⟩
   cases t with
   |zero=>exact h2
   |succ t=>exact h4 t
 | a::b::r,u::us,hg,h=>by
   rw[D2,Ah] at hg;obtain⟨x,h1,h2⟩:=Vx hg.1 h.1;obtain⟨y,h3,h4,h5⟩:=Qv (tys:=b::r) (us:=us) hg.2 h.2;refine⟨(x,y),⟨h1,h3⟩,by simp[h4],fun t=>?_⟩
   cases t with
   |zero=>exact h2
   |succ t=>exact h5 t
 |[_],_::_::_,_,h=>h.2.elim
 |[_],[],_,h=>h.elim
 |_::_::_,[],_,h=>h.elim
 |[],_::_,_,h=>h.elim
theorem gP{σ:Ac}{as:List PV}{us:List V}(hl:as.length=us.length)(h:∀ t,ArgD σ (Aa as t) (get us t)):RS σ (ωro σ) (ωro σ) (fun _=>0) ⟨as,[],[]⟩ ⟨us,[],σ⟩ X0:=by
 have no:∀ l hd p,ωro σ l≠.own hd p:=by intro l hd p e;unfold ωro at e;split at e<;>cases e
 have nop:∀ l i,ωro σ l≠.ptr i:=by intro l i e;unfold ωro at e;split at e<;>cases e
 have hund:∀ c,(PV.fl V.undef).fcell c= .fl .undef:=by
  intro c;match c with|[]=>rfl|[0]=>rfl|(_+1)::_=>rfl|0::_::_=>rfl
 have cat:∀ (c:List Nat) (l:List V),(AH [] l c).1= .fl .undef:=by
  intro c l;match c with|[]=>rfl|[_]=>rfl|_::_::_=>rfl
 refine⟨⟨fun hd p=>?_,fun l l' hd p e=>absurd e (no l hd p),fun l l' i e=>absurd e (nop l i),fun l e=>?_,fun l e=>?_⟩,fun t=>(h t).sh,fun i=>trivial,hl,rfl,fun i=>rfl,fun i c=>rfl,fun i c=>rfl,fun i hi=>(by cases hi),fun l i e=>absurd e (nop l i),fun l i p e=>absurd e (no l _ p),⟨A8 _,fun l _ _=>⟨rfl,rfl⟩,fun l hlt e=>(by rw[e];simp),fun l i e=>e⟩,fun hd p i pb tp=>?_⟩
 · cases hd with
   |s t=>exact(h t).rc _ _ _
   |b i=>show RC σ (ωro σ) _ (AH [] (Aw [] i) p).1 _;rw[cat];exact .undef _ _
   |h i=>show RC σ (ωro σ) _ (AH [] _ p).1 _;rw[cat];exact .undef _ _
   |x i=>show RC σ (ωro σ) _ ((PV.fl V.undef).fcell p) _;rw[hund];exact .undef _ _
 · rcases e with⟨hd,p,e⟩|⟨i,e⟩
   · exact absurd e (no l hd p)
   · exact absurd e (nop l i)
 · unfold ωro at e;split at e
   · assumption
   · cases e
 · cases hd with
   |s t=>exact(h t).nx p i pb tp
   |b j=>show (AH [] (Aw [] j) p).1.q≠_;rw[cat];simp[PV.q]
   |h j=>show (AH [] _ p).1.q≠_;rw[cat];simp[PV.q]
   |x j=>show ((PV.fl V.undef).fcell p).q≠_;rw[hund];simp[PV.q]
theorem gv {f:DFun} {tys:List (Ty×Bool)} {hs:List HT} {s:AS} (hsp:Dn s (CI f.er)) (hhs:tys.map Ie=hs) (hg:tys.all Ox=true) (ho:AllD f.body.obs)
 (hst:KG f hs (.one (.one .own .bool))=true) (hc:∀ x,KB f hs (.one (.one .own .bool)) x=true)
 (law:∀ x:TuX hs,TuX.wf hs x→Jj f hs (.one (.one .own .bool)) x∧Jm f hs (.one (.one .own .bool)) x=true) (σ:Ac) (us:List V) (hro:CX σ) (ha:Kj σ tys us):s us σ fun r _=>r= .bool true:=by
 subst hhs
 obtain⟨x,h1,h2,h3⟩:=Qv hg ha
 obtain⟨l1,l2⟩:=law x h1
 have hlen:(DV.encL (Cw (tys.map Ie) x)).length=us.length:=by rw[Dj,J3,BE,h2]
 refine hsp σ (ωro σ) (fun _=>0) _ us [] (fun r _=>r= .fl (.bool true)) _ (gP hlen h3) (fun l hd p e=>?_) ?_ fun u h' r H' ω' ρ' hQ R' _=>?_
 · exfalso;unfold ωro at e;split at e<;>cases e
 · refine VI ho hst x (hc x) l1 fun H=>?_
   rw[l2];rfl
 · subst hQ
   have r:=R'.core.rc (.x 0) [0];have hs:=R'.shx 0;have r:RC h' ω' (.at (.x 0) [0]) (.fl (.bool true)) (u.fcell [0]):=r
   have hu:u.fcell [0]=u:=by
    have hs:AB (.fl (.bool true)) u:=hs
    cases u<;>first|rfl|exact absurd rfl (hs.1 _)|exact absurd rfl (hs.2 _)
   rw[hu] at r;cases r;rfl
structure Fn where
 d:DFun
 h:List HT
 q:QT
@[irreducible] def Fn.S(F:Fn):AS:=El F.d.er.er
@[irreducible] def Fn.P(F:Fn):BB:=CI F.d.er
@[irreducible] def Fn.V(F:Fn)(x:TuX F.h):F.q.D:=(shut fun x=>Jm F.d F.h F.q x).1 x
@[irreducible] def Fn.O(F:Fn)(x:TuX F.h):Prop:=(shut fun x=>Jj F.d F.h F.q x).1 x
def Fn.D(F:Fn):Ib:=Sa F.h F.q F.O F.V
theorem Fn.v(F:Fn)(x:TuX F.h):F.V x=Jm F.d F.h F.q x:=by unfold Fn.V;exact congrFun (shut _).2 x
theorem Fn.o(F:Fn)(x:TuX F.h):F.O x=Jj F.d F.h F.q x:=by unfold Fn.O;exact congrFun (shut _).2 x
def Fn.A(F:Fn):Prop:=Dn F.S F.P
def Fn.B(F:Fn):Prop:=O3 F.P F.D
theorem EJ{F:Fn}(o:AllP F.d.er.body.obs):F.A:=by unfold Fn.A Fn.S Fn.P;exact FY o
theorem Fe{F:Fn}(o:AllD F.d.body.obs)(st:KG F.d F.h F.q=true)(c:∀ x,KB F.d F.h F.q x=true):F.B:=by
 unfold Fn.B Fn.P;exact aZ o st c (fun x h=>Eq.mp (F.o x) h) (fun x=>(F.v x).symm)
@[reducible] def oF (i d:Nat) (F:Fn) (args:List Opnd):DOper:=⟨i,some d,.call false F.S F.P F.D args,none,[]⟩
theorem lF{P:Program}(hm:P.follows .mixedOrders=true){F:Fn}{f:FuncId}{fn:Func}{obs:List (FuncId×AS)}(hf:P.funcs[f]?=some fn)(hk:Ew P fn F.d.er.er=true)(ho:Ev P fn F.d.er.er=obs)(hob:AllSound P obs):AZ P f F.S:=by
 unfold Fn.S;exact FV hm hf hk ho hob
section
set_option maxRecDepth 8000
def YB:DCode:=(.seq [0] (.region [oa 0 2 (.mv (.c (.bool false)))]) (.seq [2] (.region [om 0 3 0,oa 1 4 (.bin .geq (.t 3) (.c (.int .i64 1))),om 2 5 4,og 3 6 (.mv (.t 0)) 5 true,og 4 7 (.bin .leq (.t 6) (.c (.int .i64 56))) 5 true,oa 5 8 (.pick (.t 5) (.t 7) (.c (.bool false))),om 6 2 8]) .ret))
def DG:Fn:=⟨⟨1,9,0,true,[.tmp 2],YB⟩,[.one .frz (.int .i64)],.one (.one .own (.bool))⟩
theorem PT:DG.A:=EJ trivial
def Fi:Int→Bool:=DG.V
def Jw:Int→Prop:=DG.O
theorem PO:DG.B:=Fe trivial (by kernel_rfl) (fun x=>by kernel_rfl)
def YS:DCode:=(.seq [0] (.region [oa 0 2 (.mv (.c (.bool false)))]) (.seq [2] (.region [om 0 3 0,oa 1 4 (.bin .geq (.t 3) (.c (.int .i64 1))),om 2 5 4,og 3 6 (.mv (.t 0)) 5 true,og 4 7 (.bin .leq (.t 6) (.c (.int .i64 15))) 5 true,oa 5 8 (.pick (.t 5) (.t 7) (.c (.bool false))),om 6 2 8]) .ret))
def CF:Fn:=⟨⟨1,9,0,true,[.tmp 2],YS⟩,[.one .frz (.int .i64)],.one (.one .own (.bool))⟩
theorem PQ:CF.A:=EJ trivial
def JE:Int→Bool:=CF.V
def Ir:Int→Prop:=CF.O
theorem PR:CF.B:=Fe trivial (by kernel_rfl) (fun x=>by kernel_rfl)
def Yq:DCode:=(.seq [0] (.region [oa 0 2 (.mv (.c (.bool false)))]) (.seq [2] (.region [om 0 3 0,oa 1 4 (.bin .geq (.t 3) (.c (.int .i64 1))),om 2 5 4,og 3 6 (.mv (.t 0)) 5 true,og 4 7 (.bin .leq (.t 6) (.c (.int .i64 3))) 5 true,oa 5 8 (.pick (.t 5) (.t 7) (.c (.bool false))),om 6 2 8]) .ret))
def DE:Fn:=⟨⟨1,9,0,true,[.tmp 2],Yq⟩,[.one .frz (.int .i64)],.one (.one .own (.bool))⟩
theorem Th:DE.A:=EJ trivial
def M6:Int→Bool:=DE.V
def KQ:Int→Prop:=DE.O
theorem Tb:DE.B:=Fe trivial (by kernel_rfl) (fun x=>by kernel_rfl)
def XY:DCode:=(.seq [1] (.region [oa 0 1 (.boxB 0 4 (.t 0)),oa 1 2 (.mv (.c (.bool false)))]) (.seq [] (.seq [4,1] (.region [oa 0 3 (.fieldA 0 (.t 1)),oa 1 4 (.loadB 0 none (.t 3))]) (.block 0 (.seq [5,4,1] (.seq [5,4,1] (.region [oa 0 6 (.bin .eql (.t 4) (.c (.int .i64 0))),om 1 5 6]) (.cond (.t 5) .skip (.seq [5,4,1] (.region [oa 0 7 (.bin .eql (.t 4) (.c (.int .i64 1))),om 1 5 7]) (.cond (.t 5) .skip (.region [oa 0 8 (.bin .eql (.t 4) (.c (.int .i64 10))),om 1 5 8]))))) (.cond (.t 5) (.seq [2] (.region [oa 0 9 (.fieldA 1 (.t 1)),oa 1 10 (.loadB 0 none (.t 9)),oa 2 11 (.bin .eql (.t 10) (.c (.int .i64 0))),om 3 12 11,og 4 13 (.fieldA 2 (.t 1)) 12 true,og 5 14 (.loadB 0 none (.t 13)) 12 true,og 6 15 (.bin .eql (.t 14) (.c (.int .i64 0))) 12 true,oa 7 16 (.pick (.t 12) (.t 15) (.c (.bool false))),om 8 17 16,og 9 18 (.fieldA 3 (.t 1)) 17 true,og 10 19 (.loadB 0 none (.t 18)) 17 true,og 11 20 (.bin .eql (.t 19) (.c (.int .i64 0))) 17 true,oa 12 21 (.pick (.t 17) (.t 20) (.c (.bool false))),om 13 2 21]) .ret) (.seq [22,4,1] (.region [oa 0 23 (.bin .eql (.t 4) (.c (.int .i64 2))),om 1 22 23]) (.cond (.t 22) (.seq [2] (.region [oa 0 24 (.fieldA 3 (.t 1)),oa 1 25 (.loadB 0 none (.t 24)),oa 2 26 (.bin .eql (.t 25) (.c (.int .i64 0))),om 3 27 26,og 4 28 (.fieldA 1 (.t 1)) 27 true,og 5 29 (.loadB 0 none (.t 28)) 27 true,og 6 30 (.bin .eql (.t 29) (.c (.int .i64 0))) 27 true,og 7 31 (.mv (.t 30)) 27 true,og 8 32 (.fieldA 1 (.t 1)) 31 false,og 9 33 (.loadB 0 none (.t 32)) 31 false,⟨10,some 34,.call false DG.S DG.P DG.D [(.t 33)],(some (31,false)),[]⟩,og 11 35 (.pick (.t 31) (.c (.bool true)) (.t 34)) 27 true,oa 12 36 (.pick (.t 27) (.t 35) (.c (.bool false))),om 13 37 36,og 14 38 (.fieldA 2 (.t 1)) 37 true,og 15 39 (.loadB 0 none (.t 38)) 37 true,og 16 40 (.bin .eql (.t 39) (.c (.int .i64 0))) 37 true,og 17 41 (.mv (.t 40)) 37 true,og 18 42 (.fieldA 2 (.t 1)) 41 false,og 19 43 (.loadB 0 none (.t 42)) 41 false,⟨20,some 44,.call false CF.S CF.P CF.D [(.t 43)],(some (41,false)),[]⟩,og 21 45 (.pick (.t 41) (.c (.bool true)) (.t 44)) 37 true,oa 22 46 (.pick (.t 37) (.t 45) (.c (.bool false))),om 23 47 46,og 24 48 (.fieldA 1 (.t 1)) 47 true,og 25 49 (.loadB 0 none (.t 48)) 47 true,og 26 50 (.bin .neq (.t 49) (.c (.int .i64 0))) 47 true,og 27 51 (.mv (.t 50)) 47 true,og 28 52 (.fieldA 2 (.t 1)) 51 false,og 29 53 (.loadB 0 none (.t 52)) 51 false,og 30 54 (.bin .neq (.t 53) (.c (.int .i64 0))) 51 false,og 31 55 (.pick (.t 51) (.c (.bool true)) (.t 54)) 47 true,oa 32 56 (.pick (.t 47) (.t 55) (.c (.bool false))),om 33 2 56]) .ret) (.seq [57,4,1] (.seq [57,4,1] (.region [oa 0 58 (.bin .eql (.t 4) (.c (.int .i64 3))),om 1 57 58]) (.cond (.t 57) .skip (.region [oa 0 59 (.bin .eql (.t 4) (.c (.int .i64 4))),om 1 57 59]))) (.cond (.t 57) (.seq [2] (.region [oa 0 60 (.fieldA 1 (.t 1)),oa 1 61 (.loadB 0 none (.t 60)),oa 2 62 (.bin .eql (.t 61) (.c (.int .i64 0))),om 3 63 62,og 4 64 (.fieldA 2 (.t 1)) 63 true,og 5 65 (.loadB 0 none (.t 64)) 63 true,og 6 66 (.bin .eql (.t 65) (.c (.int .i64 0))) 63 true,oa 7 67 (.pick (.t 63) (.t 66) (.c (.bool false))),om 8 68 67,og 9 69 (.fieldA 3 (.t 1)) 68 true,og 10 70 (.loadB 0 none (.t 69)) 68 true,⟨11,some 71,.call false DE.S DE.P DE.D [(.t 70)],(some (68,true)),[]⟩,oa 12 72 (.pick (.t 68) (.t 71) (.c (.bool false))),om 13 2 72]) .ret) (.seq [73,4,1] (.region [oa 0 74 (.bin .eql (.t 4) (.c (.int .i64 5))),om 1 73 74]) (.cond (.t 73) (.seq [2] (.region [oa 0 75 (.fieldA 1 (.t 1)),oa 1 76 (.loadB 0 none (.t 75)),oa 2 77 (.bin .eql (.t 76) (.c (.int .i64 0))),om 3 78 77,og 4 79 (.fieldA 2 (.t 1)) 78 true,og 5 80 (.loadB 0 none (.t 79)) 78 true,og 6 81 (.bin .eql (.t 80) (.c (.int .i64 0))) 78 true,oa 7 82 (.pick (.t 78) (.t 81) (.c (.bool false))),om 8 83 82,og 9 84 (.fieldA 3 (.t 1)) 83 true,og 10 85 (.loadB 0 none (.t 84)) 83 true,og 11 86 (.bin .geq (.t 85) (.c (.int .i64 0))) 83 true,oa 12 87 (.pick (.t 83) (.t 86) (.c (.bool false))),om 13 88 87,og 14 89 (.fieldA 3 (.t 1)) 88 true,og 15 90 (.loadB 0 none (.t 89)) 88 true,og 16 91 (.bin .leq (.t 90) (.c (.int .i64 3))) 88 true,oa 17 92 (.pick (.t 88) (.t 91) (.c (.bool false))),om 18 2 92]) .ret) (.seq [93,4,1] (.region [oa 0 94 (.bin .eql (.t 4) (.c (.int .i64 9))),om 1 93 94]) (.cond (.t 93) (.seq [2] (.region [oa 0 95 (.fieldA 1 (.t 1)),oa 1 96 (.loadB 0 none (.t 95)),oa 2 97 (.bin .eql (.t 96) (.c (.int .i64 0))),om 3 98 97,og 4 99 (.fieldA 2 (.t 1)) 98 true,og 5 100 (.loadB 0 none (.t 99)) 98 true,og 6 101 (.bin .eql (.t 100) (.c (.int .i64 0))) 98 true,oa 7 102 (.pick (.t 98) (.t 101) (.c (.bool false))),om 8 103 102,og 9 104 (.fieldA 3 (.t 1)) 103 true,og 10 105 (.loadB 0 none (.t 104)) 103 true,og 11 106 (.bin .geq (.t 105) (.c (.int .i64 0))) 103 true,oa 12 107 (.pick (.t 103) (.t 106) (.c (.bool false))),om 13 108 107,og 14 109 (.fieldA 3 (.t 1)) 108 true,og 15 110 (.loadB 0 none (.t 109)) 108 true,og 16 111 (.bin .leq (.t 110) (.c (.int .i64 3))) 108 true,oa 17 112 (.pick (.t 108) (.t 111) (.c (.bool false))),om 18 2 112]) .ret) (.seq [113,4,1] (.region [oa 0 114 (.bin .eql (.t 4) (.c (.int .i64 6))),om 1 113 114]) (.cond (.t 113) (.seq [2] (.region [oa 0 115 (.fieldA 1 (.t 1)),oa 1 116 (.loadB 0 none (.t 115)),oF 2 117 DG [(.t 116)],om 3 118 117,og 4 119 (.fieldA 2 (.t 1)) 118 true,og 5 120 (.loadB 0 none (.t 119)) 118 true,⟨6,some 121,.call false CF.S CF.P CF.D [(.t 120)],(some (118,true)),[]⟩,oa 7 122 (.pick (.t 118) (.t 121) (.c (.bool false))),om 8 123 122,og 9 124 (.fieldA 3 (.t 1)) 123 true,og 10 125 (.loadB 0 none (.t 124)) 123 true,og 11 126 (.bin .eql (.t 125) (.c (.int .i64 0))) 123 true,oa 12 127 (.pick (.t 123) (.t 126) (.c (.bool false))),om 13 2 127]) .ret) (.seq [128,4,1] (.region [oa 0 129 (.bin .eql (.t 4) (.c (.int .i64 7))),om 1 128 129]) (.cond (.t 128) (.seq [2] (.region [oa 0 130 (.fieldA 1 (.t 1)),oa 1 131 (.loadB 0 none (.t 130)),oF 2 132 DG [(.t 131)],om 3 133 132,og 4 134 (.fieldA 2 (.t 1)) 133 true,og 5 135 (.loadB 0 none (.t 134)) 133 true,og 6 136 (.bin .eql (.t 135) (.c (.int .i64 0))) 133 true,oa 7 137 (.pick (.t 133) (.t 136) (.c (.bool false))),om 8 138 137,og 9 139 (.fieldA 3 (.t 1)) 138 true,og 10 140 (.loadB 0 none (.t 139)) 138 true,⟨11,some 141,.call false DE.S DE.P DE.D [(.t 140)],(some (138,true)),[]⟩,oa 12 142 (.pick (.t 138) (.t 141) (.c (.bool false))),om 13 2 142]) .ret) (.seq [143,1] (.region [oa 0 144 (.bin .eql (.t 4) (.c (.int .i64 8))),om 1 143 144]) (.cond (.t 143) (.seq [2] (.region [oa 0 145 (.fieldA 1 (.t 1)),oa 1 146 (.loadB 0 none (.t 145)),oa 2 147 (.bin .eql (.t 146) (.c (.int .i64 0))),om 3 148 147,og 4 149 (.fieldA 2 (.t 1)) 148 true,og 5 150 (.loadB 0 none (.t 149)) 148 true,⟨6,some 151,.call false CF.S CF.P CF.D [(.t 150)],(some (148,true)),[]⟩,oa 7 152 (.pick (.t 148) (.t 151) (.c (.bool false))),om 8 153 152,og 9 154 (.fieldA 3 (.t 1)) 153 true,og 10 155 (.loadB 0 none (.t 154)) 153 true,og 11 156 (.bin .eql (.t 155) (.c (.int .i64 0))) 153 true,oa 12 157 (.pick (.t 153) (.t 156) (.c (.bool false))),om 13 2 157]) .ret) .skip)))))))))))))))))) (.seq [2] (.region [oa 0 2 (.mv (.c (.bool false)))]) .ret)))
def GD:Fn:=⟨⟨1,158,1,true,[.tmp 2],XY⟩,[.agg [(.frz,.int .i64),(.frz,.int .i64),(.frz,.int .i64),(.frz,.int .i64)]],.one (.one .own (.bool))⟩
theorem X8:GD.A:=EJ ⟨PT,PQ,Th,PT,PQ,PT,Th,PQ,trivial⟩
def EO:Int×Int×Int×Int→Bool:=GD.V
def MT:Int×Int×Int×Int→Prop:=GD.O
theorem XO:GD.B:=Fe ⟨PO,PR,Tb,PO,PR,PO,Tb,PR,trivial⟩ (by kernel_rfl) (fun x=>by kernel_rfl)
end
section
set_option maxRecDepth 100000
@[irreducible] def Cp(x:Int×Int×Int):Bool:=(bAnd (iGe x.1 x.2.1) (iLe x.1 x.2.2))
@[irreducible] def Fj(x:Int×Int×Int):Prop:=True
@[irreducible] def Io(x:Int×Int×Int×Int):Bool:=(bSel (bOr (iEq x.1 0) (bOr (iEq x.1 1) (iEq x.1 10))) (bAnd (iEq x.2.1 0) (bAnd (iEq x.2.2.1 0) (iEq x.2.2.2 0))) (bSel (iEq x.1 2) (bAnd (iEq x.2.2.2 0) (bSel (Cp (x.2.1,1,56)) (bOr (Cp (x.2.2.1,1,15)) (iEq x.2.2.1 0)) (bAnd (iEq x.2.1 0) (bAnd (Cp (x.2.2.1,1,15)) (bOr (Cp (x.2.2.1,1,15)) (iEq x.2.2.1 0)))))) (bSel (bOr (iEq x.1 3) (iEq x.1 4)) (bAnd (Cp (x.2.2.2,1,3)) (bAnd (iEq x.2.1 0) (iEq x.2.2.1 0))) (bSel (bOr (iEq x.1 5) (iEq x.1 9)) (bAnd (Cp (x.2.2.2,0,3)) (bAnd (iEq x.2.1 0) (iEq x.2.2.1 0))) (bSel (iEq x.1 6) (bAnd (Cp (x.2.1,1,56)) (bAnd (Cp (x.2.2.1,1,15)) (iEq x.2.2.2 0))) (bSel (iEq x.1 7) (bAnd (Cp (x.2.1,1,56)) (bAnd (Cp (x.2.2.2,1,3)) (iEq x.2.2.1 0))) (bAnd (iEq x.1 8) (bAnd (Cp (x.2.2.1,1,15)) (bAnd (iEq x.2.1 0) (iEq x.2.2.2 0))))))))))
@[irreducible] def PH(x:Int×Int×Int×Int):Prop:=((Fj (x.2.1,1,56))∧((Fj (x.2.2.1,1,15))∧((Fj (x.2.2.2,1,3))∧(((bOr (iEq x.1 0) (bOr (iEq x.1 1) (iEq x.1 10)))=true→True)∧((bOr (iEq x.1 0) (bOr (iEq x.1 1) (iEq x.1 10)))=false→(((iEq x.1 2)=true→True)∧((iEq x.1 2)=false→(((bOr (iEq x.1 3) (iEq x.1 4))=true→True)∧((bOr (iEq x.1 3) (iEq x.1 4))=false→(((bOr (iEq x.1 5) (iEq x.1 9))=true→(Fj (x.2.2.2,0,3)))∧((bOr (iEq x.1 5) (iEq x.1 9))=false→True)))))))))))
theorem Tm (x):Fi x=(bAnd (iGe x 1) (iLe x 56)):=(DG.v x).trans (by kernel_rfl)
theorem Yz (x):Jw x=True:=(DG.o x).trans (by kernel_rfl)
theorem Ts (x):JE x=(bAnd (iGe x 1) (iLe x 15)):=(CF.v x).trans (by kernel_rfl)
theorem Yu (x):Ir x=True:=(CF.o x).trans (by kernel_rfl)
theorem Tg (x):M6 x=(bAnd (iGe x 1) (iLe x 3)):=(DE.v x).trans (by kernel_rfl)
theorem Yi (x):KQ x=True:=(DE.o x).trans (by kernel_rfl)
theorem S9 (x):EO x=(bSel (bOr (iEq x.1 0) (bOr (iEq x.1 1) (iEq x.1 10))) (bAnd (iEq x.2.1 0) (bAnd (iEq x.2.2.1 0) (iEq x.2.2.2 0))) (bSel (iEq x.1 2) (bAnd (iEq x.2.2.2 0) (bSel (iEq x.2.1 0) (bSel (iEq x.2.2.1 0) (bOr (iNe x.2.1 0) (iNe x.2.2.1 0)) (bAnd (JE x.2.2.1) (bOr (iNe x.2.1 0) (iNe x.2.2.1 0)))) (bAnd (Fi x.2.1) (bSel (iEq x.2.2.1 0) (bOr (iNe x.2.1 0) (iNe x.2.2.1 0)) (bAnd (JE x.2.2.1) (bOr (iNe x.2.1 0) (iNe x.2.2.1 0))))))) (bSel (bOr (iEq x.1 3) (iEq x.1 4)) (bAnd (iEq x.2.1 0) (bAnd (iEq x.2.2.1 0) (M6 x.2.2.2))) (bSel (iEq x.1 5) (bAnd (iEq x.2.1 0) (bAnd (iEq x.2.2.1 0) (bAnd (iGe x.2.2.2 0) (iLe x.2.2.2 3)))) (bSel (iEq x.1 9) (bAnd (iEq x.2.1 0) (bAnd (iEq x.2.2.1 0) (bAnd (iGe x.2.2.2 0) (iLe x.2.2.2 3)))) (bSel (iEq x.1 6) (bAnd (Fi x.2.1) (bAnd (JE x.2.2.1) (iEq x.2.2.2 0))) (bSel (iEq x.1 7) (bAnd (Fi x.2.1) (bAnd (iEq x.2.2.1 0) (M6 x.2.2.2))) (bAnd (iEq x.1 8) (bAnd (iEq x.2.1 0) (bAnd (JE x.2.2.1) (iEq x.2.2.2 0))))))))))):=(GD.v x).trans (by kernel_rfl)
theorem XQ (x):MT x=(((bOr (iEq x.1 0) (bOr (iEq x.1 1) (iEq x.1 10)))=true→True)∧((bOr (iEq x.1 0) (bOr (iEq x.1 1) (iEq x.1 10)))=false→(((iEq x.1 2)=true→(((iEq x.2.2.2 0)=true→(((iEq x.2.1 0)=true→(((iEq x.2.2.1 0)=true→True)∧((iEq x.2.2.1 0)=false→(Ir x.2.2.1))))∧((iEq x.2.1 0)=false→((Jw x.2.1)∧(((Fi x.2.1)=true→(((iEq x.2.2.1 0)=true→True)∧((iEq x.2.2.1 0)=false→(Ir x.2.2.1))))∧((Fi x.2.1)=false→True))))))∧((iEq x.2.2.2 0)=false→True)))∧((iEq x.1 2)=false→(((bOr (iEq x.1 3) (iEq x.1 4))=true→(((iEq x.2.1 0)=true→(((iEq x.2.2.1 0)=true→(KQ x.2.2.2))∧((iEq x.2.2.1 0)=false→True)))∧((iEq x.2.1 0)=false→True)))∧((bOr (iEq x.1 3) (iEq x.1 4))=false→(((iEq x.1 5)=true→True)∧((iEq x.1 5)=false→(((iEq x.1 9)=true→True)∧((iEq x.1 9)=false→(((iEq x.1 6)=true→((Jw x.2.1)∧(((Fi x.2.1)=true→(Ir x.2.2.1))∧((Fi x.2.1)=false→True))))∧((iEq x.1 6)=false→(((iEq x.1 7)=true→((Jw x.2.1)∧(((Fi x.2.1)=true→(((iEq x.2.2.1 0)=true→(KQ x.2.2.2))∧((iEq x.2.2.1 0)=false→True)))∧((Fi x.2.1)=false→True))))∧((iEq x.1 7)=false→(((iEq x.1 8)=true→(((iEq x.2.1 0)=true→(Ir x.2.2.1))∧((iEq x.2.1 0)=false→True)))∧((iEq x.1 8)=false→True)))))))))))))))):=(GD.o x).trans (by kernel_rfl)
attribute [irreducible] Fi Jw JE Ir M6 KQ EO MT
end
section
set_option maxRecDepth 8000
def Z8:DCode:=(.seq [1,0] (.region [oi 0 4 0]) (.seq [4] (.region [om 0 5 0,om 1 6 1,oa 2 7 (.bin .shr (.t 5) (.t 6)),oa 3 8 (.bin .and (.t 7) (.c (.int .i64 1))),om 4 4 8]) .ret))
def GL:Fn:=⟨⟨2,9,0,true,[.tmp 4],Z8⟩,[.one .frz (.int .i64),.one .frz (.int .i64)],.one (.one .own (.int .i64))⟩
theorem ZS:GL.A:=EJ trivial
def HC:Int×Int→Int:=GL.V
def P9:Int×Int→Prop:=GL.O
theorem Z5:GL.B:=Fe trivial (by kernel_rfl) (fun x=>by kernel_rfl)
end
section
set_option maxRecDepth 100000
theorem Ua (x):HC x=(iAnd .i64 (iShr .i64 x.1 x.2) 1):=(GL.v x).trans (by kernel_rfl)
theorem Z7 (x):P9 x=((0:Int)≤x.2):=(GL.o x).trans (by kernel_rfl)
attribute [irreducible] HC P9
end
section
set_option maxRecDepth 8000
def XW:DCode:=(.seq [1] (.region [oa 0 1 (.boxB 0 2 (.t 0)),oa 1 2 (.mv (.c (.bool false)))]) (.seq [1] (.seq [26,1] (.region [oa 0 7 (.fieldA 0 (.t 1)),oa 1 8 (.loadB 0 none (.t 7)),oa 2 9 (.bin .lss (.t 8) (.c (.int .i64 1))),om 3 10 9,og 4 11 (.fieldA 0 (.t 1)) 10 false,og 5 12 (.loadB 0 none (.t 11)) 10 false,og 6 13 (.bin .gtr (.t 12) (.c (.int .i64 32))) 10 false,oa 7 14 (.pick (.t 10) (.c (.bool true)) (.t 13)),om 8 15 14,og 9 16 (.fieldA 1 (.t 1)) 15 false,og 10 17 (.loadB 0 none (.t 16)) 15 false,og 11 18 (.len (.t 17)) 15 false,og 12 19 (.bin .lss (.t 18) (.c (.int .i64 1))) 15 false,oa 13 20 (.pick (.t 15) (.c (.bool true)) (.t 19)),om 14 21 20,og 15 22 (.fieldA 1 (.t 1)) 21 false,og 16 23 (.loadB 0 none (.t 22)) 21 false,og 17 24 (.len (.t 23)) 21 false,og 18 25 (.bin .gtr (.t 24) (.c (.int .i64 4))) 21 false,oa 19 26 (.pick (.t 21) (.c (.bool true)) (.t 25))]) (.cond (.t 26) (.seq [2] (.region [oa 0 2 (.mv (.c (.bool false)))]) .ret) .skip)) (.seq [] (.seq [30,29,28,1] (.region [oa 0 27 (.fieldA 1 (.t 1)),oa 1 28 (.loadB 0 none (.t 27)),oa 2 29 (.len (.t 28)),oi 3 30 0]) (.block 0 (.loop [1,28,29,30] 1 (.seq [31,30,29,28,1] (.region [oa 0 31 (.bin .lss (.t 30) (.t 29))]) (.seq [30,29,28,1] (.cond (.t 31) .skip (.exit 0)) (.seq [30,29,28,1] (.block 1 (.seq [30,29,28,4,3,1] (.region [om 0 32 30,oa 1 33 (.indexA 1 (.t 28) (.t 30)),oa 2 34 (.loadH none (.t 33)),om 3 3 32,on 4 4 34]) (.seq [30,29,28,4,3,1] (.seq [39,30,29,28,4,3,1] (.region [on 0 35 4,oa 1 36 (.len (.t 35)),oa 2 37 (.fieldA 0 (.t 1)),oa 3 38 (.loadB 0 none (.t 37)),oa 4 39 (.bin .neq (.t 36) (.t 38))]) (.cond (.t 39) (.seq [2] (.region [oa 0 2 (.mv (.c (.bool false)))]) .ret) .skip)) (.seq [42,41,40,30,29,28,3,1] (.region [on 0 40 4,oa 1 41 (.len (.t 40)),oi 2 42 0]) (.block 2 (.loop [1,3,28,29,30,40,41,42] 1 (.seq [43,42,41,40,30,29,28,3,1] (.region [oa 0 43 (.bin .lss (.t 42) (.t 41))]) (.seq [42,41,40,30,29,28,3,1] (.cond (.t 43) .skip (.exit 2)) (.seq [42,41,40,30,29,28,3,1] (.block 3 (.seq [42,41,40,30,29,28,6,3,1] (.region [oa 0 44 (.indexA 4 (.t 40) (.t 42)),ob 1 45 (.loadH (some 4) (.t 44)),oa 2 6 (.allocB 1 [(.int .i64 0),(.int .i64 0),(.int .i64 0),(.int .i64 0)]),os 3 (.storeB 1 4 (.t 6) (.t 45))]) (.seq [70,42,41,40,30,29,28,3,1] (.region [oa 0 46 (.loadB 1 (some 4) (.t 6)),oF 1 47 GD [(.t 46)],oa 2 48 (.un .not (.t 47)),om 3 49 48,og 4 50 (.mv (.t 3)) 49 false,og 5 51 (.bin .eql (.t 50) (.c (.int .i64 0))) 49 false,og 6 52 (.mv (.t 51)) 49 false,og 7 53 (.fieldA 0 (.t 6)) 52 true,og 8 54 (.loadB 1 none (.t 53)) 52 true,og 9 55 (.bin .eql (.t 54) (.c (.int .i64 1))) 52 true,og 10 56 (.pick (.t 52) (.t 55) (.c (.bool false))) 49 false,oa 11 57 (.pick (.t 49) (.c (.bool true)) (.t 56)),om 12 58 57,og 13 59 (.fieldA 0 (.t 6)) 58 false,og 14 60 (.loadB 1 none (.t 59)) 58 false,og 15 61 (.bin .neq (.t 60) (.c (.int .i64 9))) 58 false,og 16 62 (.mv (.t 61)) 58 false,og 17 63 (.fieldA 3 (.t 6)) 62 true,og 18 64 (.loadB 1 none (.t 63)) 62 true,og 19 65 (.fieldA 1 (.t 1)) 62 true,og 20 66 (.loadB 0 none (.t 65)) 62 true,og 21 67 (.len (.t 66)) 62 true,og 22 68 (.bin .geq (.t 64) (.t 67)) 62 true,og 23 69 (.pick (.t 62) (.t 68) (.c (.bool false))) 58 false,oa 24 70 (.pick (.t 58) (.c (.bool true)) (.t 69))]) (.cond (.t 70) (.seq [2] (.region [oa 0 2 (.mv (.c (.bool false)))]) .ret) .skip)))) (.region [oa 0 71 (.bin .add (.t 42) (.c (.int .i64 1))),om 1 42 71])))))))))) (.region [oa 0 72 (.bin .add (.t 30) (.c (.int .i64 1))),om 1 30 72]))))))) (.seq [2] (.region [oa 0 2 (.mv (.c (.bool true)))]) .ret))))
def GB:Fn:=⟨⟨1,73,2,true,[.tmp 2],XW⟩,[.agg [(.frz,.int .i64),(.frz,.sl (.one (.sl FO)))]],.one (.one .own (.bool))⟩
theorem XZ:GB.A:=EJ ⟨X8,trivial⟩
def Ea:Int×(List (List (Int×Int×Int×Int)))→Bool:=GB.V
def MW:Int×(List (List (Int×Int×Int×Int)))→Prop:=GB.O
theorem X3:GB.B:=Fe ⟨XO,trivial⟩ (by kernel_rfl) (fun x=>by kernel_rfl)
def Yf:DCode:=(.seq [3,2,1] (.region [oa 0 3 (.boxB 0 2 (.t 0)),oi 1 6 0]) (.seq [] (.seq [7,3,2,1] (.region [oa 0 8 (.fieldA 1 (.t 3)),oa 1 9 (.loadB 0 none (.t 8)),oa 2 10 (.len (.t 9)),oa 3 11 (.bin .sub (.t 10) (.c (.int .i64 1))),om 4 7 11]) (.block 0 (.loop [1,2,3,7] 1 (.seq [7,3,2,1] (.seq [13,7,3,2,1] (.region [om 0 12 7,oa 1 13 (.bin .gtr (.t 12) (.c (.int .i64 0)))]) (.cond (.t 13) .skip (.exit 0))) (.seq [7,3,2,1] (.block 1 (.seq [31,7,3,2,1] (.region [om 0 16 1,om 1 17 7,oF 2 18 GL [(.t 16),(.t 17)],oa 3 19 (.bin .eql (.t 18) (.c (.int .i64 1))),om 4 20 19,og 5 21 (.fieldA 1 (.t 3)) 20 true,og 6 22 (.loadB 0 none (.t 21)) 20 true,og 7 23 (.mv (.t 7)) 20 true,og 8 24 (.indexA 1 (.t 22) (.t 23)) 20 true,og 9 25 (.loadH none (.t 24)) 20 true,og 10 26 (.mv (.t 2)) 20 true,og 11 27 (.indexA 4 (.t 25) (.t 26)) 20 true,og 12 28 (.fieldA 0 (.t 27)) 20 true,og 13 29 (.loadH none (.t 28)) 20 true,og 14 30 (.bin .neq (.t 29) (.c (.int .i64 1))) 20 true,oa 15 31 (.pick (.t 20) (.t 30) (.c (.bool false)))]) (.cond (.t 31) (.seq [6] (.region [om 0 32 7,om 1 6 32]) .ret) .skip))) (.region [om 0 14 7,oa 1 15 (.bin .sub (.t 14) (.c (.int .i64 1))),om 2 7 15])))))) (.seq [6] (.region [oi 0 6 0]) .ret)))
def GG:Fn:=⟨⟨3,33,1,true,[.tmp 6],Yf⟩,[.agg [(.frz,.int .i64),(.frz,.sl (.one (.sl FO)))],.one .frz (.int .i64),.one .frz (.int .i64)],.one (.one .own (.int .i64))⟩
theorem Ys:GG.A:=EJ ⟨ZS,trivial⟩
def PN:(Int×(List (List (Int×Int×Int×Int))))×Int×Int→Int:=GG.V
def PJ:(Int×(List (List (Int×Int×Int×Int))))×Int×Int→Prop:=GG.O
theorem Yt:GG.B:=Fe ⟨Z5,trivial⟩ (by kernel_rfl) (fun x=>by kernel_rfl)
def Yh:DCode:=(.seq [3,2,1] (.region [oa 0 3 (.boxB 0 2 (.t 0)),oi 1 6 0]) (.seq [3,2,1] (.seq [19,3,2,1] (.region [oa 0 7 (.loadB 0 (some 2) (.t 3)),oF 1 8 GB [(.t 7)],oa 2 9 (.un .not (.t 8)),om 3 10 9,og 4 11 (.mv (.t 2)) 10 false,og 5 12 (.bin .lss (.t 11) (.c (.int .i64 0))) 10 false,oa 6 13 (.pick (.t 10) (.c (.bool true)) (.t 12)),om 7 14 13,og 8 15 (.mv (.t 2)) 14 false,og 9 16 (.fieldA 0 (.t 3)) 14 false,og 10 17 (.loadB 0 none (.t 16)) 14 false,og 11 18 (.bin .geq (.t 15) (.t 17)) 14 false,oa 12 19 (.pick (.t 14) (.c (.bool true)) (.t 18))]) (.cond (.t 19) (.seq [6] (.region [oi 0 6 (-1)]) .ret) .skip)) (.seq [6] (.region [oa 0 20 (.loadB 0 (some 2) (.t 3)),om 1 21 1,om 2 22 2,oF 3 23 GG [(.t 20),(.t 21),(.t 22)],om 4 6 23]) .ret)))
def Fh:Fn:=⟨⟨3,24,1,true,[.tmp 6],Yh⟩,[.agg [(.frz,.int .i64),(.frz,.sl (.one (.sl FO)))],.one .frz (.int .i64),.one .frz (.int .i64)],.one (.one .own (.int .i64))⟩
theorem Tc:Fh.A:=EJ ⟨XZ,Ys,trivial⟩
def Ar:(Int×(List (List (Int×Int×Int×Int))))×Int×Int→Int:=Fh.V
def KR:(Int×(List (List (Int×Int×Int×Int))))×Int×Int→Prop:=Fh.O
theorem Te:Fh.B:=Fe ⟨X3,Yt,trivial⟩ (by kernel_rfl) (fun x=>by kernel_rfl)
def X9:DCode:=(.seq [6,3,2,1] (.region [oa 0 3 (.boxB 0 2 (.t 0)),oa 1 6 (.allocB 1 [(.int .i64 0),(.int .i64 0),(.int .i64 0),(.int .i64 0)])]) (.seq [7,6,3,2] (.region [oa 0 8 (.loadB 0 (some 2) (.t 3)),om 1 9 1,om 2 10 2,oF 3 11 Fh [(.t 8),(.t 9),(.t 10)],om 4 7 11]) (.seq [7,6,3,2] (.seq [13,7,6,3,2] (.region [om 0 12 7,oa 1 13 (.bin .lss (.t 12) (.c (.int .i64 0)))]) (.cond (.t 13) (.seq [6] (.region [oa 0 14 (.build [(.int .i64 0),(.int .i64 0),(.int .i64 0),(.int .i64 0)] []),os 1 (.storeB 1 4 (.t 6) (.t 14))]) .ret) .skip)) (.seq [6] (.region [oa 0 15 (.fieldA 1 (.t 3)),oa 1 16 (.loadB 0 none (.t 15)),om 2 17 7,oa 3 18 (.indexA 1 (.t 16) (.t 17)),oa 4 19 (.loadH none (.t 18)),om 5 20 2,oa 6 21 (.indexA 4 (.t 19) (.t 20)),ob 7 22 (.loadH (some 4) (.t 21)),os 8 (.storeB 1 4 (.t 6) (.t 22))]) .ret))))
def GC:Fn:=⟨⟨3,23,2,true,[.cell 6 (some 4)],X9⟩,[.agg [(.frz,.int .i64),(.frz,.sl (.one (.sl FO)))],.one .frz (.int .i64),.one .frz (.int .i64)],.one (.agg [(.own,.int .i64),(.own,.int .i64),(.own,.int .i64),(.own,.int .i64)])⟩
theorem X6:GC.A:=EJ ⟨Tc,trivial⟩
def BJ:(Int×(List (List (Int×Int×Int×Int))))×Int×Int→Int×Int×Int×Int:=GC.V
def MU:(Int×(List (List (Int×Int×Int×Int))))×Int×Int→Prop:=GC.O
theorem XT:GC.B:=Fe ⟨Te,trivial⟩ (by kernel_rfl) (fun x=>by kernel_rfl)
end
section
set_option maxRecDepth 100000
@[irreducible] def Ip(x:Int×(List (List (Int×Int×Int×Int)))):Bool:=(bAnd (bNot (iLt (AF (fun(x0:Int)=>(bAnd (iLt x0 (lLen x.2)) (bAnd (bNot (iNe (lLen (lGet x.2 (iNat x0) [])) x.1)) (bNot (iLt (AF (fun(x1:Int)=>(bAnd (iLt x1 (lLen (lGet x.2 (iNat x0) []))) (bNot (bOr (bNot (Io ((lGet (lGet x.2 (iNat x0) []) (iNat x1) (0,0,0,0)).1,(lGet (lGet x.2 (iNat x0) []) (iNat x1) (0,0,0,0)).2.1,(lGet (lGet x.2 (iNat x0) []) (iNat x1) (0,0,0,0)).2.2.1,(lGet (lGet x.2 (iNat x0) []) (iNat x1) (0,0,0,0)).2.2.2))) (bSel (iEq (lGet (lGet x.2 (iNat x0) []) (iNat x1) (0,0,0,0)).1 1) (bOr (iEq x0 0) (bAnd (iNe (lGet (lGet x.2 (iNat x0) []) (iNat x1) (0,0,0,0)).1 9) (iGe (lGet (lGet x.2 (iNat x0) []) (iNat x1) (0,0,0,0)).2.2.2 (lLen x.2)))) (bAnd (iNe (lGet (lGet x.2 (iNat x0) []) (iNat x1) (0,0,0,0)).1 9) (iGe (lGet (lGet x.2 (iNat x0) []) (iNat x1) (0,0,0,0)).2.2.2 (lLen x.2)))))))) (fun(x1:Int)=>(iAdd .i64 x1 1)) 0) (lLen (lGet x.2 (iNat x0) []))))))) (fun(x0:Int)=>(iAdd .i64 x0 1)) 0) (lLen x.2))) (bAnd (Cp (x.1,1,32)) (Cp ((lLen x.2),1,4))))
@[irreducible] def PG(x:Int×(List (List (Int×Int×Int×Int)))):Prop:=((LoopOk (fun(x0:Int)=>(bAnd (iLt x0 (lLen x.2)) (bAnd (bNot (iNe (lLen (lGet x.2 (iNat x0) [])) x.1)) (bNot (iLt (AF (fun(x1:Int)=>(bAnd (iLt x1 (lLen (lGet x.2 (iNat x0) []))) (bNot (bOr (bNot (Io ((lGet (lGet x.2 (iNat x0) []) (iNat x1) (0,0,0,0)).1,(lGet (lGet x.2 (iNat x0) []) (iNat x1) (0,0,0,0)).2.1,(lGet (lGet x.2 (iNat x0) []) (iNat x1) (0,0,0,0)).2.2.1,(lGet (lGet x.2 (iNat x0) []) (iNat x1) (0,0,0,0)).2.2.2))) (bSel (iEq (lGet (lGet x.2 (iNat x0) []) (iNat x1) (0,0,0,0)).1 1) (bOr (iEq x0 0) (bAnd (iNe (lGet (lGet x.2 (iNat x0) []) (iNat x1) (0,0,0,0)).1 9) (iGe (lGet (lGet x.2 (iNat x0) []) (iNat x1) (0,0,0,0)).2.2.2 (lLen x.2)))) (bAnd (iNe (lGet (lGet x.2 (iNat x0) []) (iNat x1) (0,0,0,0)).1 9) (iGe (lGet (lGet x.2 (iNat x0) []) (iNat x1) (0,0,0,0)).2.2.2 (lLen x.2)))))))) (fun(x1:Int)=>(iAdd .i64 x1 1)) 0) (lLen (lGet x.2 (iNat x0) []))))))) (fun(x0:Int)=>(iAdd .i64 x0 1)) (fun(x0:Int)=>(((iLt x0 (lLen x.2))=true→((((0:Int)≤x0)∧(x0<(((List.length x.2):Int))))∧(((iNat x0)<(List.length x.2))∧(((iNe (lLen (lGet x.2 (iNat x0) [])) x.1)=true→True)∧((iNe (lLen (lGet x.2 (iNat x0) [])) x.1)=false→(LoopOk (fun(x1:Int)=>(bAnd (iLt x1 (lLen (lGet x.2 (iNat x0) []))) (bNot (bOr (bNot (Io ((lGet (lGet x.2 (iNat x0) []) (iNat x1) (0,0,0,0)).1,(lGet (lGet x.2 (iNat x0) []) (iNat x1) (0,0,0,0)).2.1,(lGet (lGet x.2 (iNat x0) []) (iNat x1) (0,0,0,0)).2.2.1,(lGet (lGet x.2 (iNat x0) []) (iNat x1) (0,0,0,0)).2.2.2))) (bSel (iEq (lGet (lGet x.2 (iNat x0) []) (iNat x1) (0,0,0,0)).1 1) (bOr (iEq x0 0) (bAnd (iNe (lGet (lGet x.2 (iNat x0) []) (iNat x1) (0,0,0,0)).1 9) (iGe (lGet (lGet x.2 (iNat x0) []) (iNat x1) (0,0,0,0)).2.2.2 (lLen x.2)))) (bAnd (iNe (lGet (lGet x.2 (iNat x0) []) (iNat x1) (0,0,0,0)).1 9) (iGe (lGet (lGet x.2 (iNat x0) []) (iNat x1) (0,0,0,0)).2.2.2 (lLen x.2)))))))) (fun(x1:Int)=>(iAdd .i64 x1 1)) (fun(x1:Int)=>((((0:Int)≤x0)∧(x0<(((List.length x.2):Int))))∧(((iNat x0)<(List.length x.2))∧(((iLt x1 (lLen (lGet x.2 (iNat x0) [])))=true→((((0:Int)≤x0)∧(x0<(((List.length x.2):Int))))∧(((iNat x0)<(List.length x.2))∧((((0:Int)≤x1)∧(x1<(((List.length (lGet x.2 (iNat x0) [])):Int))))∧(((iNat x1)<(List.length (lGet x.2 (iNat x0) [])))∧(PH ((lGet (lGet x.2 (iNat x0) []) (iNat x1) (0,0,0,0)).1,(lGet (lGet x.2 (iNat x0) []) (iNat x1) (0,0,0,0)).2.1,(lGet (lGet x.2 (iNat x0) []) (iNat x1) (0,0,0,0)).2.2.1,(lGet (lGet x.2 (iNat x0) []) (iNat x1) (0,0,0,0)).2.2.2)))))))∧((iLt x1 (lLen (lGet x.2 (iNat x0) [])))=false→True))))) 0))))))∧((iLt x0 (lLen x.2))=false→True))) 0)∧(((iLt (AF (fun(x0:Int)=>(bAnd (iLt x0 (lLen x.2)) (bAnd (bNot (iNe (lLen (lGet x.2 (iNat x0) [])) x.1)) (bNot (iLt (AF (fun(x1:Int)=>(bAnd (iLt x1 (lLen (lGet x.2 (iNat x0) []))) (bNot (bOr (bNot (Io ((lGet (lGet x.2 (iNat x0) []) (iNat x1) (0,0,0,0)).1,(lGet (lGet x.2 (iNat x0) []) (iNat x1) (0,0,0,0)).2.1,(lGet (lGet x.2 (iNat x0) []) (iNat x1) (0,0,0,0)).2.2.1,(lGet (lGet x.2 (iNat x0) []) (iNat x1) (0,0,0,0)).2.2.2))) (bSel (iEq (lGet (lGet x.2 (iNat x0) []) (iNat x1) (0,0,0,0)).1 1) (bOr (iEq x0 0) (bAnd (iNe (lGet (lGet x.2 (iNat x0) []) (iNat x1) (0,0,0,0)).1 9) (iGe (lGet (lGet x.2 (iNat x0) []) (iNat x1) (0,0,0,0)).2.2.2 (lLen x.2)))) (bAnd (iNe (lGet (lGet x.2 (iNat x0) []) (iNat x1) (0,0,0,0)).1 9) (iGe (lGet (lGet x.2 (iNat x0) []) (iNat x1) (0,0,0,0)).2.2.2 (lLen x.2)))))))) (fun(x1:Int)=>(iAdd .i64 x1 1)) 0) (lLen (lGet x.2 (iNat x0) []))))))) (fun(x0:Int)=>(iAdd .i64 x0 1)) 0) (lLen x.2))=true→True)∧((iLt (AF (fun(x0:Int)=>(bAnd (iLt x0 (lLen x.2)) (bAnd (bNot (iNe (lLen (lGet x.2 (iNat x0) [])) x.1)) (bNot (iLt (AF (fun(x1:Int)=>(bAnd (iLt x1 (lLen (lGet x.2 (iNat x0) []))) (bNot (bOr (bNot (Io ((lGet (lGet x.2 (iNat x0) []) (iNat x1) (0,0,0,0)).1,(lGet (lGet x.2 (iNat x0) []) (iNat x1) (0,0,0,0)).2.1,(lGet (lGet x.2 (iNat x0) []) (iNat x1) (0,0,0,0)).2.2.1,(lGet (lGet x.2 (iNat x0) []) (iNat x1) (0,0,0,0)).2.2.2))) (bSel (iEq (lGet (lGet x.2 (iNat x0) []) (iNat x1) (0,0,0,0)).1 1) (bOr (iEq x0 0) (bAnd (iNe (lGet (lGet x.2 (iNat x0) []) (iNat x1) (0,0,0,0)).1 9) (iGe (lGet (lGet x.2 (iNat x0) []) (iNat x1) (0,0,0,0)).2.2.2 (lLen x.2)))) (bAnd (iNe (lGet (lGet x.2 (iNat x0) []) (iNat x1) (0,0,0,0)).1 9) (iGe (lGet (lGet x.2 (iNat x0) []) (iNat x1) (0,0,0,0)).2.2.2 (lLen x.2)))))))) (fun(x1:Int)=>(iAdd .i64 x1 1)) 0) (lLen (lGet x.2 (iNat x0) []))))))) (fun(x0:Int)=>(iAdd .i64 x0 1)) 0) (lLen x.2))=false→((Fj (x.1,1,32))∧(((Cp (x.1,1,32))=true→(Fj ((lLen x.2),1,4)))∧((Cp (x.1,1,32))=false→True))))))
theorem PF (x):Ea x=(bAnd (bNot (bOr (iLt x.1 1) (bOr (iGt x.1 32) (bOr (iLt (lLen x.2) 1) (iGt (lLen x.2) 4))))) (bNot (iLt (AF (fun(x0:Int)=>(bAnd (iLt x0 (lLen x.2)) (bAnd (bNot (iNe (lLen (lGet x.2 (iNat x0) [])) x.1)) (bNot (iLt (AF (fun(x1:Int)=>(bAnd (iLt x1 (lLen (lGet x.2 (iNat x0) []))) (bNot (bOr (bNot (EO ((lGet (lGet x.2 (iNat x0) []) (iNat x1) (0,0,0,0)).1,(lGet (lGet x.2 (iNat x0) []) (iNat x1) (0,0,0,0)).2.1,(lGet (lGet x.2 (iNat x0) []) (iNat x1) (0,0,0,0)).2.2.1,(lGet (lGet x.2 (iNat x0) []) (iNat x1) (0,0,0,0)).2.2.2))) (bSel (iEq x0 0) (bOr (iEq (lGet (lGet x.2 (iNat x0) []) (iNat x1) (0,0,0,0)).1 1) (bAnd (iNe (lGet (lGet x.2 (iNat x0) []) (iNat x1) (0,0,0,0)).1 9) (iGe (lGet (lGet x.2 (iNat x0) []) (iNat x1) (0,0,0,0)).2.2.2 (lLen x.2)))) (bAnd (iNe (lGet (lGet x.2 (iNat x0) []) (iNat x1) (0,0,0,0)).1 9) (iGe (lGet (lGet x.2 (iNat x0) []) (iNat x1) (0,0,0,0)).2.2.2 (lLen x.2)))))))) (fun(x1:Int)=>(iAdd .i64 x1 1)) 0) (lLen (lGet x.2 (iNat x0) []))))))) (fun(x0:Int)=>(iAdd .i64 x0 1)) 0) (lLen x.2)))):=(GB.v x).trans (by kernel_rfl)
theorem XP (x):MW x=(((bOr (iLt x.1 1) (bOr (iGt x.1 32) (bOr (iLt (lLen x.2) 1) (iGt (lLen x.2) 4))))=true→True)∧((bOr (iLt x.1 1) (bOr (iGt x.1 32) (bOr (iLt (lLen x.2) 1) (iGt (lLen x.2) 4))))=false→(LoopOk (fun(x0:Int)=>(bAnd (iLt x0 (lLen x.2)) (bAnd (bNot (iNe (lLen (lGet x.2 (iNat x0) [])) x.1)) (bNot (iLt (AF (fun(x1:Int)=>(bAnd (iLt x1 (lLen (lGet x.2 (iNat x0) []))) (bNot (bOr (bNot (EO ((lGet (lGet x.2 (iNat x0) []) (iNat x1) (0,0,0,0)).1,(lGet (lGet x.2 (iNat x0) []) (iNat x1) (0,0,0,0)).2.1,(lGet (lGet x.2 (iNat x0) []) (iNat x1) (0,0,0,0)).2.2.1,(lGet (lGet x.2 (iNat x0) []) (iNat x1) (0,0,0,0)).2.2.2))) (bSel (iEq x0 0) (bOr (iEq (lGet (lGet x.2 (iNat x0) []) (iNat x1) (0,0,0,0)).1 1) (bAnd (iNe (lGet (lGet x.2 (iNat x0) []) (iNat x1) (0,0,0,0)).1 9) (iGe (lGet (lGet x.2 (iNat x0) []) (iNat x1) (0,0,0,0)).2.2.2 (lLen x.2)))) (bAnd (iNe (lGet (lGet x.2 (iNat x0) []) (iNat x1) (0,0,0,0)).1 9) (iGe (lGet (lGet x.2 (iNat x0) []) (iNat x1) (0,0,0,0)).2.2.2 (lLen x.2)))))))) (fun(x1:Int)=>(iAdd .i64 x1 1)) 0) (lLen (lGet x.2 (iNat x0) []))))))) (fun(x0:Int)=>(iAdd .i64 x0 1)) (fun(x0:Int)=>(((iLt x0 (lLen x.2))=true→((((0:Int)≤x0)∧(x0<(((List.length x.2):Int))))∧(((iNat x0)<(List.length x.2))∧(((iNe (lLen (lGet x.2 (iNat x0) [])) x.1)=true→True)∧((iNe (lLen (lGet x.2 (iNat x0) [])) x.1)=false→(LoopOk (fun(x1:Int)=>(bAnd (iLt x1 (lLen (lGet x.2 (iNat x0) []))) (bNot (bOr (bNot (EO ((lGet (lGet x.2 (iNat x0) []) (iNat x1) (0,0,0,0)).1,(lGet (lGet x.2 (iNat x0) []) (iNat x1) (0,0,0,0)).2.1,(lGet (lGet x.2 (iNat x0) []) (iNat x1) (0,0,0,0)).2.2.1,(lGet (lGet x.2 (iNat x0) []) (iNat x1) (0,0,0,0)).2.2.2))) (bSel (iEq x0 0) (bOr (iEq (lGet (lGet x.2 (iNat x0) []) (iNat x1) (0,0,0,0)).1 1) (bAnd (iNe (lGet (lGet x.2 (iNat x0) []) (iNat x1) (0,0,0,0)).1 9) (iGe (lGet (lGet x.2 (iNat x0) []) (iNat x1) (0,0,0,0)).2.2.2 (lLen x.2)))) (bAnd (iNe (lGet (lGet x.2 (iNat x0) []) (iNat x1) (0,0,0,0)).1 9) (iGe (lGet (lGet x.2 (iNat x0) []) (iNat x1) (0,0,0,0)).2.2.2 (lLen x.2)))))))) (fun(x1:Int)=>(iAdd .i64 x1 1)) (fun(x1:Int)=>(((iLt x1 (lLen (lGet x.2 (iNat x0) [])))=true→((((0:Int)≤x1)∧(x1<(((List.length (lGet x.2 (iNat x0) [])):Int))))∧(((iNat x1)<(List.length (lGet x.2 (iNat x0) [])))∧(MT ((lGet (lGet x.2 (iNat x0) []) (iNat x1) (0,0,0,0)).1,(lGet (lGet x.2 (iNat x0) []) (iNat x1) (0,0,0,0)).2.1,(lGet (lGet x.2 (iNat x0) []) (iNat x1) (0,0,0,0)).2.2.1,(lGet (lGet x.2 (iNat x0) []) (iNat x1) (0,0,0,0)).2.2.2)))))∧((iLt x1 (lLen (lGet x.2 (iNat x0) [])))=false→True))) 0))))))∧((iLt x0 (lLen x.2))=false→True))) 0))):=(GB.o x).trans (by kernel_rfl)
@[irreducible] def GF(x:(Int×(List (List (Int×Int×Int×Int))))×Int×Int):Int:=(bSel (bOr (bNot (Ip (x.1.1,x.1.2))) (bNot (Cp (x.2.2,0,(iSub .i64 x.1.1 1))))) (-1) (bSel (iGt (AF (fun(x0:Int)=>(bAnd (iGt x0 0) (bNot (bAnd (iEq (iAnd .i64 (iShr .i64 x.2.1 x0) 1) 1) (iNe (lGet (lGet x.1.2 (iNat x0) []) (iNat x.2.2) (0,0,0,0)).1 1))))) (fun(x0:Int)=>(iSub .i64 x0 1)) (iSub .i64 (lLen x.1.2) 1)) 0) (AF (fun(x0:Int)=>(bAnd (iGt x0 0) (bNot (bAnd (iEq (iAnd .i64 (iShr .i64 x.2.1 x0) 1) 1) (iNe (lGet (lGet x.1.2 (iNat x0) []) (iNat x.2.2) (0,0,0,0)).1 1))))) (fun(x0:Int)=>(iSub .i64 x0 1)) (iSub .i64 (lLen x.1.2) 1)) 0))
@[irreducible] def PK(x:(Int×(List (List (Int×Int×Int×Int))))×Int×Int):Prop:=(((PG (x.1.1,x.1.2))∧(((bNot (Ip (x.1.1,x.1.2)))=true→True)∧((bNot (Ip (x.1.1,x.1.2)))=false→(Fj (x.2.2,0,(iSub .i64 x.1.1 1))))))∧(((bOr (bNot (Ip (x.1.1,x.1.2))) (bNot (Cp (x.2.2,0,(iSub .i64 x.1.1 1)))))=true→True)∧((bOr (bNot (Ip (x.1.1,x.1.2))) (bNot (Cp (x.2.2,0,(iSub .i64 x.1.1 1)))))=false→(LoopOk (fun(x0:Int)=>(bAnd (iGt x0 0) (bNot (bAnd (iEq (iAnd .i64 (iShr .i64 x.2.1 x0) 1) 1) (iNe (lGet (lGet x.1.2 (iNat x0) []) (iNat x.2.2) (0,0,0,0)).1 1))))) (fun(x0:Int)=>(iSub .i64 x0 1)) (fun(x0:Int)=>(((iGt x0 0)=true→(((0:Int)≤x0)∧(((iEq (iAnd .i64 (iShr .i64 x.2.1 x0) 1) 1)=true→((((0:Int)≤x0)∧(x0<(((List.length x.1.2):Int))))∧(((iNat x0)<(List.length x.1.2))∧((((0:Int)≤x.2.2)∧(x.2.2<(((List.length (lGet x.1.2 (iNat x0) [])):Int))))∧((iNat x.2.2)<(List.length (lGet x.1.2 (iNat x0) [])))))))∧((iEq (iAnd .i64 (iShr .i64 x.2.1 x0) 1) 1)=false→True))))∧((iGt x0 0)=false→True))) (iSub .i64 (lLen x.1.2) 1)))))
theorem PI (x):PN x=(bSel (iGt (AF (fun(x0:Int)=>(bAnd (iGt x0 0) (bNot (bAnd (iEq (HC (x.2.1,x0)) 1) (iNe (lGet (lGet x.1.2 (iNat x0) []) (iNat x.2.2) (0,0,0,0)).1 1))))) (fun(x0:Int)=>(iSub .i64 x0 1)) (iSub .i64 (lLen x.1.2) 1)) 0) (AF (fun(x0:Int)=>(bAnd (iGt x0 0) (bNot (bAnd (iEq (HC (x.2.1,x0)) 1) (iNe (lGet (lGet x.1.2 (iNat x0) []) (iNat x.2.2) (0,0,0,0)).1 1))))) (fun(x0:Int)=>(iSub .i64 x0 1)) (iSub .i64 (lLen x.1.2) 1)) 0):=(GG.v x).trans (by kernel_rfl)
theorem Yd (x):PJ x=(LoopOk (fun(x0:Int)=>(bAnd (iGt x0 0) (bNot (bAnd (iEq (HC (x.2.1,x0)) 1) (iNe (lGet (lGet x.1.2 (iNat x0) []) (iNat x.2.2) (0,0,0,0)).1 1))))) (fun(x0:Int)=>(iSub .i64 x0 1)) (fun(x0:Int)=>(((iGt x0 0)=true→((P9 (x.2.1,x0))∧(((iEq (HC (x.2.1,x0)) 1)=true→((((0:Int)≤x0)∧(x0<(((List.length x.1.2):Int))))∧(((iNat x0)<(List.length x.1.2))∧((((0:Int)≤x.2.2)∧(x.2.2<(((List.length (lGet x.1.2 (iNat x0) [])):Int))))∧((iNat x.2.2)<(List.length (lGet x.1.2 (iNat x0) [])))))))∧((iEq (HC (x.2.1,x0)) 1)=false→True))))∧((iGt x0 0)=false→True))) (iSub .i64 (lLen x.1.2) 1)):=(GG.o x).trans (by kernel_rfl)
theorem PL (x):Ar x=(bSel (bOr (bNot (Ea (x.1.1,x.1.2))) (bOr (iLt x.2.2 0) (iGe x.2.2 x.1.1))) (-1) (PN ((x.1.1,x.1.2),x.2.1,x.2.2))):=(Fh.v x).trans (by kernel_rfl)
theorem Yp (x):KR x=((MW (x.1.1,x.1.2))∧(((bOr (bNot (Ea (x.1.1,x.1.2))) (bOr (iLt x.2.2 0) (iGe x.2.2 x.1.1)))=true→True)∧((bOr (bNot (Ea (x.1.1,x.1.2))) (bOr (iLt x.2.2 0) (iGe x.2.2 x.1.1)))=false→(PJ ((x.1.1,x.1.2),x.2.1,x.2.2))))):=(Fh.o x).trans (by kernel_rfl)
@[irreducible] def Ta(x:(Int×(List (List (Int×Int×Int×Int))))×Int×Int):Prop:=((PK ((x.1.1,x.1.2),x.2.1,x.2.2))∧(((iLt (GF ((x.1.1,x.1.2),x.2.1,x.2.2)) 0)=true→True)∧((iLt (GF ((x.1.1,x.1.2),x.2.1,x.2.2)) 0)=false→((((0:Int)≤(GF ((x.1.1,x.1.2),x.2.1,x.2.2)))∧((GF ((x.1.1,x.1.2),x.2.1,x.2.2))<(((List.length x.1.2):Int))))∧(((iNat (GF ((x.1.1,x.1.2),x.2.1,x.2.2)))<(List.length x.1.2))∧((((0:Int)≤x.2.2)∧(x.2.2<(((List.length (lGet x.1.2 (iNat (GF ((x.1.1,x.1.2),x.2.1,x.2.2))) [])):Int))))∧((iNat x.2.2)<(List.length (lGet x.1.2 (iNat (GF ((x.1.1,x.1.2),x.2.1,x.2.2))) [])))))))))
theorem XV (x):BJ x=(bSel (iLt (Ar ((x.1.1,x.1.2),x.2.1,x.2.2)) 0) (0,0,0,0) ((lGet (lGet x.1.2 (iNat (Ar ((x.1.1,x.1.2),x.2.1,x.2.2))) []) (iNat x.2.2) (0,0,0,0)).1,(lGet (lGet x.1.2 (iNat (Ar ((x.1.1,x.1.2),x.2.1,x.2.2))) []) (iNat x.2.2) (0,0,0,0)).2.1,(lGet (lGet x.1.2 (iNat (Ar ((x.1.1,x.1.2),x.2.1,x.2.2))) []) (iNat x.2.2) (0,0,0,0)).2.2.1,(lGet (lGet x.1.2 (iNat (Ar ((x.1.1,x.1.2),x.2.1,x.2.2))) []) (iNat x.2.2) (0,0,0,0)).2.2.2)):=(GC.v x).trans (by kernel_rfl)
theorem XS (x):MU x=((KR ((x.1.1,x.1.2),x.2.1,x.2.2))∧(((iLt (Ar ((x.1.1,x.1.2),x.2.1,x.2.2)) 0)=true→True)∧((iLt (Ar ((x.1.1,x.1.2),x.2.1,x.2.2)) 0)=false→((((0:Int)≤(Ar ((x.1.1,x.1.2),x.2.1,x.2.2)))∧((Ar ((x.1.1,x.1.2),x.2.1,x.2.2))<(((List.length x.1.2):Int))))∧(((iNat (Ar ((x.1.1,x.1.2),x.2.1,x.2.2)))<(List.length x.1.2))∧((((0:Int)≤x.2.2)∧(x.2.2<(((List.length (lGet x.1.2 (iNat (Ar ((x.1.1,x.1.2),x.2.1,x.2.2))) [])):Int))))∧((iNat x.2.2)<(List.length (lGet x.1.2 (iNat (Ar ((x.1.1,x.1.2),x.2.1,x.2.2))) []))))))))):=(GC.o x).trans (by kernel_rfl)
attribute [irreducible] Ea MW PN PJ Ar KR BJ MU
end
section
set_option maxRecDepth 8000
def YV:DCode:=(.seq [0] (.region [oa 0 2 (.mv (.c .undef))]) (.seq [3,0] (.region [on 0 5 0,oa 1 6 (.len (.t 5)),oa 2 7 (.bin .add (.c (.int .i64 10729)) (.t 6)),om 3 3 7]) (.seq [3,0] (.seq [4,3,0] (.region [oi 0 4 0]) (.block 0 (.loop [0,3,4] 1 (.seq [4,3,0] (.seq [15,4,3,0] (.region [om 0 8 4,on 1 9 0,oa 2 10 (.len (.t 9)),oa 3 11 (.bin .lss (.t 8) (.t 10)),om 4 12 11,og 5 13 (.mv (.t 4)) 12 true,og 6 14 (.bin .lss (.t 13) (.c (.int .i64 4000))) 12 true,oa 7 15 (.pick (.t 12) (.t 14) (.c (.bool false)))]) (.cond (.t 15) .skip (.exit 0))) (.seq [4,3,0] (.block 1 (.region [om 0 18 3,oa 1 19 (.bin .mul (.t 18) (.c (.int .i64 131))),on 2 20 0,om 3 21 4,oa 4 22 (.indexA 1 (.t 20) (.t 21)),oa 5 23 (.loadH none (.t 22)),oa 6 24 (.conv .i64 (.t 23)),oa 7 25 (.bin .add (.t 19) (.t 24)),oa 8 26 (.bin .add (.t 25) (.c (.int .i64 7))),oa 9 27 (.bin .and (.t 26) (.c (.int .i64 1073741823))),om 10 3 27])) (.region [om 0 16 4,oa 1 17 (.bin .add (.t 16) (.c (.int .i64 1))),om 2 4 17])))))) (.seq [2] (.region [om 0 28 0,om 1 29 3,oa 2 30 (.build [.nils,(.int .i64 0),(.int .i64 0)] [(0,1,(.t 28)),(2,1,(.t 29))]),oa 3 31 (.boxH 3 (.t 30)),om 4 2 31]) .ret))))
def Hx:DFun:=⟨1,32,0,false,[.tmp 2],YV⟩
@[irreducible] def JH:AS:=El Hx.er.er
@[irreducible] def KY:BB:=CI Hx.er
theorem Y9:Dn JH KY:=by unfold JH KY;exact FY (f:=Hx.er) trivial
def Ny:List HT:=[.one .frz (.sl (.one (.int .u8)))]
def Nw:List (Ql×CT):=[(.frz,.sl (.one (.int .u8))),(.own,.int .i64),(.own,.int .i64)]
@[irreducible] def GJ(x:List (Int)):List (Int)×Int×Int:=(shut fun x=>MG Hx Ny Nw x).1 x
@[irreducible] def JC(x:List (Int)):Prop:=(shut fun x=>Mq Hx Ny Nw x).1 x
def TQ:Cv:=Oq Ny Nw JC GJ
theorem Y3:Ei KY TQ:=by unfold KY;exact Ut (f:=Hx) (hs:=Ny) (cs:=Nw) trivial (by kernel_rfl) (fun x=>by kernel_rfl) (fun x h=>by unfold JC at h;exact Eq.mp (congrFun (shut _).2 x) h) (fun x=>by unfold GJ;exact(congrFun (shut _).2 x).symm)
def YU:DCode:=(.seq [0] (.region [oi 0 2 0]) (.seq [0] (.region [om 0 4 0,om 1 5 0,oa 2 6 (.nilck (.t 5)),oa 3 7 (.fieldA 2 (.t 6)),oa 4 8 (.loadH none (.t 7)),oa 5 9 (.bin .mul (.t 8) (.c (.int .i64 6364136223846793005))),oa 6 10 (.bin .add (.t 9) (.c (.int .i64 1442695040888963407))),oa 7 11 (.nilck (.t 4)),oa 8 12 (.fieldA 2 (.t 11)),os 9 (.storeH 1 (.t 12) (.t 10))]) (.seq [3,0] (.region [om 0 13 0,xA 1 14 (.nilck (.t 13)) (rg 1),xA 2 15 (.fieldA 2 (.t 14)) (rg 2),xA 3 16 (.loadH none (.t 15)) (rg 3),xA 4 17 (.bin .shr (.t 16) (.c (.int .u64 33))) (rg 4),om 5 18 0,xA 6 19 (.nilck (.t 18)) [5],xA 7 20 (.fieldA 2 (.t 19)) [5,6],xA 8 21 (.loadH none (.t 20)) [5,6,7],xA 9 22 (.bin .shr (.t 21) (.c (.int .u64 45))) [5,6,7,8],xA 10 23 (.bin .xor (.t 17) (.t 22)) (rg 10),xA 11 24 (.bin .and (.t 23) (.c (.int .i64 255))) (rg 11),xA 12 3 (.mv (.t 24)) (rg 12)]) (.seq [3] (.seq [34,3,0] (.region [om 0 25 0,xA 1 26 (.nilck (.t 25)) (rg 1),xA 2 27 (.fieldA 1 (.t 26)) (rg 2),xA 3 28 (.loadH none (.t 27)) (rg 3),om 4 29 0,xA 5 30 (.nilck (.t 29)) [4],xA 6 31 (.fieldA 0 (.t 30)) [4,5],xA 7 32 (.loadH none (.t 31)) [4,5,6],xA 8 33 (.len (.t 32)) [4,5,6,7],xA 9 34 (.bin .lss (.t 28) (.t 33)) (rg 9)]) (.cond (.t 34) (.seq [3,0] (.region [om 0 35 3,om 1 36 0,xA 2 37 (.nilck (.t 36)) [1],xA 3 38 (.fieldA 0 (.t 37)) [1,2],xA 4 39 (.loadH none (.t 38)) [1,2,3],om 5 40 0,xA 6 41 (.nilck (.t 40)) [5],xA 7 42 (.fieldA 1 (.t 41)) [5,6],xA 8 43 (.loadH none (.t 42)) [5,6,7],xA 9 44 (.indexA 1 (.t 39) (.t 43)) [1,2,3,4,5,6,7,8],xA 10 45 (.loadH none (.t 44)) [1,2,3,4,5,6,7,8,9],xA 11 46 (.conv .i64 (.t 45)) [1,2,3,4,5,6,7,8,9,10],xA 12 47 (.bin .add (.t 35) (.t 46)) (rg 12),xA 13 48 (.bin .and (.t 47) (.c (.int .i64 255))) (rg 13),xA 14 3 (.mv (.t 48)) (rg 14)]) (.region [om 0 49 0,om 1 50 0,oa 2 51 (.nilck (.t 50)),oa 3 52 (.fieldA 1 (.t 51)),oa 4 53 (.loadH none (.t 52)),oa 5 54 (.bin .add (.t 53) (.c (.int .i64 1))),oa 6 55 (.nilck (.t 49)),oa 7 56 (.fieldA 1 (.t 55)),os 8 (.storeH 1 (.t 56) (.t 54))])) .skip)) (.seq [2] (.region [om 0 57 3,om 1 2 57]) .ret)))))
def Hu:DFun:=⟨1,58,0,false,[.tmp 2],YU⟩
@[irreducible] def DX:AS:=El Hu.er.er
@[irreducible] def GH:BB:=CI Hu.er
theorem KU:Dn DX GH:=by unfold DX GH;exact FY (f:=Hu.er) trivial
def Nh:List HT:=[]
def Nf:List (Ql×CT):=[(.frz,.sl (.one (.int .u8))),(.own,.int .i64),(.own,.int .i64)]
def Nc:QT:=.one (.one .own (.int .i64))
@[irreducible] def Ba(x:List (Int)×Int×Int):Int×(Int×Int):=(shut fun x=>Gr Hu Nh Nf Nc x).1 x
@[irreducible] def FU(x:List (Int)×Int×Int):Prop:=(shut fun x=>Gk Hu Nh Nf Nc x).1 x
def JA:Cv:=GX Nh Nf Nc FU Ba
theorem KT:Ei GH JA:=by unfold GH;exact Iy (f:=Hu) (hs:=Nh) (cs:=Nf) (q:=Nc) trivial (by kernel_rfl) (fun x=>by kernel_rfl) (fun x h=>by unfold FU at h;exact Eq.mp (congrFun (shut _).2 x) h) (fun x=>by unfold Ba;exact(congrFun (shut _).2 x).symm)
def Yj:DCode:=(.seq [1,0] (.region [oi 0 4 0]) (.seq [1,0] (.seq [10,1,0] (.region [om 0 9 1,oa 1 10 (.bin .leq (.t 9) (.c (.int .i64 0)))]) (.cond (.t 10) (.seq [4] (.region [oi 0 4 0]) .ret) .skip)) (.seq [1,0] (.seq [12,1,0] (.region [om 0 11 1,oa 1 12 (.bin .leq (.t 11) (.c (.int .i64 256)))]) (.cond (.t 12) (.seq [4] (.region [om 0 13 0,op 1 14 DX GH JA [(.t 13)],om 2 15 1,oa 3 16 (.bin .rem (.t 14) (.t 15)),om 4 4 16]) .ret) .skip)) (.seq [5,1,0] (.region [om 0 17 0,op 1 18 DX GH JA [(.t 17)],om 2 5 18]) (.seq [6,5,1,0] (.region [om 0 19 0,op 1 20 DX GH JA [(.t 19)],om 2 6 20]) (.seq [7,6,5,1,0] (.region [om 0 21 0,op 1 22 DX GH JA [(.t 21)],om 2 7 22]) (.seq [8,7,6,5,1] (.region [om 0 23 0,op 1 24 DX GH JA [(.t 23)],om 2 8 24]) (.seq [4] (.region [om 0 25 5,oa 1 26 (.bin .mul (.t 25) (.c (.int .i64 16777216))),om 2 27 6,oa 3 28 (.bin .mul (.t 27) (.c (.int .i64 65536))),oa 4 29 (.bin .add (.t 26) (.t 28)),om 5 30 7,oa 6 31 (.bin .mul (.t 30) (.c (.int .i64 256))),oa 7 32 (.bin .add (.t 29) (.t 31)),om 8 33 8,oa 9 34 (.bin .add (.t 32) (.t 33)),om 10 35 1,oa 11 36 (.bin .rem (.t 34) (.t 35)),om 12 4 36]) .ret))))))))
def Hq:DFun:=⟨2,37,0,false,[.tmp 4],Yj⟩
@[irreducible] def Bp:AS:=El Hq.er.er
@[irreducible] def CE:BB:=CI Hq.er
theorem DB:Dn Bp CE:=by unfold Bp CE;exact FY (f:=Hq.er) ⟨KU,KU,KU,KU,KU,trivial⟩
def M4:List HT:=[.one .frz (.int .i64)]
def M8:List (Ql×CT):=[(.frz,.sl (.one (.int .u8))),(.own,.int .i64),(.own,.int .i64)]
def M5:QT:=.one (.one .own (.int .i64))
@[irreducible] def An(x:(List (Int)×Int×Int)×Int):Int×(Int×Int):=(shut fun x=>Gr Hq M4 M8 M5 x).1 x
@[irreducible] def Cx(x:(List (Int)×Int×Int)×Int):Prop:=(shut fun x=>Gk Hq M4 M8 M5 x).1 x
def Dg:Cv:=GX M4 M8 M5 Cx An
theorem DD:Ei CE Dg:=by unfold CE;exact Iy (f:=Hq) (hs:=M4) (cs:=M8) (q:=M5) ⟨KT,KT,KT,KT,KT,trivial⟩ (by kernel_rfl) (fun x=>by kernel_rfl) (fun x h=>by unfold Cx at h;exact Eq.mp (congrFun (shut _).2 x) h) (fun x=>by unfold An;exact(congrFun (shut _).2 x).symm)
def YT:DCode:=(.seq [1,0] (.region [oa 0 4 (.mv (.c (.bool false)))]) (.seq [4] (.region [om 0 5 0,om 1 6 1,op 2 7 Bp CE Dg [(.t 5),(.t 6)],oa 3 8 (.bin .eql (.t 7) (.c (.int .i64 0))),om 4 4 8]) .ret))
def Hv:DFun:=⟨2,9,0,false,[.tmp 4],YT⟩
@[irreducible] def Hy:AS:=El Hv.er.er
@[irreducible] def Jz:BB:=CI Hv.er
theorem Tl:Dn Hy Jz:=by unfold Hy Jz;exact FY (f:=Hv.er) ⟨DB,trivial⟩
def Np:List HT:=[.one .frz (.int .i64)]
def Nj:List (Ql×CT):=[(.frz,.sl (.one (.int .u8))),(.own,.int .i64),(.own,.int .i64)]
def Ng:QT:=.one (.one .own (.bool))
@[irreducible] def Co(x:(List (Int)×Int×Int)×Int):Bool×(Int×Int):=(shut fun x=>Gr Hv Np Nj Ng x).1 x
@[irreducible] def Is(x:(List (Int)×Int×Int)×Int):Prop:=(shut fun x=>Gk Hv Np Nj Ng x).1 x
def PW:Cv:=GX Np Nj Ng Is Co
theorem Tj:Ei Jz PW:=by unfold Jz;exact Iy (f:=Hv) (hs:=Np) (cs:=Nj) (q:=Ng) ⟨DD,trivial⟩ (by kernel_rfl) (fun x=>by kernel_rfl) (fun x h=>by unfold Is at h;exact Eq.mp (congrFun (shut _).2 x) h) (fun x=>by unfold Co;exact(congrFun (shut _).2 x).symm)
def XM:DCode:=(.seq [1,0] (.region [oi 0 4 0]) (.seq [4] (.region [on 0 5 1,om 1 6 0,on 2 7 1,oa 3 8 (.len (.t 7)),op 4 9 Bp CE Dg [(.t 6),(.t 8)],oa 5 10 (.indexA 1 (.t 5) (.t 9)),ob 6 11 (.loadH none (.t 10)),om 7 4 11]) .ret))
def Ho:DFun:=⟨2,12,0,false,[.tmp 4],XM⟩
@[irreducible] def Jt:AS:=El Ho.er.er
@[irreducible] def KO:BB:=CI Ho.er
theorem XJ:Dn Jt KO:=by unfold Jt KO;exact FY (f:=Ho.er) ⟨DB,trivial⟩
def MX:List HT:=[.one .frz (.sl (.one (.int .i64)))]
def M0:List (Ql×CT):=[(.frz,.sl (.one (.int .u8))),(.own,.int .i64),(.own,.int .i64)]
def MZ:QT:=.one (.one .own (.int .i64))
@[irreducible] def EN(x:(List (Int)×Int×Int)×List (Int)):Int×(Int×Int):=(shut fun x=>Gr Ho MX M0 MZ x).1 x
@[irreducible] def Jp(x:(List (Int)×Int×Int)×List (Int)):Prop:=(shut fun x=>Gk Ho MX M0 MZ x).1 x
def S8:Cv:=GX MX M0 MZ Jp EN
theorem XI:Ei KO S8:=by unfold KO;exact Iy (f:=Ho) (hs:=MX) (cs:=M0) (q:=MZ) ⟨DD,trivial⟩ (by kernel_rfl) (fun x=>by kernel_rfl) (fun x h=>by unfold Jp at h;exact Eq.mp (congrFun (shut _).2 x) h) (fun x=>by unfold EN;exact(congrFun (shut _).2 x).symm)
def Z2:DCode:=(.seq [0] (.region [oa 0 2 (.mv (.c (.bool false)))]) (.seq [2] (.region [on 0 3 0,oa 1 4 (.len (.t 3)),oa 2 5 (.bin .gtr (.t 4) (.c (.int .i64 1048576))),om 3 2 5]) .ret))
def GO:Fn:=⟨⟨1,6,0,true,[.tmp 2],Z2⟩,[.one .frz (.sl (.one (.int .u8)))],.one (.one .own (.bool))⟩
theorem ZZ:GO.A:=EJ trivial
def JM:List (Int)→Bool:=GO.V
def NF:List (Int)→Prop:=GO.O
theorem ZW:GO.B:=Fe trivial (by kernel_rfl) (fun x=>by kernel_rfl)
end
section
set_option maxRecDepth 100000
def PM(x:List (Int))(x0:(Int×Int)):Bool:=(bAnd (iLt x0.2 (lLen x)) (iLt x0.2 4000))
def Tf(x:List (Int))(x0:(Int×Int)):(Int×Int):=((iAnd .i64 (iAdd .i64 (iAdd .i64 (iMul .i64 x0.1 131) (iConv .i64 (lGet x (iNat x0.2) 0))) 7) 1073741823),(iAdd .i64 x0.2 1))
def Ti(x:List (Int))(x0:(Int×Int)):Prop:=(((bAnd (iLt x0.2 (lLen x)) (iLt x0.2 4000))=true→((((0:Int)≤x0.2)∧(x0.2<(((List.length x):Int))))∧((iNat x0.2)<(List.length x))))∧((bAnd (iLt x0.2 (lLen x)) (iLt x0.2 4000))=false→True))
theorem Za (x):GJ x=(x,0,(AF (PM x) (Tf x) ((iAdd .i64 10729 (lLen x)),0)).1):=by unfold GJ;exact(congrFun (shut _).2 x).trans (by kernel_rfl)
theorem YX (x):JC x=(LoopOk (PM x) (Tf x) (Ti x) ((iAdd .i64 10729 (lLen x)),0)):=by unfold JC;exact(congrFun (shut _).2 x).trans (by kernel_rfl)
theorem YK (x):Ba x=((bSel (iLt x.2.1 (lLen x.1)) (iAnd .i64 (iAdd .i64 (iAnd .i64 (iXor .i64 (iShr .i64 (iAdd .i64 (iMul .i64 x.2.2 6364136223846793005) 1442695040888963407) 33) (iShr .i64 (iAdd .i64 (iMul .i64 x.2.2 6364136223846793005) 1442695040888963407) 45)) 255) (iConv .i64 (lGet x.1 (iNat x.2.1) 0))) 255) (iAnd .i64 (iXor .i64 (iShr .i64 (iAdd .i64 (iMul .i64 x.2.2 6364136223846793005) 1442695040888963407) 33) (iShr .i64 (iAdd .i64 (iMul .i64 x.2.2 6364136223846793005) 1442695040888963407) 45)) 255)),(bSel (iLt x.2.1 (lLen x.1)) (iAdd .i64 x.2.1 1) x.2.1),(iAdd .i64 (iMul .i64 x.2.2 6364136223846793005) 1442695040888963407)):=by unfold Ba;exact(congrFun (shut _).2 x).trans (by kernel_rfl)
theorem YR (x):FU x=(((0:Int)≤33)∧(((0:Int)≤45)∧(((iLt x.2.1 (lLen x.1))=true→((((0:Int)≤x.2.1)∧(x.2.1<(((List.length x.1):Int))))∧((iNat x.2.1)<(List.length x.1))))∧((iLt x.2.1 (lLen x.1))=false→True)))):=by unfold FU;exact(congrFun (shut _).2 x).trans (by kernel_rfl)
theorem Ye (x):An x=(bSel (iLe x.2 0) (0,x.1.2) (bSel (iLe x.2 256) ((iRem (Ba x.1).1 x.2),(Ba x.1).2) ((iRem (iAdd .i64 (iAdd .i64 (iAdd .i64 (iMul .i64 (Ba x.1).1 16777216) (iMul .i64 (Ba (x.1.1,(Ba x.1).2)).1 65536)) (iMul .i64 (Ba (x.1.1,(Ba (x.1.1,(Ba x.1).2)).2)).1 256)) (Ba (x.1.1,(Ba (x.1.1,(Ba (x.1.1,(Ba x.1).2)).2)).2)).1) x.2),(Ba (x.1.1,(Ba (x.1.1,(Ba (x.1.1,(Ba x.1).2)).2)).2)).2))):=by unfold An;exact(congrFun (shut _).2 x).trans (by kernel_rfl)
theorem Yn (x):Cx x=(((iLe x.2 0)=true→True)∧((iLe x.2 0)=false→(((iLe x.2 256)=true→((FU x.1)∧(x.2≠0)))∧((iLe x.2 256)=false→((FU x.1)∧((FU (x.1.1,(Ba x.1).2))∧((FU (x.1.1,(Ba (x.1.1,(Ba x.1).2)).2))∧((FU (x.1.1,(Ba (x.1.1,(Ba (x.1.1,(Ba x.1).2)).2)).2))∧(x.2≠0))))))))):=by unfold Cx;exact(congrFun (shut _).2 x).trans (by kernel_rfl)
theorem Yx (x):Co x=((iEq (An x).1 0),(An x).2):=by unfold Co;exact(congrFun (shut _).2 x).trans (by kernel_rfl)
theorem Yy (x):Is x=(Cx x):=by unfold Is;exact(congrFun (shut _).2 x).trans (by kernel_rfl)
theorem XN (x):EN x=((lGet x.2 (iNat (An (x.1,(lLen x.2))).1) 0),(An (x.1,(lLen x.2))).2):=by unfold EN;exact(congrFun (shut _).2 x).trans (by kernel_rfl)
theorem XK (x):Jp x=((Cx (x.1,(lLen x.2)))∧((((0:Int)≤(An (x.1,(lLen x.2))).1)∧((An (x.1,(lLen x.2))).1<(((List.length x.2):Int))))∧((iNat (An (x.1,(lLen x.2))).1)<(List.length x.2)))):=by unfold Jp;exact(congrFun (shut _).2 x).trans (by kernel_rfl)
theorem ZI (x):JM x=(iGt (lLen x) 1048576):=(GO.v x).trans (by kernel_rfl)
theorem ZR (x):NF x=True:=(GO.o x).trans (by kernel_rfl)
attribute [irreducible] JM NF
end
section
set_option maxRecDepth 8000
def YE:DCode:=(.seq [1,0] (.region [oa 0 4 (.mv (.c .undef))]) (.seq [5,1] (.region [on 0 6 0,op 1 7 JH KY TQ [(.t 6)],om 2 5 7]) (.seq [5] (.region [om 0 8 5,om 1 9 5,oa 2 10 (.nilck (.t 9)),oa 3 11 (.fieldA 2 (.t 10)),oa 4 12 (.loadH none (.t 11)),om 5 13 1,oa 6 14 (.bin .mul (.c (.int .i64 7919)) (.t 13)),oa 7 15 (.bin .add (.t 12) (.t 14)),oa 8 16 (.nilck (.t 8)),oa 9 17 (.fieldA 2 (.t 16)),os 10 (.storeH 1 (.t 17) (.t 15))]) (.seq [4] (.region [om 0 18 5,om 1 4 18]) .ret))))
def Hr:DFun:=⟨2,19,0,false,[.tmp 4],YE⟩
@[irreducible] def Hw:AS:=El Hr.er.er
@[irreducible] def JG:BB:=CI Hr.er
theorem Tu:Dn Hw JG:=by unfold Hw JG;exact FY (f:=Hr.er) ⟨Y9,trivial⟩
def Ni:List HT:=[.one .frz (.sl (.one (.int .u8))),.one .frz (.int .i64)]
def Nt:List (Ql×CT):=[(.frz,.sl (.one (.int .u8))),(.own,.int .i64),(.own,.int .i64)]
@[irreducible] def GI(x:List (Int)×Int):List (Int)×Int×Int:=(shut fun x=>MG Hr Ni Nt x).1 x
@[irreducible] def It(x:List (Int)×Int):Prop:=(shut fun x=>Mq Hr Ni Nt x).1 x
def PU:Cv:=Oq Ni Nt It GI
theorem Tt:Ei JG PU:=by unfold JG;exact Ut (f:=Hr) (hs:=Ni) (cs:=Nt) ⟨Y3,trivial⟩ (by kernel_rfl) (fun x=>by kernel_rfl) (fun x h=>by unfold It at h;exact Eq.mp (congrFun (shut _).2 x) h) (fun x=>by unfold GI;exact(congrFun (shut _).2 x).symm)
def YF:DCode:=(.seq [4,1,0] (.region [oa 0 4 (.allocB 0 [(.int .i64 0),(.int .i64 0),(.int .i64 0),(.int .i64 0)])]) (.seq [5,4,1,0] (.region [om 0 8 0,op 1 9 Bp CE Dg [(.t 8),(.c (.int .i64 56))],oa 2 10 (.bin .add (.c (.int .i64 1)) (.t 9)),om 3 5 10]) (.seq [6,5,4,1,0] (.region [om 0 11 0,op 1 12 Bp CE Dg [(.t 11),(.c (.int .i64 15))],oa 2 13 (.bin .add (.c (.int .i64 1)) (.t 12)),om 3 6 13]) (.seq [6,5,4,1,0] (.seq [15,6,5,4,1,0] (.region [om 0 14 0,op 1 15 Hy Jz PW [(.t 14),(.c (.int .i64 2))]]) (.cond (.t 15) (.region [oi 0 6 2]) .skip)) (.seq [7,6,5,4,1,0] (.region [om 0 16 0,om 1 17 1,oa 2 18 (.bin .sub (.t 17) (.c (.int .i64 1))),oa 3 19 (.maxI (.c (.int .i64 1)) (.t 18)),op 4 20 Bp CE Dg [(.t 16),(.t 19)],oa 5 21 (.bin .add (.c (.int .i64 1)) (.t 20)),om 6 7 21]) (.seq [5,4] (.seq [23,7,6,5,4,1,0] (.region [om 0 22 0,op 1 23 Bp CE Dg [(.t 22),(.c (.int .i64 16))]]) (.block 0 (.seq [24,23,7,6,5,4,1,0] (.region [oa 0 25 (.bin .eql (.t 23) (.c (.int .i64 0))),om 1 24 25]) (.cond (.t 24) (.seq [4] (.region [om 0 26 5,om 1 27 6,oa 2 28 (.build [(.int .i64 0),(.int .i64 0),(.int .i64 0),(.int .i64 0)] [(0,1,(.c (.int .i64 2))),(1,1,(.t 26)),(2,1,(.t 27))]),os 3 (.storeB 0 4 (.t 4) (.t 28))]) .ret) (.seq [29,23,7,6,5,4,1,0] (.region [oa 0 30 (.bin .eql (.t 23) (.c (.int .i64 1))),om 1 29 30]) (.cond (.t 29) (.seq [4] (.region [om 0 31 6,oa 1 32 (.build [(.int .i64 0),(.int .i64 0),(.int .i64 0),(.int .i64 0)] [(0,1,(.c (.int .i64 2))),(2,1,(.t 31))]),os 2 (.storeB 0 4 (.t 4) (.t 32))]) .ret) (.seq [33,23,7,6,5,4,1,0] (.seq [33,23,7,6,5,4,1,0] (.region [oa 0 34 (.bin .eql (.t 23) (.c (.int .i64 2))),om 1 33 34]) (.cond (.t 33) .skip (.region [oa 0 35 (.bin .eql (.t 23) (.c (.int .i64 3))),om 1 33 35]))) (.cond (.t 33) (.seq [4] (.region [om 0 36 5,om 1 37 6,oa 2 38 (.build [(.int .i64 0),(.int .i64 0),(.int .i64 0),(.int .i64 0)] [(0,1,(.c (.int .i64 6))),(1,1,(.t 36)),(2,1,(.t 37))]),os 3 (.storeB 0 4 (.t 4) (.t 38))]) .ret) (.seq [39,23,7,6,5,4,1,0] (.region [oa 0 40 (.bin .eql (.t 23) (.c (.int .i64 4))),om 1 39 40]) (.cond (.t 39) (.seq [4] (.region [om 0 41 6,oa 1 42 (.build [(.int .i64 0),(.int .i64 0),(.int .i64 0),(.int .i64 0)] [(0,1,(.c (.int .i64 8))),(2,1,(.t 41))]),os 2 (.storeB 0 4 (.t 4) (.t 42))]) .ret) (.seq [43,23,7,5,4,1,0] (.region [oa 0 44 (.bin .eql (.t 23) (.c (.int .i64 5))),om 1 43 44]) (.cond (.t 43) (.seq [4] (.region [om 0 45 0,op 1 46 Bp CE Dg [(.t 45),(.c (.int .i64 4))],oa 2 47 (.build [(.int .i64 0),(.int .i64 0),(.int .i64 0),(.int .i64 0)] [(0,1,(.c (.int .i64 9))),(3,1,(.t 46))]),os 3 (.storeB 0 4 (.t 4) (.t 47))]) .ret) (.seq [48,23,7,5,4,1,0] (.region [oa 0 49 (.bin .eql (.t 23) (.c (.int .i64 6))),om 1 48 49]) (.cond (.t 48) (.seq [4] (.region [oa 0 50 (.build [(.int .i64 0),(.int .i64 0),(.int .i64 0),(.int .i64 0)] [(0,1,(.c (.int .i64 10)))]),os 1 (.storeB 0 4 (.t 4) (.t 50))]) .ret) (.seq [51,23,7,5,4,1,0] (.region [oa 0 52 (.bin .eql (.t 23) (.c (.int .i64 7))),om 1 51 52]) (.cond (.t 51) (.seq [4] (.region [om 0 53 0,om 1 54 1,oa 2 55 (.maxI (.c (.int .i64 1)) (.t 54)),op 3 56 Bp CE Dg [(.t 53),(.t 55)],oa 4 57 (.build [(.int .i64 0),(.int .i64 0),(.int .i64 0),(.int .i64 0)] [(0,1,(.c (.int .i64 5))),(3,1,(.t 56))]),os 5 (.storeB 0 4 (.t 4) (.t 57))]) .ret) (.seq [58,7,5,4,1,0] (.seq [58,23,7,5,4,1,0] (.region [oa 0 59 (.bin .eql (.t 23) (.c (.int .i64 8))),om 1 58 59]) (.cond (.t 58) .skip (.seq [58,23,7,5,4,1,0] (.region [oa 0 60 (.bin .eql (.t 23) (.c (.int .i64 9))),om 1 58 60]) (.cond (.t 58) .skip (.region [oa 0 61 (.bin .eql (.t 23) (.c (.int .i64 10))),om 1 58 61]))))) (.cond (.t 58) (.seq [63,7,5,4,0] (.region [om 0 62 1,oa 1 63 (.bin .gtr (.t 62) (.c (.int .i64 1)))]) (.cond (.t 63) (.seq [4] (.region [om 0 64 7,oa 1 65 (.build [(.int .i64 0),(.int .i64 0),(.int .i64 0),(.int .i64 0)] [(0,1,(.c (.int .i64 3))),(3,1,(.t 64))]),om 2 66 7,oa 3 67 (.build [(.int .i64 0),(.int .i64 0),(.int .i64 0),(.int .i64 0)] [(0,1,(.c (.int .i64 4))),(3,1,(.t 66))]),om 4 68 5,om 5 69 7,oa 6 70 (.build [(.int .i64 0),(.int .i64 0),(.int .i64 0),(.int .i64 0)] [(0,1,(.c (.int .i64 7))),(1,1,(.t 68)),(3,1,(.t 69))]),⟨7,some 71,.a false (.litSlice 4 3 [(.int .i64 0),(.int .i64 0),(.int .i64 0),(.int .i64 0),(.int .i64 0),(.int .i64 0),(.int .i64 0),(.int .i64 0),(.int .i64 0),(.int .i64 0),(.int .i64 0),(.int .i64 0)] [(0,4,(.t 65)),(4,4,(.t 67)),(8,4,(.t 70))]) (some FO),none,[]⟩,om 8 72 0,op 9 73 Bp CE Dg [(.t 72),(.c (.int .i64 3))],oa 10 74 (.indexA 4 (.t 71) (.t 73)),ob 11 75 (.loadH (some 4) (.t 74)),os 12 (.storeB 0 4 (.t 4) (.t 75))]) .ret) .skip)) .skip)))))))))))))))))) (.seq [4] (.region [om 0 76 5,oa 1 77 (.build [(.int .i64 0),(.int .i64 0),(.int .i64 0),(.int .i64 0)] [(0,1,(.c (.int .i64 2))),(1,1,(.t 76))]),os 2 (.storeB 0 4 (.t 4) (.t 77))]) .ret)))))))
def Ht:DFun:=⟨2,78,1,false,[.cell 4 (some 4)],YF⟩
@[irreducible] def JF:AS:=El Ht.er.er
@[irreducible] def KV:BB:=CI Ht.er
theorem YN:Dn JF KV:=by unfold JF KV;exact FY (f:=Ht.er) ⟨DB,DB,Tl,DB,DB,DB,DB,DB,trivial⟩
def Nd:List HT:=[.one .frz (.int .i64)]
def Ns:List (Ql×CT):=[(.frz,.sl (.one (.int .u8))),(.own,.int .i64),(.own,.int .i64)]
def Nn:QT:=.one (.agg [(.own,.int .i64),(.own,.int .i64),(.own,.int .i64),(.own,.int .i64)])
@[irreducible] def Bj(x:(List (Int)×Int×Int)×Int):(Int×Int×Int×Int)×(Int×Int):=(shut fun x=>Gr Ht Nd Ns Nn x).1 x
@[irreducible] def Jy(x:(List (Int)×Int×Int)×Int):Prop:=(shut fun x=>Gk Ht Nd Ns Nn x).1 x
def Tx:Cv:=GX Nd Ns Nn Jy Bj
theorem YC:Ei KV Tx:=by unfold KV;exact Iy (f:=Ht) (hs:=Nd) (cs:=Ns) (q:=Nn) ⟨DD,DD,Tj,DD,DD,DD,DD,DD,trivial⟩ (by kernel_rfl) (fun x=>by kernel_rfl) (fun x h=>by unfold Jy at h;exact Eq.mp (congrFun (shut _).2 x) h) (fun x=>by unfold Bj;exact(congrFun (shut _).2 x).symm)
def YM:DCode:=(.seq [4,1,0] (.region [oa 0 4 (.allocB 0 [(.int .i64 0),.nils])]) (.seq [5,4,1,0] (.region [om 0 11 0,op 1 12 Bp CE Dg [(.t 11),(.c (.int .i64 4))],oa 2 13 (.bin .add (.c (.int .i64 1)) (.t 12)),om 3 5 13]) (.seq [6,5,4,1,0] (.region [om 0 14 1,oa 1 15 (.build [(.int .i64 0),.nils] [(0,1,(.t 14))]),oa 2 6 (.allocB 1 [(.int .i64 0),.nils]),os 3 (.storeB 1 2 (.t 6) (.t 15))]) (.seq [6,4] (.seq [7,6,5,4,1,0] (.region [oi 0 7 0]) (.block 0 (.loop [0,1,4,5,6,7] 1 (.seq [7,6,5,4,1,0] (.seq [18,7,6,5,4,1,0] (.region [om 0 16 7,om 1 17 5,oa 2 18 (.bin .lss (.t 16) (.t 17))]) (.cond (.t 18) .skip (.exit 0))) (.seq [7,6,5,4,1,0] (.block 1 (.seq [8,7,6,5,4,1,0] (.region [⟨0,some 21,.a false (.litSlice 4 0 [] []) (some FO),none,[]⟩,om 1 8 21]) (.seq [8,7,6,5,4,1,0] (.seq [9,8,7,6,5,4,1,0] (.region [oi 0 9 0]) (.block 2 (.loop [0,1,4,5,6,7,8,9] 1 (.seq [9,8,7,6,5,4,1,0] (.seq [24,9,8,7,6,5,4,1,0] (.region [om 0 22 9,om 1 23 1,oa 2 24 (.bin .lss (.t 22) (.t 23))]) (.cond (.t 24) .skip (.exit 2))) (.seq [9,8,7,6,5,4,1,0] (.block 3 (.seq [10,9,8,7,6,5,4,1,0] (.region [om 0 27 0,om 1 28 5,op 2 29 JF KV Tx [(.t 27),(.t 28)],oa 3 10 (.allocB 2 [(.int .i64 0),(.int .i64 0),(.int .i64 0),(.int .i64 0)]),os 4 (.storeB 2 4 (.t 10) (.t 29))]) (.seq [10,9,8,7,6,5,4,1,0] (.seq [35,10,9,8,7,6,5,4,1,0] (.region [om 0 30 7,oa 1 31 (.bin .gtr (.t 30) (.c (.int .i64 0))),om 2 32 31,og 3 33 (.mv (.t 0)) 32 true,⟨4,some 34,.callp false Hy Jz PW [(.t 33),(.c (.int .i64 3))],(some (32,true)),[]⟩,oa 5 35 (.pick (.t 32) (.t 34) (.c (.bool false)))]) (.cond (.t 35) (.region [oa 0 36 (.build [(.int .i64 0),(.int .i64 0),(.int .i64 0),(.int .i64 0)] [(0,1,(.c (.int .i64 1)))]),os 1 (.storeB 2 4 (.t 10) (.t 36))]) .skip)) (.region [om 0 37 8,ob 1 38 (.loadB 2 (some 4) (.t 10)),⟨2,some 39,.a false (.litSlice 4 1 [(.int .i64 0),(.int .i64 0),(.int .i64 0),(.int .i64 0)] [(0,4,(.t 38))]) (some FO),none,[]⟩,oa 3 40 (.app 4 (.t 37) (.t 39)),om 4 8 40])))) (.region [om 0 25 9,oa 1 26 (.bin .add (.t 25) (.c (.int .i64 1))),om 2 9 26])))))) (.region [oa 0 41 (.fieldA 1 (.t 6)),ob 1 42 (.loadB 1 none (.t 41)),om 2 43 8,⟨3,some 44,.a false (.litSlice 1 1 [.nils] [(0,1,(.t 43))]) (some (.one (.sl FO))),none,[]⟩,oa 4 45 (.app 1 (.t 42) (.t 44)),oa 5 46 (.fieldA 1 (.t 6)),os 6 (.storeB 1 1 (.t 46) (.t 45))])))) (.region [om 0 19 7,oa 1 20 (.bin .add (.t 19) (.c (.int .i64 1))),om 2 7 20])))))) (.seq [4] (.region [ob 0 47 (.loadB 1 (some 2) (.t 6)),os 1 (.storeB 0 2 (.t 4) (.t 47))]) .ret)))))
def Hs:DFun:=⟨2,48,3,false,[.cell 4 (some 2)],YM⟩
@[irreducible] def JD:AS:=El Hs.er.er
@[irreducible] def KW:BB:=CI Hs.er
theorem YG:Dn JD KW:=by unfold JD KW;exact FY (f:=Hs.er) ⟨DB,YN,Tl,trivial⟩
def Nk:List HT:=[.one .frz (.int .i64)]
def Nl:List (Ql×CT):=[(.frz,.sl (.one (.int .u8))),(.own,.int .i64),(.own,.int .i64)]
def Nr:QT:=.one (.agg [(.own,.int .i64),(.own,.sl (.one (.sl FO)))])
@[irreducible] def Cn(x:(List (Int)×Int×Int)×Int):(Int×(List (List (Int×Int×Int×Int))))×(Int×Int):=(shut fun x=>Gr Hs Nk Nl Nr x).1 x
@[irreducible] def Jx(x:(List (Int)×Int×Int)×Int):Prop:=(shut fun x=>Gk Hs Nk Nl Nr x).1 x
def TC:Cv:=GX Nk Nl Nr Jx Cn
theorem YH:Ei KW TC:=by unfold KW;exact Iy (f:=Hs) (hs:=Nk) (cs:=Nl) (q:=Nr) ⟨DD,YC,Tj,trivial⟩ (by kernel_rfl) (fun x=>by kernel_rfl) (fun x h=>by unfold Jx at h;exact Eq.mp (congrFun (shut _).2 x) h) (fun x=>by unfold Cn;exact(congrFun (shut _).2 x).symm)
def Yc:DCode:=(.seq [4,1,0] (.region [oa 0 4 (.allocB 0 [(.int .i64 0),.nils])]) (.seq [5,4,1,0] (.region [om 0 9 0,om 1 10 1,op 2 11 JD KW TC [(.t 9),(.t 10)],oa 3 5 (.allocB 1 [(.int .i64 0),.nils]),os 4 (.storeB 1 2 (.t 5) (.t 11))]) (.seq [5,4] (.seq [6,5,4,1,0] (.region [om 0 12 0,op 1 13 Bp CE Dg [(.t 12),(.c (.int .i64 6))],om 2 6 13]) (.block 0 (.loop [0,1,4,5,6] 1 (.seq [6,5,4,1,0] (.seq [15,6,5,4,1,0] (.region [om 0 14 6,oa 1 15 (.bin .gtr (.t 14) (.c (.int .i64 0)))]) (.cond (.t 15) .skip (.exit 0))) (.seq [6,5,4,1,0] (.block 1 (.seq [7,6,5,4,1,0] (.region [om 0 18 0,oa 1 19 (.fieldA 1 (.t 5)),oa 2 20 (.loadB 1 none (.t 19)),oa 3 21 (.len (.t 20)),op 4 22 Bp CE Dg [(.t 18),(.t 21)],om 5 7 22]) (.seq [8,7,6,5,4,1,0] (.region [om 0 23 0,om 1 24 1,op 2 25 Bp CE Dg [(.t 23),(.t 24)],om 3 8 25]) (.seq [29,8,7,6,5,4,1,0] (.region [oa 0 26 (.fieldA 1 (.t 5)),oa 1 27 (.loadB 1 none (.t 26)),oa 2 28 (.len (.t 27)),oa 3 29 (.bin .gtr (.t 28) (.c (.int .i64 1)))]) (.cond (.t 29) (.region [⟨7,some 37,.a false (.litSlice 1 3 [(.int .i64 0),(.int .i64 0),(.int .i64 0)] [(0,1,(.c (.int .i64 4))),(1,1,(.c (.int .i64 5))),(2,1,(.c (.int .i64 3)))]) (some (.one (.int .i64))),none,[]⟩,oa 0 30 (.fieldA 1 (.t 5)),xA 1 31 (.loadB 1 none (.t 30)) (rg 1),om 2 32 7,xA 3 33 (.indexA 1 (.t 31) (.t 32)) (rg 3),xB 4 34 (.loadX 1 1 none (.t 33)) (rg 4),om 5 35 8,om 6 36 0,om 9 39 0,oa 10 40 (.fieldA 1 (.t 5)),xA 11 41 (.loadB 1 none (.t 40)) [10],xA 12 42 (.len (.t 41)) [10,11],xA 13 43 (.bin .sub (.t 42) (.c (.int .i64 1))) [10,11,12],⟨8,some 38,.callv true Jt KO S8 [(.t 36),(.t 37)] 1 1,none,[6,7]⟩,⟨14,some 44,.callv false Bp CE Dg [(.t 39),(.t 43)] 1 1,none,[6,7,8,9,10,11,12,13]⟩,xA 15 45 (.bin .add (.c (.int .i64 1)) (.t 44)) [6,7,8,9,10,11,12,13,14],xA 16 46 (.build [(.int .i64 0),(.int .i64 0),(.int .i64 0),(.int .i64 0)] [(0,1,(.t 38)),(3,1,(.t 45))]) [6,7,8,9,10,11,12,13,14,15],xA 17 47 (.indexA 4 (.t 34) (.t 35)) (rg 17),xS 18 (.storeH 4 (.t 47) (.t 46)) (rg 18)]) .skip))))) (.region [om 0 16 6,oa 1 17 (.bin .sub (.t 16) (.c (.int .i64 1))),om 2 6 17])))))) (.seq [4] (.region [ob 0 48 (.loadB 1 (some 2) (.t 5)),os 1 (.storeB 0 2 (.t 4) (.t 48))]) .ret))))
def Hp:DFun:=⟨2,49,2,false,[.cell 4 (some 2)],Yc⟩
@[irreducible] def Jv:AS:=El Hp.er.er
@[irreducible] def KS:BB:=CI Hp.er
theorem Yr:Dn Jv KS:=by unfold Jv KS;exact FY (f:=Hp.er) ⟨YG,DB,DB,DB,XJ,DB,trivial⟩
def Na:List HT:=[.one .frz (.int .i64)]
def Nb:List (Ql×CT):=[(.frz,.sl (.one (.int .u8))),(.own,.int .i64),(.own,.int .i64)]
def M7:QT:=.one (.agg [(.own,.int .i64),(.own,.sl (.one (.sl FO)))])
@[irreducible] def Iq(x:(List (Int)×Int×Int)×Int):(Int×(List (List (Int×Int×Int×Int))))×(Int×Int):=(shut fun x=>Gr Hp Na Nb M7 x).1 x
@[irreducible] def Ju(x:(List (Int)×Int×Int)×Int):Prop:=(shut fun x=>Gk Hp Na Nb M7 x).1 x
def Tp:Cv:=GX Na Nb M7 Ju Iq
theorem Ya:Ei KS Tp:=by unfold KS;exact Iy (f:=Hp) (hs:=Na) (cs:=Nb) (q:=M7) ⟨YH,DD,DD,DD,XI,DD,trivial⟩ (by kernel_rfl) (fun x=>by kernel_rfl) (fun x h=>by unfold Ju at h;exact Eq.mp (congrFun (shut _).2 x) h) (fun x=>by unfold Iq;exact(congrFun (shut _).2 x).symm)
def XF:DCode:=(.seq [6,2,1,0] (.region [oa 0 6 (.allocB 0 [(.int .i64 0),.nils])]) (.seq [6] (.region [on 0 7 0,om 1 8 1,op 2 9 Hw JG PU [(.t 7),(.t 8)],om 3 10 2,op 4 11 Jv KS Tp [(.t 9),(.t 10)],os 5 (.storeB 0 2 (.t 6) (.t 11))]) .ret))
def Gz:Fn:=⟨⟨3,12,1,false,[.cell 6 (some 2)],XF⟩,[.one .frz (.sl (.one (.int .u8))),.one .frz (.int .i64),.one .frz (.int .i64)],.one (.agg [(.own,.int .i64),(.own,.sl (.one (.sl FO)))])⟩
theorem Xy:Gz.A:=EJ ⟨Tu,Yr,trivial⟩
def Af:List (Int)×Int×Int→Int×(List (List (Int×Int×Int×Int))):=Gz.V
def MS:List (Int)×Int×Int→Prop:=Gz.O
theorem XA:Gz.B:=Fe ⟨Tt,Ya,trivial⟩ (by kernel_rfl) (fun x=>by kernel_rfl)
def XD:DCode:=(.seq [2,1,0] (.region [oi 0 6 0]) (.seq [6] (.region [on 0 7 0,om 1 8 1,op 2 9 Hw JG PU [(.t 7),(.t 8)],om 3 10 2,op 4 11 Bp CE Dg [(.t 9),(.t 10)],om 5 6 11]) .ret))
def Ff:Fn:=⟨⟨3,12,0,true,[.tmp 6],XD⟩,[.one .frz (.sl (.one (.int .u8))),.one .frz (.int .i64),.one .frz (.int .i64)],.one (.one .own (.int .i64))⟩
theorem S5:Ff.A:=EJ ⟨Tu,DB,trivial⟩
def Al:List (Int)×Int×Int→Int:=Ff.V
def KN:List (Int)×Int×Int→Prop:=Ff.O
theorem S6:Ff.B:=Fe ⟨Tt,DD,trivial⟩ (by kernel_rfl) (fun x=>by kernel_rfl)
end
section
set_option maxRecDepth 100000
theorem YJ (x):GI x=((GJ x.1).1,(GJ x.1).2.1,(iAdd .i64 (GJ x.1).2.2 (iMul .i64 7919 x.2))):=by unfold GI;exact(congrFun (shut _).2 x).trans (by kernel_rfl)
theorem Yw (x):It x=(JC x.1):=by unfold It;exact(congrFun (shut _).2 x).trans (by kernel_rfl)
def EM(x:(List (Int)×Int×Int)×Int):=An ((x.1.1,(An (x.1,56)).2),15)
def Bx(x:(List (Int)×Int×Int)×Int):=Co ((x.1.1,(EM x).2),2)
def CD(x:(List (Int)×Int×Int)×Int):=An ((x.1.1,(bSel (Bx x).1 (Bx x).2.1 (Bx x).2.1),(bSel (Bx x).1 (Bx x).2.2 (Bx x).2.2)),(iMax 1 (iSub .i64 x.2 1)))
def Av(x:(List (Int)×Int×Int)×Int):=An ((x.1.1,(CD x).2),16)
def Jq(x:(List (Int)×Int×Int)×Int):=An ((x.1.1,(Av x).2),4)
def GA(x:(List (Int)×Int×Int)×Int):=An ((x.1.1,(Av x).2),3)
def Js(x:(List (Int)×Int×Int)×Int):=An ((x.1.1,(Av x).2),(iMax 1 x.2))
theorem YO (x):Bj x=(bSel (bAnd (bNot (iEq (Av x).1 0)) (bAnd (bNot (iEq (Av x).1 1)) (bAnd (bNot (bOr (iEq (Av x).1 2) (iEq (Av x).1 3))) (bAnd (bNot (iEq (Av x).1 4)) (bAnd (bNot (iEq (Av x).1 5)) (bAnd (bNot (iEq (Av x).1 6)) (bAnd (bNot (iEq (Av x).1 7)) (bOr (bNot (bOr (iEq (Av x).1 8) (bOr (iEq (Av x).1 9) (iEq (Av x).1 10)))) (bNot (iGt x.2 1)))))))))) ((2,(iAdd .i64 1 (An (x.1,56)).1),0,0),(bSel (bOr (iEq (Av x).1 8) (bOr (iEq (Av x).1 9) (iEq (Av x).1 10))) (Av x).2.1 (Av x).2.1),(bSel (bOr (iEq (Av x).1 8) (bOr (iEq (Av x).1 9) (iEq (Av x).1 10))) (Av x).2.2 (Av x).2.2)) (bSel (iEq (Av x).1 0) ((2,(iAdd .i64 1 (An (x.1,56)).1),(bSel (Bx x).1 2 (iAdd .i64 1 (EM x).1)),0),(Av x).2) (bSel (iEq (Av x).1 1) ((2,0,(bSel (Bx x).1 2 (iAdd .i64 1 (EM x).1)),0),(Av x).2) (bSel (bOr (iEq (Av x).1 2) (iEq (Av x).1 3)) ((6,(iAdd .i64 1 (An (x.1,56)).1),(bSel (Bx x).1 2 (iAdd .i64 1 (EM x).1)),0),(Av x).2) (bSel (iEq (Av x).1 4) ((8,0,(bSel (Bx x).1 2 (iAdd .i64 1 (EM x).1)),0),(Av x).2) (bSel (iEq (Av x).1 5) ((9,0,0,(Jq x).1),(Jq x).2) (bSel (iEq (Av x).1 6) ((10,0,0,0),(Av x).2) (bSel (iEq (Av x).1 7) ((5,0,0,(Js x).1),(Js x).2) ((lGet [(3,0,0,(iAdd .i64 1 (CD x).1)),(4,0,0,(iAdd .i64 1 (CD x).1)),(7,(iAdd .i64 1 (An (x.1,56)).1),0,(iAdd .i64 1 (CD x).1))] (iNat (GA x).1) (0,0,0,0)),(GA x).2))))))))):=by unfold Bj;exact(congrFun (shut _).2 x).trans (by kernel_rfl)
theorem YA (x):Jy x=((Cx (x.1,56))∧((Cx ((x.1.1,(An (x.1,56)).2),15))∧((Is ((x.1.1,(EM x).2),2))∧((Cx ((x.1.1,(bSel (Bx x).1 (Bx x).2.1 (Bx x).2.1),(bSel (Bx x).1 (Bx x).2.2 (Bx x).2.2)),(iMax 1 (iSub .i64 x.2 1))))∧((Cx ((x.1.1,(CD x).2),16))∧(((iEq (Av x).1 0)=true→True)∧((iEq (Av x).1 0)=false→(((iEq (Av x).1 1)=true→True)∧((iEq (Av x).1 1)=false→(((bOr (iEq (Av x).1 2) (iEq (Av x).1 3))=true→True)∧((bOr (iEq (Av x).1 2) (iEq (Av x).1 3))=false→(((iEq (Av x).1 4)=true→True)∧((iEq (Av x).1 4)=false→(((iEq (Av x).1 5)=true→(Cx ((x.1.1,(Av x).2),4)))∧((iEq (Av x).1 5)=false→(((iEq (Av x).1 6)=true→True)∧((iEq (Av x).1 6)=false→(((iEq (Av x).1 7)=true→(Cx ((x.1.1,(Av x).2),(iMax 1 x.2))))∧((iEq (Av x).1 7)=false→(((bOr (iEq (Av x).1 8) (bOr (iEq (Av x).1 9) (iEq (Av x).1 10)))=true→(((iGt x.2 1)=true→((Cx ((x.1.1,(Av x).2),3))∧((((0:Int)≤(GA x).1)∧((GA x).1<(((List.length [(3,0,0,(iAdd .i64 1 (CD x).1)),(4,0,0,(iAdd .i64 1 (CD x).1)),(7,(iAdd .i64 1 (An (x.1,56)).1),0,(iAdd .i64 1 (CD x).1))]):Int))))∧((iNat (GA x).1)<(List.length [(3,0,0,(iAdd .i64 1 (CD x).1)),(4,0,0,(iAdd .i64 1 (CD x).1)),(7,(iAdd .i64 1 (An (x.1,56)).1),0,(iAdd .i64 1 (CD x).1))])))))∧((iGt x.2 1)=false→True)))∧((bOr (iEq (Av x).1 8) (bOr (iEq (Av x).1 9) (iEq (Av x).1 10)))=false→True))))))))))))))))))))):=by unfold Jy;exact(congrFun (shut _).2 x).trans (by kernel_rfl)
def Im(x:(List (Int)×Int×Int)×Int)(x0:(Int×((List (List (Int×(Int×(Int×Int)))))×(Int×Int)))):Bool:=(iLt x0.1 (iAdd .i64 1 (An (x.1,4)).1))
def Fg(x:(List (Int)×Int×Int)×Int)(x1:((List (Int×(Int×(Int×Int))))×(Int×(Int×Int)))):Bool:=(iLt x1.2.1 x.2)
def FT(x:(List (Int)×Int×Int)×Int)(x0:(Int×((List (List (Int×(Int×(Int×Int)))))×(Int×Int))))(x1:((List (Int×(Int×(Int×Int))))×(Int×(Int×Int)))):((List (Int×(Int×(Int×Int))))×(Int×(Int×Int))):=((lApp x1.1 [((bSel (bAnd (iGt x0.1 0) (Co ((x.1.1,(Bj ((x.1.1,x1.2.2),(iAdd .i64 1 (An (x.1,4)).1))).2),3)).1) 1 (Bj ((x.1.1,x1.2.2),(iAdd .i64 1 (An (x.1,4)).1))).1.1),(bSel (bAnd (iGt x0.1 0) (Co ((x.1.1,(Bj ((x.1.1,x1.2.2),(iAdd .i64 1 (An (x.1,4)).1))).2),3)).1) 0 (Bj ((x.1.1,x1.2.2),(iAdd .i64 1 (An (x.1,4)).1))).1.2.1),(bSel (bAnd (iGt x0.1 0) (Co ((x.1.1,(Bj ((x.1.1,x1.2.2),(iAdd .i64 1 (An (x.1,4)).1))).2),3)).1) 0 (Bj ((x.1.1,x1.2.2),(iAdd .i64 1 (An (x.1,4)).1))).1.2.2.1),(bSel (bAnd (iGt x0.1 0) (Co ((x.1.1,(Bj ((x.1.1,x1.2.2),(iAdd .i64 1 (An (x.1,4)).1))).2),3)).1) 0 (Bj ((x.1.1,x1.2.2),(iAdd .i64 1 (An (x.1,4)).1))).1.2.2.2))]),(iAdd .i64 x1.2.1 1),(bSel (bAnd (iGt x0.1 0) (Co ((x.1.1,(Bj ((x.1.1,x1.2.2),(iAdd .i64 1 (An (x.1,4)).1))).2),3)).1) (bSel (iGt x0.1 0) (Co ((x.1.1,(Bj ((x.1.1,x1.2.2),(iAdd .i64 1 (An (x.1,4)).1))).2),3)).2.1 (Bj ((x.1.1,x1.2.2),(iAdd .i64 1 (An (x.1,4)).1))).2.1) (bSel (iGt x0.1 0) (Co ((x.1.1,(Bj ((x.1.1,x1.2.2),(iAdd .i64 1 (An (x.1,4)).1))).2),3)).2.1 (Bj ((x.1.1,x1.2.2),(iAdd .i64 1 (An (x.1,4)).1))).2.1)),(bSel (bAnd (iGt x0.1 0) (Co ((x.1.1,(Bj ((x.1.1,x1.2.2),(iAdd .i64 1 (An (x.1,4)).1))).2),3)).1) (bSel (iGt x0.1 0) (Co ((x.1.1,(Bj ((x.1.1,x1.2.2),(iAdd .i64 1 (An (x.1,4)).1))).2),3)).2.2 (Bj ((x.1.1,x1.2.2),(iAdd .i64 1 (An (x.1,4)).1))).2.2) (bSel (iGt x0.1 0) (Co ((x.1.1,(Bj ((x.1.1,x1.2.2),(iAdd .i64 1 (An (x.1,4)).1))).2),3)).2.2 (Bj ((x.1.1,x1.2.2),(iAdd .i64 1 (An (x.1,4)).1))).2.2)))
def Jr(x:(List (Int)×Int×Int)×Int)(x0:(Int×((List (List (Int×(Int×(Int×Int)))))×(Int×Int)))):(Int×((List (List (Int×(Int×(Int×Int)))))×(Int×Int))):=((iAdd .i64 x0.1 1),(lApp x0.2.1 [(AF (Fg x) (FT x x0) ([],0,x0.2.2)).1]),(AF (Fg x) (FT x x0) ([],0,x0.2.2)).2.2)
def M1(x:(List (Int)×Int×Int)×Int)(x0:(Int×((List (List (Int×(Int×(Int×Int)))))×(Int×Int))))(x1:((List (Int×(Int×(Int×Int))))×(Int×(Int×Int)))):Prop:=(((iLt x1.2.1 x.2)=true→((Jy ((x.1.1,x1.2.2),(iAdd .i64 1 (An (x.1,4)).1)))∧((((iGt x0.1 0)=true→(Is ((x.1.1,(Bj ((x.1.1,x1.2.2),(iAdd .i64 1 (An (x.1,4)).1))).2),3)))∧((iGt x0.1 0)=false→True))∧(Bo (((List.length x1.1)+(List.length [((bSel (bAnd (iGt x0.1 0) (Co ((x.1.1,(Bj ((x.1.1,x1.2.2),(iAdd .i64 1 (An (x.1,4)).1))).2),3)).1) 1 (Bj ((x.1.1,x1.2.2),(iAdd .i64 1 (An (x.1,4)).1))).1.1),(bSel (bAnd (iGt x0.1 0) (Co ((x.1.1,(Bj ((x.1.1,x1.2.2),(iAdd .i64 1 (An (x.1,4)).1))).2),3)).1) 0 (Bj ((x.1.1,x1.2.2),(iAdd .i64 1 (An (x.1,4)).1))).1.2.1),(bSel (bAnd (iGt x0.1 0) (Co ((x.1.1,(Bj ((x.1.1,x1.2.2),(iAdd .i64 1 (An (x.1,4)).1))).2),3)).1) 0 (Bj ((x.1.1,x1.2.2),(iAdd .i64 1 (An (x.1,4)).1))).1.2.2.1),(bSel (bAnd (iGt x0.1 0) (Co ((x.1.1,(Bj ((x.1.1,x1.2.2),(iAdd .i64 1 (An (x.1,4)).1))).2),3)).1) 0 (Bj ((x.1.1,x1.2.2),(iAdd .i64 1 (An (x.1,4)).1))).1.2.2.2))]))*4)))))∧((iLt x1.2.1 x.2)=false→True))
def PE(x:(List (Int)×Int×Int)×Int)(x0:(Int×((List (List (Int×(Int×(Int×Int)))))×(Int×Int)))):Prop:=(((iLt x0.1 (iAdd .i64 1 (An (x.1,4)).1))=true→((LoopOk (Fg x) (FT x x0) (M1 x x0) ([],0,x0.2.2))∧(Bo (((List.length x0.2.1)+(List.length [(AF (Fg x) (FT x x0) ([],0,x0.2.2)).1]))*1))))∧((iLt x0.1 (iAdd .i64 1 (An (x.1,4)).1))=false→True))
theorem YD (x):Cn x=((x.2,(AF (Im x) (Jr x) (0,[],(An (x.1,4)).2)).2.1),(AF (Im x) (Jr x) (0,[],(An (x.1,4)).2)).2.2):=by unfold Cn;exact(congrFun (shut _).2 x).trans (by kernel_rfl)
theorem YI (x):Jx x=((Cx (x.1,4))∧(LoopOk (Im x) (Jr x) (PE x) (0,[],(An (x.1,4)).2))):=by unfold Jx;exact(congrFun (shut _).2 x).trans (by kernel_rfl)
def Jn(x0:(Int×((List (List (Int×(Int×(Int×Int)))))×(Int×Int)))):Bool:=(iGt x0.1 0)
def Jo(x:(List (Int)×Int×Int)×Int)(x0:(Int×((List (List (Int×(Int×(Int×Int)))))×(Int×Int)))):(Int×((List (List (Int×(Int×(Int×Int)))))×(Int×Int))):=((iSub .i64 x0.1 1),(bSel (iGt (lLen x0.2.1) 1) (lSet x0.2.1 (iNat (An ((x.1.1,x0.2.2),(lLen x0.2.1))).1) (lSet (lGet x0.2.1 (iNat (An ((x.1.1,x0.2.2),(lLen x0.2.1))).1) []) (iNat (An ((x.1.1,(An ((x.1.1,x0.2.2),(lLen x0.2.1))).2),x.2)).1) ((EN ((x.1.1,(An ((x.1.1,(An ((x.1.1,x0.2.2),(lLen x0.2.1))).2),x.2)).2),[4,5,3])).1,0,0,(iAdd .i64 1 (An ((x.1.1,(EN ((x.1.1,(An ((x.1.1,(An ((x.1.1,x0.2.2),(lLen x0.2.1))).2),x.2)).2),[4,5,3])).2),(iSub .i64 (lLen x0.2.1) 1))).1)))) x0.2.1),(bSel (iGt (lLen x0.2.1) 1) (An ((x.1.1,(EN ((x.1.1,(An ((x.1.1,(An ((x.1.1,x0.2.2),(lLen x0.2.1))).2),x.2)).2),[4,5,3])).2),(iSub .i64 (lLen x0.2.1) 1))).2.1 (An ((x.1.1,(An ((x.1.1,x0.2.2),(lLen x0.2.1))).2),x.2)).2.1),(bSel (iGt (lLen x0.2.1) 1) (An ((x.1.1,(EN ((x.1.1,(An ((x.1.1,(An ((x.1.1,x0.2.2),(lLen x0.2.1))).2),x.2)).2),[4,5,3])).2),(iSub .i64 (lLen x0.2.1) 1))).2.2 (An ((x.1.1,(An ((x.1.1,x0.2.2),(lLen x0.2.1))).2),x.2)).2.2))
def PB(x:(List (Int)×Int×Int)×Int)(x0:(Int×((List (List (Int×(Int×(Int×Int)))))×(Int×Int)))):Prop:=(((iGt x0.1 0)=true→((Cx ((x.1.1,x0.2.2),(lLen x0.2.1)))∧((Cx ((x.1.1,(An ((x.1.1,x0.2.2),(lLen x0.2.1))).2),x.2))∧(((iGt (lLen x0.2.1) 1)=true→((((0:Int)≤(An ((x.1.1,x0.2.2),(lLen x0.2.1))).1)∧((An ((x.1.1,x0.2.2),(lLen x0.2.1))).1<(((List.length x0.2.1):Int))))∧((((iNat (An ((x.1.1,x0.2.2),(lLen x0.2.1))).1)<(List.length x0.2.1))∧((iNat (An ((x.1.1,x0.2.2),(lLen x0.2.1))).1)<(List.length x0.2.1)))∧((Jp ((x.1.1,(An ((x.1.1,(An ((x.1.1,x0.2.2),(lLen x0.2.1))).2),x.2)).2),[4,5,3]))∧((Cx ((x.1.1,(EN ((x.1.1,(An ((x.1.1,(An ((x.1.1,x0.2.2),(lLen x0.2.1))).2),x.2)).2),[4,5,3])).2),(iSub .i64 (lLen x0.2.1) 1)))∧((((0:Int)≤(An ((x.1.1,(An ((x.1.1,x0.2.2),(lLen x0.2.1))).2),x.2)).1)∧((An ((x.1.1,(An ((x.1.1,x0.2.2),(lLen x0.2.1))).2),x.2)).1<(((List.length (lGet x0.2.1 (iNat (An ((x.1.1,x0.2.2),(lLen x0.2.1))).1) [])):Int))))∧(((iNat (An ((x.1.1,x0.2.2),(lLen x0.2.1))).1)<(List.length x0.2.1))∧((iNat (An ((x.1.1,(An ((x.1.1,x0.2.2),(lLen x0.2.1))).2),x.2)).1)<(List.length (lGet x0.2.1 (iNat (An ((x.1.1,x0.2.2),(lLen x0.2.1))).1) []))))))))))∧((iGt (lLen x0.2.1) 1)=false→True)))))∧((iGt x0.1 0)=false→True))
theorem Yk (x):Iq x=(((Cn x).1.1,(AF Jn (Jo x) ((An ((x.1.1,(Cn x).2),6)).1,(Cn x).1.2,(An ((x.1.1,(Cn x).2),6)).2)).2.1),(AF Jn (Jo x) ((An ((x.1.1,(Cn x).2),6)).1,(Cn x).1.2,(An ((x.1.1,(Cn x).2),6)).2)).2.2):=by unfold Iq;exact(congrFun (shut _).2 x).trans (by kernel_rfl)
theorem Yg (x):Ju x=((Jx x)∧((Cx ((x.1.1,(Cn x).2),6))∧(LoopOk Jn (Jo x) (PB x) ((An ((x.1.1,(Cn x).2),6)).1,(Cn x).1.2,(An ((x.1.1,(Cn x).2),6)).2)))):=by unfold Ju;exact(congrFun (shut _).2 x).trans (by kernel_rfl)
theorem XE (x):Af x=(Iq ((GI (x.1,x.2.1)),x.2.2)).1:=(Gz.v x).trans (by kernel_rfl)
theorem XG (x):MS x=((It (x.1,x.2.1))∧(Ju ((GI (x.1,x.2.1)),x.2.2))):=(Gz.o x).trans (by kernel_rfl)
theorem XC (x):Al x=(An ((GI (x.1,x.2.1)),x.2.2)).1:=(Ff.v x).trans (by kernel_rfl)
theorem Xz (x):KN x=((It (x.1,x.2.1))∧(Cx ((GI (x.1,x.2.1)),x.2.2))):=(Ff.o x).trans (by kernel_rfl)
attribute [irreducible] Af MS Al KN
end
theorem Cd(a:Bool):bNot a=!a:=by simp only[Ks]
theorem BH(a b:Bool):bAnd a b=(a&&b):=by simp only[RL]
theorem CV(a b:Bool):bOr a b=(a||b):=by simp only[Xn]
theorem fv(a b:Bool):bIff a b=(a == b):=by simp only[Wz]
theorem Ce{α:Type}(c:Bool)(x y:α):bSel c x y=if c=true then x else y:=by cases c<;>simp[Ha,G2]
theorem Ga(a b:Int):iEq a b=decide (a=b):=by
 rw[Pq];by_cases h:a=b<;>simp[h]
theorem G9(a b:Int):iNe a b=!decide (a=b):=by
 rw[W9];by_cases h:a=b<;>simp[h]
theorem Bs(a b:Int):iLt a b=decide (a<b):=by simp only[Xe]
theorem O1(a b:Int):iLe a b=decide (a≤b):=by simp only[W8]
theorem D4(a b:Int):iGt a b=decide (b<a):=by simp only[Xj]
theorem Gg(a b:Int):iGe a b=decide (b≤a):=by simp only[Xf]
theorem fW(a b:List UInt8):sEq a b=(a == b):=by simp only[Xd]
theorem gx(a b:List UInt8):sNe a b=!(a == b):=by simp only[Xg]
section
variable {α:Type}
theorem Bv(l:List α):lLen l=(l.length:Int):=by simp only[RF]
theorem ir(l:List α):lN l=l.length:=by simp only[MF]
theorem CC(l:List α)(j:Nat)(d:α):lGet l j d=l.getD j d:=by simp only[Ki]
theorem Rh(l:List α)(j:Nat)(x:α):lSet l j x=l.set j x:=by simp only[LX]
theorem e8(l:List α)(a b:Nat):lSub l a b=(l.drop a).take (b-a):=by simp only[R4]
theorem dy(l:List α)(n:Nat):lTake l n=l.take n:=by simp only[Re]
theorem Ry(l m:List α):lApp l m=l++m:=by simp only[IX]
theorem fg(n:Int)(x:α):lRep n x=List.replicate n.toNat x:=by simp only[WN]
theorem Bq(a:Int):iNat a=a.toNat:=by simp only[RY]
theorem e9(a b:List UInt8):sAdd a b=a++b:=by simp only[WW]
end
def Bd(n:Int):Prop:=-9223372036854775808≤n∧n≤9223372036854775807
theorem Od{n:Int}(h:Bd n):IntKind.i64.wrap n=n:=by
 obtain⟨h1,h2⟩:=h;show (if decide (n % 18446744073709551616≥9223372036854775808)=true then n % 18446744073709551616-18446744073709551616 else n % 18446744073709551616)=n;simp only[A7];split<;>omega
theorem C4{a b:Int}(h:Bd (a+b)):iAdd .i64 a b=a+b:=by rw[W1];exact Od h
theorem Eg{a b:Int}(h:Bd (a-b)):iSub .i64 a b=a-b:=by rw[Ww];exact Od h
theorem QQ{a b:Int}(h:Bd (a*b)):iMul .i64 a b=a*b:=by rw[Wv];exact Od h
theorem VW{a b:Int}(ha:0≤a):iRem a b=a % b:=by rw[WI];exact Int.tmod_eq_emod_of_nonneg ha
section
variable {X:Type} {c:X→Bool} {f:X→X} {p:X→Prop}
theorem IH(I:X→Prop)(m:X→Nat)(h:∀ x,I x→p x∧(c x=true→I (f x)∧m (f x)<m x)){x0:X}(h0:I x0) :
 LoopOk c f p x0∧I (AF c f x0)∧c (AF c f x0)=false:=by
 have go:∀ (n:Nat) (x:X),m x<n→I x→∃ y,LoopTo c f p x y∧I y∧c y=false:=by
  intro n
  induction n with
  |zero=>intro x hm;exact absurd hm (Nat.not_lt_zero _)
  | succ n ih=>
    intro x hm hI;obtain⟨h1,h2⟩:=h x hI
    cases hc:c x with
    |false=>exact⟨x,.stop h1 hc,hI,hc⟩
    | true=>
      obtain⟨h3,h4⟩:=h2 hc;obtain⟨y,h5,h6,h7⟩:=ih (f x) (by omega) h3;exact⟨y,.go h1 hc h5,h6,h7⟩
 obtain⟨y,h1,h2,h3⟩:=go _ x0 (Nat.lt_succ_self _) h0
 rw[h1.val]
 exact⟨⟨y,h1⟩,h2,h3⟩
theorem UC(I:X→Prop)(m:X→Nat)(h:∀ x,I x→c x=true→I (f x)∧m (f x)<m x){x0:X}(h0:I x0):I (AF c f x0)∧c (AF c f x0)=false:=
 (IH (p:=fun _=>True) I m (fun x hx=>⟨trivial,h x hx⟩) h0).2
theorem Vg(n:Nat)(st:Nat→X){x0:X}(h0:st 0=x0)(hs:∀ k,k<n→p (st k)∧c (st k)=true∧f (st k)=st (k+1))(he:p (st n)∧c (st n)=false):LoopOk c f p x0∧AF c f x0=st n:=by
 have go:∀ k,k≤n→LoopTo c f p (st (n-k)) (st n):=by
  intro k
  induction k with
  |zero=>intro _;exact .stop he.1 he.2
  | succ k ih=>
    intro hk;obtain⟨h1,h2,h3⟩:=hs (n-(k+1)) (by omega);refine .go h1 h2 ?_;rw[h3,show n-(k+1)+1=n-k by omega];exact ih (by omega)
 have:=go n (A8 _);rw[Nat.sub_self,h0] at this;exact⟨⟨_,this⟩,this.val⟩
end
def CS(t:Nat→Bool):Nat→Nat→Nat
 |0,i=>i
 |k+1,i=>if t i then i else CS t k (i+1)
theorem NQ(t:Nat→Bool):∀ k i,i≤CS t k i∧CS t k i≤i+k
 |0,i=>⟨A8 _,A8 _⟩
 | k+1,i=>by
   unfold CS
   split
   · omega
   · have:=NQ t k (i+1);omega
theorem Qk(t:Nat→Bool):∀ k i,CS t k i<i+k→t (CS t k i)=true
 |0,i,h=>by unfold CS at h;omega
 | k + 1,i,h=>by
   unfold CS at h ⊢
   split
   · rename_i ht;exact ht
   · rename_i ht
     rw[Ae ht] at h
     exact Qk t k (i+1) (by omega)
theorem Qd(t:Nat→Bool):∀ k i j,i≤j→j<CS t k i→t j=false
 |0,i,j,h,h'=>by unfold CS at h';omega
 | k + 1,i,j,h,h'=>by
   unfold CS at h'
   split at h'
   · omega
   · rename_i ht
     by_cases hj:j=i
     · subst hj;simpa using ht
     · exact Qd t k (i+1) j (by omega) h'
theorem bJ{c:Int→Bool}{f:Int→Int}{p:Int→Prop}(n:Nat)(t:Nat→Bool)(hn:(n:Int)≤9223372036854775806)(hc:∀ i:Nat,i≤n→c i=(decide (i<n)&&!t i))(hf:∀ i:Nat,i<n→f i=iAdd .i64 i 1)(hp:∀ i:Nat,i≤n→p i) :
 LoopOk c f p 0∧AF c f 0=(CS t n 0:Nat):=by
 have hle:=NQ t n 0
 refine Vg (CS t n 0) (fun k=>(k:Int)) rfl (fun k hk=>?_) ⟨hp _ (by omega),?_⟩
 · have hk':k<n:=by omega
   refine⟨hp k (by omega),?_,?_⟩
   · rw[hc k (by omega),Qd t n 0 k (by omega) hk];simp[hk']
   · rw[hf k hk',C4 (by unfold Bd;omega)];omega
 · rw[hc _ (by omega)]
   by_cases h:CS t n 0<n
   · rw[Qk t n 0 (by omega)];simp
   · simp[h]
theorem Z1{t:Nat→Bool}{n:Nat}:CS t n 0=n↔∀ i,i<n→t i=false:=by
 constructor
 · intro h i hi;exact Qd t n 0 i (by omega) (by omega)
 · intro h;have hle:=NQ t n 0;rcases Be (CS t n 0) n with h1|h1
   · have:=Qk t n 0 (by omega);rw[h _ h1] at this;cases this
   · omega
theorem gp{c:Int→Bool}{f:Int→Int}(n:Nat)(t:Nat→Bool)(hn:(n:Int)≤9223372036854775806)(hc:∀ i:Nat,i≤n→c i=(decide (i<n)&&!t i))(hf:∀ i:Nat,i<n→f i=iAdd .i64 i 1):AF c f 0=(CS t n 0:Nat):=(bJ (p:=fun _=>True) n t hn hc hf (fun _ _=>trivial)).2
theorem Lt{α:Type}(x:List α)(i:Nat)(d:α)(h:i<x.length):x.getD i d∈x:=by
 rw[Gc,AX h];exact HU h
theorem Sl{X:Type}{c:X→Bool}{f:X→X}{p:X→Prop}(ix:X→Int)(n:Int)(hn:n≤9223372036854775806)(hc:∀ x,0≤ix x→ix x≤n→c x=true→ix x<n)(hf:∀ x,ix (f x)=iAdd .i64 (ix x) 1)(hp:∀ x,0≤ix x→ix x≤n→p x){x0:X}(h0:0≤ix x0)(h1:ix x0≤n):LoopOk c f p x0:=by
 refine(IH (fun x=>0≤ix x∧ix x≤n) (fun x=>(n-ix x).toNat) (fun x hI=>⟨hp x hI.1 hI.2,fun hcc=>?_⟩) ⟨h0,h1⟩).1;have:=hc x hI.1 hI.2 hcc;obtain⟨k1,k2⟩:=hI;have e:=hf x;rw[C4 (by unfold Bd;omega)] at e;refine⟨by omega,by omega⟩
theorem VA{c:Int→Bool}{f:Int→Int}{n:Nat}(h:¬ AF c f 0<(n:Int))(hn:(n:Int)≤9223372036854775806)(hc:∀ i:Nat,i≤n→c i=true→i<n)(hf:∀ i:Nat,i<n→f i=iAdd .i64 i 1):∀ i:Nat,i<n→c i=true:=by
 have hv:=gp (c:=c) (f:=f) n (fun i=>!c i) hn (fun i hi=>by
  by_cases h1:i<n
  · simp[h1]
  · cases h2:c i with
    |false=>simp[h1]
    |true=>exact absurd (hc i hi h2) h1) hf
 rw[hv] at h;have hle:=NQ (fun i=>!c i) n 0
 have e:CS (fun i=>!c i) n 0=n:=by omega
 intro i hi;have:=Z1.1 e i hi;simpa using this
def Bytes(x:List Int):Prop:=∀ a∈x,0≤a∧a<256
theorem Bytes.get{x:List Int}(h:Bytes x)(i:Nat):∃ n:Nat,n<256∧x.getD i 0=(n:Int):=by
 by_cases hi:i<x.length
 · obtain⟨h0,h1⟩:=h _ (Lt x i 0 hi);exact⟨(x.getD i 0).toNat,by omega,by omega⟩
 · exact⟨0,by omega,by rw[Gc,A4 (by omega)];rfl⟩
theorem Bytes.of{x:List Int}(h:CT.wf (.sl (.one (.int .u8))) x):Bytes x:=by
 intro a ha;have:=h.2 a ha;simp only[RT.wf,CT.wf] at this
 have h:IntKind.u8.min≤a∧a≤IntKind.u8.max:=by simpa [Lit.wf] using this
 have e1:IntKind.u8.min=0:=by decide
 have e2:IntKind.u8.max=255:=by decide
 rw[e1,e2] at h;omega
def BA(c:List Int×Int×Int):Prop:=0≤c.2.1∧c.2.1≤c.1.length∧c.1.length≤1048576
theorem OT(x:Int):0≤iAnd .i64 x 255∧iAnd .i64 x 255≤255:=by
 rw[WX]
 have h:(BitVec.ofInt IntKind.i64.bits x &&& BitVec.ofInt IntKind.i64.bits 255).toNat≤255:=by
  rw[BitVec.toNat_and];exact Nat.and_le_right
 have:IntKind.i64.wrap ((BitVec.ofInt IntKind.i64.bits x &&& BitVec.ofInt IntKind.i64.bits 255).toNat:Int)=((BitVec.ofInt IntKind.i64.bits x &&& BitVec.ofInt IntKind.i64.bits 255).toNat:Int):=Od (by unfold Bd;omega);rw[this];omega
theorem Ov(c:List Int×Int×Int)(h:BA c):FU c∧0≤(Ba c).1∧(Ba c).1≤255∧BA (c.1,(Ba c).2):=by
 obtain⟨h1,h2,h3⟩:=h;rw[YR,YK];simp only[Ce,Bs,Bv,Bq,A7,Cf];refine⟨⟨by omega,by omega,fun _=>by omega,fun _=>trivial⟩,?_,?_,?_⟩
 · split
   · exact(OT _).1
   · exact(OT _).1
 · split
   · exact(OT _).2
   · exact(OT _).2
 · unfold BA;simp only;split
   · rw[C4 (by unfold Bd;omega)];omega
   · omega
theorem DH(c:List Int×Int×Int)(n:Int)(h:BA c):Cx (c,n)∧BA (c.1,(An (c,n)).2)∧(n≤0→(An (c,n)).1=0)∧(0<n→0≤(An (c,n)).1∧(An (c,n)).1<n):=by
 rw[Yn,Ye];obtain⟨a1,a2,a3,a4⟩:=Ov c h;obtain⟨b1,b2,b3,b4⟩:=Ov _ a4;obtain⟨c1,c2,c3,c4⟩:=Ov _ b4;obtain⟨d1,d2,d3,d4⟩:=Ov _ c4;simp only at b1 b2 b3 b4 c1 c2 c3 c4 d1 d2 d3 d4 ⊢;simp only[Ce,O1,A7,Cf];by_cases hn:n≤0
 · simp only[Ab hn];exact⟨⟨fun _=>trivial,fun h=>absurd hn h⟩,h,fun _=>trivial,fun h=>by omega⟩
 · simp only[Ae hn];by_cases hm:n≤256
   · simp only[Ab hm];refine⟨⟨fun h=>absurd h hn,fun _=>⟨fun _=>⟨a1,by omega⟩,fun h=>absurd hm h⟩⟩,a4,fun h=>absurd h hn,fun _=>?_⟩;rw[VW a2];exact⟨Int.emod_nonneg _ (by omega),Int.emod_lt_of_pos _ (by omega)⟩
   · simp only[Ae hm];refine⟨⟨fun h=>absurd h hn,fun _=>⟨fun h=>absurd h hm,fun _=>⟨a1,b1,c1,d1,by omega⟩⟩⟩,d4,fun h=>absurd h hn,fun _=>?_⟩;generalize (Ba c).1=p at a2 a3;generalize (Ba (c.1,(Ba c).2)).1=q at b2 b3;generalize (Ba (c.1,(Ba (c.1,(Ba c).2)).2)).1=r at c2 c3;generalize (Ba (c.1,(Ba (c.1,(Ba (c.1,(Ba c).2)).2)).2)).1=s at d2 d3;rw[QQ (a:=p) (by unfold Bd;omega),QQ (a:=q) (by unfold Bd;omega),QQ (a:=r) (by unfold Bd;omega),C4 (a:=p*16777216) (by unfold Bd;omega),C4 (a:=p*16777216+q*65536) (by unfold Bd;omega),C4 (a:=p*16777216+q*65536+r*256) (by unfold Bd;omega),VW (by omega)];exact⟨Int.emod_nonneg _ (by omega),Int.emod_lt_of_pos _ (by omega)⟩
theorem V0(c:List Int×Int×Int)(n:Int)(h:BA c):Is (c,n)∧BA (c.1,(Co (c,n)).2):=by
 obtain⟨a1,a2,_⟩:=DH c n h;rw[Yy,Yx];exact⟨a1,a2⟩
theorem eD(c:List Int×Int×Int)(l:List Int)(hl:0<l.length)(h:BA c):Jp (c,l)∧BA (c.1,(EN (c,l)).2)∧(EN (c,l)).1∈l:=by
 obtain⟨a1,a2,_,a4⟩:=DH c (lLen l) h;rw[XK,XN];have a4:=a4 (by rw[Bv];omega);simp only;generalize (An (c,lLen l)).1=i at a4 ⊢;rw[Bv] at a4;refine⟨⟨a1,a4,by rw[Bq];omega⟩,a2,?_⟩;rw[CC,Bq];exact Lt l _ _ (by omega)
theorem ga(x:List Int)(h:x.length≤1048576):JC x∧BA (GJ x)∧(GJ x).1=x:=by
 rw[YX,Za];refine⟨?_,⟨by simp,by simp,h⟩,rfl⟩;refine Sl (fun st=>st.2) x.length (by omega) (fun st _ _ hc=>?_) (fun _=>rfl) (fun st h0 h1=>?_) (by simp) (by simp)
 · unfold PM at hc;simp only[BH,Bs,Bv,Ah,A7] at hc;exact hc.1
 · unfold Ti;refine⟨fun hc=>?_,fun _=>trivial⟩;simp only[BH,Bs,Bv,Ah,A7] at hc;rw[Bq];omega
theorem fU(x:List Int):JM x=decide (1048576<x.length)∧NF x:=by
 rw[ZI,ZR];refine⟨?_,trivial⟩;rw[D4,Bv];congr 1;exact propext (by omega)
theorem aa(x:Int×Int×Int×Int):Io x=EO x:=by
 simp only[Io,S9,Cp,Tm,Ts,Tg,Cd,BH,CV,fv,Ce,Ga,G9,Bs,O1,D4,Gg,fW,gx,Bv,ir,CC,Rh,e8,dy,Ry,fg,Bq,e9];rw[SA]
 repeat' split
 all_goals simp only[Ah,B3,BU,CZ,H5,Cj,A7,Cf,G5,My,AD,LB] at *
 all_goals omega
theorem XB(x:Int×Int×Int×Int):PH x:=by
 have h:∀ y,Fj y:=fun y=>by rw[Fj];trivial
 rw[PH];simp[h]
theorem XH(x:Int×Int×Int×Int):MT x:=by
 have h1:∀ y,Jw y:=fun y=>by rw[Yz];trivial
 have h2:∀ y,Ir y:=fun y=>by rw[Yu];trivial
 have h3:∀ y,KQ y:=fun y=>by rw[Yi];trivial
 rw[XQ];simp[h1,h2,h3]
theorem OG(a b c:Int):Cp (a,b,c)=(decide (b≤a)&&decide (a≤c)):=by rw[Cp];simp only[BH,Gg,O1]
theorem Rp (x):Fj x:=by rw[Fj];trivial
def U1(_:Int×Int×Int×Int):Prop:=True
def Ku(a:Int×Int×Int×Int):Prop:=EO a=true∧a.1≠1
theorem En(k c m n:Int):EO (k,c,m,n)=true ↔
 ((k=0∨k=1∨k=10)∧c=0∧m=0∧n=0)∨(k=2∧n=0∧0≤c∧c≤56∧0≤m∧m≤15∧(c≠0∨m≠0))∨((k=3∨k=4)∧c=0∧m=0∧1≤n∧n≤3)∨((k=5∨k=9)∧c=0∧m=0∧0≤n∧n≤3) ∨
 (k=6∧1≤c∧c≤56∧1≤m∧m≤15∧n=0)∨(k=7∧1≤c∧c≤56∧m=0∧1≤n∧n≤3)∨(k=8∧c=0∧1≤m∧m≤15∧n=0):=by
 rw[S9]
 simp only[Ce,CV,BH,Ga,G9,Tm,Ts,Tg,Gg,O1]
 repeat' split
 all_goals simp only[Ah,B3,BU,CZ,H5,Cj,A7,Cf,G5,My,AD,LB,EZ,G5,decide_not] at *
 all_goals omega
theorem fu(c:List Int×Int×Int)(n:Int)(h:BA c)(n1:1≤n)(n4:n≤4):Jy (c,n)∧BA (c.1,(Bj (c,n)).2)∧Ku (Bj (c,n)).1∧((Bj (c,n)).1.1≠9→(Bj (c,n)).1.2.2.2<n):=by
 rw[YA,YO]
 obtain⟨m,em,m1,m3,mn⟩:∃ m,iMax 1 (iSub .i64 n 1)=m∧1≤m∧m≤3∧(1<n→m=n-1):=by
  refine⟨_,rfl,?_⟩;rw[Eg (by unfold Bd;omega),RZ];split<;>omega
 have em':iMax 1 n=n:=by rw[RZ];split<;>omega
 obtain⟨a1,a2,_,a4⟩:=DH c 56 h;have a4:=a4 (by omega);obtain⟨b1,b2,_,b4⟩:=DH _ 15 a2;have b4:=b4 (by omega);change BA (c.1,(EM (c,n)).2) at b2;change 0≤(EM (c,n)).1∧(EM (c,n)).1<15 at b4;obtain⟨c1,c2⟩:=V0 _ 2 b2;change BA (c.1,(Bx (c,n)).2) at c2
 have hc2:BA (c.1,(bSel (Bx (c,n)).1 (Bx (c,n)).2.1 (Bx (c,n)).2.1),(bSel (Bx (c,n)).1 (Bx (c,n)).2.2 (Bx (c,n)).2.2)):=by
  simp only[Ce,ite_self];exact c2
 obtain⟨d1,d2,_,d4⟩:=DH _ (iMax 1 (iSub .i64 n 1)) hc2;change BA (c.1,(CD (c,n)).2) at d2
 have d4:0≤(CD (c,n)).1∧(CD (c,n)).1<m:=by
  have:=d4 (by rw[em];omega);rw[em] at this
  have e:CD (c,n)=An ((c.1,(bSel (Bx (c,n)).1 (Bx (c,n)).2.1 (Bx (c,n)).2.1),(bSel (Bx (c,n)).1 (Bx (c,n)).2.2 (Bx (c,n)).2.2)),m):=by unfold CD;rw[em]
  rw[e];exact this
 obtain⟨e1,e2,_,e4⟩:=DH _ 16 d2;have e4:=e4 (by omega);change BA (c.1,(Av (c,n)).2) at e2;change 0≤(Av (c,n)).1∧(Av (c,n)).1<16 at e4;obtain⟨f1,f2,_,f4⟩:=DH _ 4 e2;have f4:=f4 (by omega);change BA (c.1,(Jq (c,n)).2) at f2;change 0≤(Jq (c,n)).1∧(Jq (c,n)).1<4 at f4;obtain⟨g1,g2,_,g4⟩:=DH _ 3 e2;have g4:=g4 (by omega);change BA (c.1,(GA (c,n)).2) at g2;change 0≤(GA (c,n)).1∧(GA (c,n)).1<3 at g4;obtain⟨i1,i2,_,i4⟩:=DH _ (iMax 1 n) e2;have i4:=i4 (by rw[em'];omega);change BA (c.1,(Js (c,n)).2) at i2;change 0≤(Js (c,n)).1∧(Js (c,n)).1<iMax 1 n at i4;rw[em'] at i4
 have hM:1≤bSel (Bx (c,n)).1 2 (iAdd .i64 1 (EM (c,n)).1)∧bSel (Bx (c,n)).1 2 (iAdd .i64 1 (EM (c,n)).1)≤15:=by
  rw[Ce,C4 (by unfold Bd;omega)];split<;>omega
 have hC:1≤iAdd .i64 1 (An (c,56)).1∧iAdd .i64 1 (An (c,56)).1≤56:=by rw[C4 (by unfold Bd;omega)];omega
 have hN:1≤iAdd .i64 1 (CD (c,n)).1∧iAdd .i64 1 (CD (c,n)).1≤m:=by rw[C4 (by unfold Bd;omega)];omega
 refine⟨?_,?_⟩
 · refine⟨a1,b1,c1,d1,e1,fun _=>trivial,fun _=>⟨fun _=>trivial,fun _=>⟨fun _=>trivial,fun _=>⟨fun _=>trivial,fun _=>⟨fun _=>f1,fun _=>⟨fun _=>trivial,fun _=>⟨fun _=>i1,fun _=>⟨fun _=>⟨fun _=>⟨g1,?_,?_⟩,fun _=>trivial⟩,fun _=>trivial⟩⟩⟩⟩⟩⟩⟩⟩
   · simp only[Bu,Br];omega
   · simp only[Bu,Br,Bq];omega
 generalize bSel (Bx (c,n)).1 2 (iAdd .i64 1 (EM (c,n)).1)=M at hM ⊢;generalize iAdd .i64 1 (An (c,56)).1=C at hC ⊢;generalize iAdd .i64 1 (CD (c,n)).1=N at hN ⊢;generalize Js (c,n)=s7 at i2 i4 ⊢;generalize GA (c,n)=s6 at g2 g4 ⊢;generalize Jq (c,n)=s5 at f2 f4 ⊢;generalize Av (c,n)=s4 at e2 e4 ⊢
 have hL:1<n→Ku (lGet [(3,0,0,N),(4,0,0,N),(7,C,0,N)] (iNat s6.1) (0,0,0,0))∧(lGet [(3,0,0,N),(4,0,0,N),(7,C,0,N)] (iNat s6.1) (0,0,0,0):Int×Int×Int×Int).2.2.2<n:=by
  intro hn;have:=mn hn;rw[CC,Bq]
  have:s6.1=0∨s6.1=1∨s6.1=2:=by omega
  rcases this with e|e|e
  · rw[e];exact⟨⟨(En 3 0 0 N).2 (by omega),by simp⟩,by show N<n;omega⟩
  · rw[e];exact⟨⟨(En 4 0 0 N).2 (by omega),by simp⟩,by show N<n;omega⟩
  · rw[e];exact⟨⟨(En 7 C 0 N).2 (by omega),by simp⟩,by show N<n;omega⟩
 generalize lGet [(3,0,0,N),(4,0,0,N),(7,C,0,N)] (iNat s6.1) (0,0,0,0)=L at hL ⊢
 have g:∀ (b:Bool) (p q:(Int×Int×Int×Int)×Int×Int),(BA (c.1,p.2)∧Ku p.1∧(p.1.1≠9→p.1.2.2.2<n))→(b=false→BA (c.1,q.2)∧Ku q.1∧(q.1.1≠9→q.1.2.2.2<n))→BA (c.1,(bSel b p q).2)∧Ku (bSel b p q).1∧((bSel b p q).1.1≠9→(bSel b p q).1.2.2.2<n):=fun b p q hp hq=>by
  rw[Ce];cases b
  · exact hq rfl
  · exact hp
 have hA:∀ (k c m z:Int),EO (k,c,m,z)=true→k≠1→(k≠9→z<n)→Ku (k,c,m,z)∧(k≠9→z<n):=fun k c m z h1 h2 h3=>⟨⟨h1,h2⟩,h3⟩
 refine g _ _ _ ⟨?_,hA _ _ _ _ ((En _ _ _ _).2 (by omega)) (by omega) (by omega)⟩ fun q0=>g _ _ _ ⟨e2,hA _ _ _ _ ((En _ _ _ _).2 (by omega)) (by omega) (by omega)⟩ fun q1=>g _ _ _ ⟨e2,hA _ _ _ _ ((En _ _ _ _).2 (by omega)) (by omega) (by omega)⟩ fun q2=>g _ _ _ ⟨e2,hA _ _ _ _ ((En _ _ _ _).2 (by omega)) (by omega) (by omega)⟩ fun q3=>g _ _ _ ⟨e2,hA _ _ _ _ ((En _ _ _ _).2 (by omega)) (by omega) (by omega)⟩ fun q4=>g _ _ _ ⟨f2,hA _ _ _ _ ((En _ _ _ _).2 (by omega)) (by omega) (fun h=>absurd rfl h)⟩ fun q5=>g _ _ _ ⟨e2,hA _ _ _ _ ((En _ _ _ _).2 (by omega)) (by omega) (by omega)⟩ fun q6=>g _ _ _ ⟨i2,hA _ _ _ _ ((En _ _ _ _).2 (by omega)) (by omega) (by omega)⟩ fun q7=>?_
 · simp only[Ce,ite_self];exact e2
 · have hn:1<n:=by
    simp only[BH,Cd,q1,q2,q3,q4,q5,q6,q7,Bool.not_false,Km,CV,D4,Cj,CZ,A7] at q0;exact q0.2
   exact⟨g2,(hL hn).1,fun _=>(hL hn).2⟩
def aK(x:List (Int×Int×Int×Int)):Prop:=x.length≤1048576∧∀ a∈x,U1 a
def P6(x:List (List (Int×Int×Int×Int))):Prop:=x.length≤1048576∧∀ a∈x,aK a
def IE(x:Int×(List (List (Int×Int×Int×Int)))):Prop:=P6 x.2∧True
theorem T5(x:Int×List (List (Int×Int×Int×Int))):Ip x=Ea x:=by
 rw[Ip,PF,OG,OG]
 have inner:∀ (i a n:Int) (A B:Bool),bNot (bOr A (bSel (iEq a 1) (bOr (iEq i 0) B) B))=bNot (bOr A (bSel (iEq i 0) (bOr (iEq a 1) B) B)):=by
  intro i a n A B;simp only[Cd,CV,Ce,Ga];by_cases h1:a=1<;>by_cases h2:i=0<;>simp[h1,h2]
 simp only[aa,fun i a A B=>inner i a 0 A B];generalize bNot (iLt (AF _ _ _) (lLen x.2))=L;rw[SA];simp only[BH,Cd,CV,Bs,D4,Bv,Ah,B3,BU,CZ,H5,Cj,A7,Cf,G5,My,AD,LB];cases L<;>simp<;>omega
theorem Zg(x:Int×List (List (Int×Int×Int×Int)))(h:IE x):PG x∧MW x:=by
 obtain⟨k,x⟩:=x;have h:P6 x:=h.1;rw[PG,XP]
 have inl:∀ i:Int,0≤i→i<x.length→(lGet x (iNat i) []).length≤1048576:=fun i h0 hi=>by
  rw[CC,Bq];exact(h.2 _ (Lt x i.toNat [] (by omega))).1
 refine⟨⟨?_,fun _=>trivial,fun _=>⟨Rp _,fun _=>Rp _,fun _=>trivial⟩⟩,fun _=>trivial,fun _=>?_⟩
 all_goals
  refine Sl (fun st=>st) x.length (by have:=h.1;omega) (fun st _ _ hc=>?_) (fun st=>rfl) (fun st h0 h1=>?_) (by simp) (by simp)
  · rw[BH,Bs st,Bv,Ah,A7] at hc
    exact hc.1
  · refine⟨fun hlt=>?_,fun _=>trivial⟩
    rw[Bs,Bv,A7] at hlt;have hlt:st<(x.length:Int):=hlt
    have h3:iNat st<x.length:=by rw[Bq];omega
    have hl:=inl st h0 hlt;refine⟨⟨h0,hlt⟩,h3,fun _=>trivial,fun _=>?_⟩;refine Sl (fun st=>st) (lGet x (iNat st) []).length (by omega) (fun j _ _ hc=>?_) (fun st=>rfl) (fun j j0 j1=>?_) (by simp) (by simp)
    · rw[BH,Bs j,Bv,Ah,A7] at hc;exact hc.1
    · have fin:iLt j (lLen (lGet x (iNat st) []))=true→j<((lGet x (iNat st) []).length:Int)∧iNat j<(lGet x (iNat st) []).length:=fun hj=>by
       rw[Bs,Bv,A7] at hj;exact⟨hj,by rw[Bq];omega⟩
      first
       |exact⟨⟨h0,hlt⟩,h3,fun hj=>⟨⟨h0,hlt⟩,h3,⟨j0,(fin hj).1⟩,(fin hj).2,XB _⟩,fun _=>trivial⟩
       |exact⟨fun hj=>⟨⟨j0,(fin hj).1⟩,(fin hj).2,XH _⟩,fun _=>trivial⟩
structure MapOk (k:Int) (x:List (List (Int×Int×Int×Int))):Prop where
 k1:1≤k
 k2:k≤32
 l1:1≤x.length
 l2:x.length≤4
 row:∀ i:Nat,i<x.length→((x.getD i []).length:Int)=k
 act:∀ i j:Nat,i<x.length→j<(x.getD i []).length→EO ((x.getD i []).getD j (0,0,0,0))=true∧(i=0→((x.getD i []).getD j (0,0,0,0)).1≠1)∧(((x.getD i []).getD j (0,0,0,0)).1≠9→((x.getD i []).getD j (0,0,0,0)).2.2.2<x.length)
theorem K6{k:Int}{x:List (List (Int×Int×Int×Int))}(hs:IE (k,x))(h:Ea (k,x)=true):MapOk k x:=by
 rw[PF,BH,Ah] at h;obtain⟨h1,h2⟩:=h;simp only[Cd,CV,Bs,D4,Bv,Ah,B3,BU,CZ,H5,Cj,A7,Cf,G5,My,AD,LB] at h1;rw[Cd,BU,Bs _ (lLen _),Bv,Cf] at h2;have hs:P6 x:=hs.1
 have all:=VA h2 (by show (x.length:Int)≤_;omega) (fun i hi hc=>by
  rw[BH,Bs (i:Int),Bv,Ah,A7] at hc
  have:=hc.1;show i<x.length;simp only at this;omega) (fun i hi=>rfl)
 have row:∀ i:Nat,i<x.length→((x.getD i []).length:Int)=k∧∀ j:Nat,j<(x.getD i []).length→EO ((x.getD i []).getD j (0,0,0,0))=true∧(i=0→((x.getD i []).getD j (0,0,0,0)).1≠1)∧(((x.getD i []).getD j (0,0,0,0)).1≠9→((x.getD i []).getD j (0,0,0,0)).2.2.2<x.length):=by
  intro i hi;have hc:=all i hi;rw[BH,BH,Ah,Ah] at hc;obtain⟨_,c1,c2⟩:=hc;simp only[Cd,G9,Bv,CC,Bq,Mb,Bool.not_not,A7] at c1;rw[Cd,BU,Bs _ (lLen _),Bv,Cf] at c2;have hli:=(hs.2 _ (Lt x i [] hi)).1
  have hin:(lGet x (iNat (i:Int)) [])=x.getD i []:=by rw[CC,Bq,Mb]
  have all2:=VA c2 (by show ((lGet x (iNat (i:Int)) []).length:Int)≤_;rw[hin];omega) (fun j hj hc=>by
   simp only[BH,Bs,Bv,Ah,A7] at hc
   have:=hc.1;show j<(lGet x (iNat (i:Int)) []).length;omega) (fun j hj=>rfl)
  refine⟨c1,fun j hj=>?_⟩;have hc:=all2 j (by show j<(lGet x (iNat (i:Int)) []).length;rw[hin];exact hj);simp only[hin] at hc;simp only[BH,Cd,CV,Ce,Ga,G9,Gg,Bv,CC,Bq,Mb,Ah,BU,Cj,CZ] at hc;obtain⟨_,d1,d2⟩:=hc;refine⟨d1,fun hz=>?_,fun h9=>?_⟩
  · subst hz;simp only[Int.ofNat_zero,Int.natCast_zero,decide_true,AE,Cj,Cf] at d2;exact d2.1
  · split at d2
    · simp only[Cj,H5,Cf,CZ,A7] at d2;rcases d2.2 with d2|d2
      · exact absurd d2 h9
      · omega
    · simp only[H5,Cf,CZ,A7] at d2;rcases d2 with d2|d2
      · exact absurd d2 h9
      · omega
 exact⟨by omega,by omega,by omega,by omega,fun i hi=>(row i hi).1,fun i j hi hj=>(row i hi).2 j hj⟩
theorem au(k:Int)(x:List (List (Int×Int×Int×Int)))(on key:Int)(hs:IE (k,x)):GF ((k,x),on,key)=Ar ((k,x),on,key):=by
 rw[GF,PL,PI];simp only[T5,Ua,OG]
 cases h:Ea (k,x) with
 |false=>simp only[Cd,CV];simp[Ce]
 | true=>
   have m:=K6 hs h;rw[Eg (by unfold Bd;have:=m.k1;have:=m.k2;omega)]
   have:bOr (bNot true) (bNot (decide (0≤key)&&decide (key≤k-1)))=bOr (bNot true) (bOr (iLt key 0) (iGe key k)):=by
    rw[SA];simp only[Cd,CV,Bs,Gg,Ah,B3,BU,CZ,H5,Cj,A7,Cf,G5,My,AD,LB];simp;omega
   rw[this]
theorem Ue(k:Int)(x:List (List (Int×Int×Int×Int)))(on key:Int)(hs:IE (k,x)):PK ((k,x),on,key)∧KR ((k,x),on,key):=by
 obtain⟨o1,o2⟩:=Zg (k,x) hs
 have loop:∀ {c:Int→Bool} {f:Int→Int} {p:Int→Prop},Ea (k,x)=true→(∀ st,c st=true→0<st)→(∀ st,f st=iSub .i64 st 1)→(∀ st:Int,0≤st→st<x.length→p st)→LoopOk c f p (iSub .i64 (lLen x) 1):=by
  intro c f p h hc hf hp;have m:=K6 hs h
  have:=m.l1;have:=m.l2
  rw[Bv,Eg (by unfold Bd;omega)];refine(IH (fun st:Int=>0≤st∧st<x.length) (fun st=>st.toNat) (fun st hI=>⟨hp st hI.1 hI.2,fun hcc=>?_⟩) (by omega)).1;have:=hc st hcc;rw[hf,Eg (by unfold Bd;omega)];omega
 have cell:Ea (k,x)=true→0≤key→key<k→∀ st:Int,0≤st→st<x.length→iNat st<x.length∧key<((lGet x (iNat st) []).length:Int)∧iNat key<(lGet x (iNat st) []).length:=by
  intro h h0 h1 st s0 s1;have m:=K6 hs h;have:=m.row st.toNat (by omega);rw[CC,Bq,Bq];omega
 rw[PK,Yp];simp only[T5];refine⟨⟨⟨o1,fun _=>trivial,fun _=>Rp _⟩,fun _=>trivial,fun hb=>?_⟩,o2,fun _=>trivial,fun hb=>?_⟩
 · simp only[OG,Cd,CV,Cj,CZ,Ah,A7] at hb;obtain⟨h,h0,h1⟩:=hb;have m:=K6 hs h;rw[Eg (by unfold Bd;have:=m.k1;have:=m.k2;omega)] at h1;refine loop h (fun st hc=>?_) (fun st=>rfl) (fun st s0 s1=>?_)
   · rw[BH,D4,Ah,A7] at hc;exact hc.1
   · obtain⟨e1,e2,e3⟩:=cell h h0 (by omega) st s0 s1;exact⟨fun _=>⟨s0,fun _=>⟨⟨s0,s1⟩,e1,⟨h0,e2⟩,e3⟩,fun _=>trivial⟩,fun _=>trivial⟩
 · simp only[Bs,Gg,Cd,CV,Cj,CZ,Cf] at hb;obtain⟨h,h0,h1⟩:=hb;have hk0:0≤key:=Int.not_lt.mp h0;rw[Yd];refine loop h (fun st hc=>?_) (fun st=>rfl) (fun st s0 s1=>?_)
   · rw[BH,D4,Ah,A7] at hc;exact hc.1
   · obtain⟨e1,e2,e3⟩:=cell h (by omega) (by omega) st s0 s1;exact⟨fun _=>⟨by rw[Z7];exact s0,fun _=>⟨⟨s0,s1⟩,e1,⟨hk0,e2⟩,e3⟩,fun _=>trivial⟩,fun _=>trivial⟩
theorem Zi(k:Int)(x:List (List (Int×Int×Int×Int)))(on key:Int)(hs:IE (k,x))(h:¬ Ar ((k,x),on,key)<0) :
 MapOk k x∧Ea (k,x)=true∧0≤key∧key<k∧0≤Ar ((k,x),on,key)∧Ar ((k,x),on,key)<x.length:=by
 rw[PL,Ce] at h ⊢
 by_cases hb:bOr (bNot (Ea (k,x))) (bOr (iLt key 0) (iGe key k))=true
 · rw[Ab hb] at h;exact absurd (by decide) h
 · rw[Ae hb] at h ⊢
   simp only[Bs,Gg,Cd,CV,G5,Cj,CZ,Cf] at hb;obtain⟨hk,h0,h1⟩:=hb;have m:=K6 hs hk;refine⟨m,hk,by omega,by omega,by omega,?_⟩;rw[PI]
   have:=m.l1;have:=m.l2
   have hv:∀ {c:Int→Bool} {f:Int→Int},(∀ st,c st=true→0<st)→(∀ st,f st=iSub .i64 st 1)→bSel (iGt (AF c f (iSub .i64 (lLen x) 1)) 0) (AF c f (iSub .i64 (lLen x) 1)) 0<x.length:=by
    intro c f hc hf
    have:=(UC (c:=c) (f:=f) (fun st:Int=>0≤st∧st<x.length) (fun st=>st.toNat) (fun st hI hcc=>by
     have:=hc st hcc;rw[hf,Eg (by unfold Bd;omega)]
     omega) (x0:=iSub .i64 (lLen x) 1) (by rw[Bv,Eg (by unfold Bd;omega)];omega)).1
    rw[Ce];split<;>omega
   exact hv (fun st hc=>by rw[BH,D4,Ah,A7] at hc;exact hc.1) (fun st=>rfl)
theorem ZH(k:Int)(x:List (List (Int×Int×Int×Int)))(on key:Int)(hs:IE (k,x)):Ta ((k,x),on,key)∧MU ((k,x),on,key):=by
 obtain⟨o1,o2⟩:=Ue k x on key hs;rw[Ta,XS];simp only[au k x on key hs]
 have fin:iLt (Ar ((k,x),on,key)) 0=false→(((0:Int)≤Ar ((k,x),on,key)∧Ar ((k,x),on,key)<(x.length:Int))∧iNat (Ar ((k,x),on,key))<x.length∧((0:Int)≤key∧key<((lGet x (iNat (Ar ((k,x),on,key))) []).length:Int))∧iNat key<(lGet x (iNat (Ar ((k,x),on,key))) []).length):=by
  intro h;rw[Bs,Cf] at h;obtain⟨m,_,h0,h1,h2,h3⟩:=Zi k x on key hs h;have:=m.row (Ar ((k,x),on,key)).toNat (by omega);rw[CC,Bq,Bq];omega
 exact⟨⟨o1,fun _=>trivial,fin⟩,o2,fun _=>trivial,fin⟩
theorem UU{c:Int→Bool}{f:Int→Int}{n:Nat}(hn:n≤1048576)(h1:∀ i:Nat,i<n→c i=true)(h2:c n=false)(h3:∀ i:Int,f i=iAdd .i64 i 1):AF c f 0=(n:Int):=
 (Vg (p:=fun _=>True) n (fun i=>(i:Int)) rfl (fun i hi=>⟨trivial,h1 i hi,by rw[h3,C4 (by unfold Bd;omega)];omega⟩) ⟨trivial,h2⟩).2
theorem cT{k:Int}{x:List (List (Int×Int×Int×Int))}(h:MapOk k x):Ea (k,x)=true:=by
 obtain⟨k1,k2,l1,l2,row,act⟩:=h;rw[PF];rw[UU (n:=x.length) (by omega) ?_ ?_ fun _=>rfl]
 · simp only[BH,Cd,CV,Bs,D4,Bv];simp;omega
 · intro i hi
   have e:lGet x (iNat (i:Int)) []=x.getD i []:=by rw[CC,Bq,Mb]
   have hr:=row i hi;rw[UU (n:=(x.getD i []).length) (by omega) ?_ ?_ fun _=>rfl]
   · simp only[e,BH,Cd,Bs,G9,Bv,hr];simp;omega
   · intro j hj;have hact:=act i j hi hj
     have e2:lGet (x.getD i []) (iNat (j:Int)) (0,0,0,0)=(x.getD i []).getD j (0,0,0,0):=by rw[CC,Bq,Mb]
     simp only[e,e2,BH,Cd,CV,Ce,Bs,Ga,G9,Gg,Bv];generalize (x.getD i []).getD j (0,0,0,0)=a at hact ⊢;obtain⟨a1,a2,a3⟩:=hact;rw[a1]
     have hj':(j:Int)<((x.getD i []).length:Int):=by omega
     simp only[hj',decide_true,Km,Bool.not_true,Bool.false_or]
     have h10:(!decide (a.1=9)&&decide ((x.length:Int)≤a.2.2.2))=false:=by
      by_cases h9:a.1=9
      · rw[OE h9];rfl
      · have:=a3 h9;rw[F2 (by omega:¬ (x.length:Int)≤a.2.2.2),Bool.and_false]
     by_cases hz:i=0
     · have:=a2 hz;rw[h10,F2 this];simp
     · rw[h10];simp[hz]
   · simp only[e,BH,Bs,Bv];simp
 · simp only[BH,Bs,Bv];simp
def Xc(n:Int)(i:Int)(a:Int×Int×Int×Int):Prop:=EO a=true∧(i=0→a.1≠1)∧(a.1≠9→a.2.2.2<n)
def Pt(k n:Int)(i:Int)(r:List (Int×Int×Int×Int)):Prop:=(r.length:Int)=k∧∀ a∈r,Xc n i a
def Hc(k n:Int)(x:List (List (Int×Int×Int×Int))):Prop:=∀ i:Nat,i<x.length→Pt k n i (x.getD i [])
theorem Vo{k:Int}{x:List (List (Int×Int×Int×Int))}(k1:1≤k)(k2:k≤32)(l1:1≤x.length)(l2:x.length≤4)(h:Hc k x.length x):MapOk k x:=
 ⟨k1,k2,l1,l2,fun i hi=>(h i hi).1,fun i j hi hj=>by
  obtain⟨a,b,c⟩:=(h i hi).2 _ (Lt _ j (0,0,0,0) hj)
  exact⟨a,fun e=>b (by omega),c⟩⟩
theorem bD{k n:Int}{x:List (List (Int×Int×Int×Int))}{r:List (Int×Int×Int×Int)}(h:Hc k n x)(hr:Pt k n x.length r):Hc k n (x++[r]):=by
 intro i hi;simp only[D3,Bu,Br] at hi;by_cases hl:i<x.length
 · rw[Gc,A5 hl,← Gc];exact h i hl
 · have:i=x.length:=by omega
   subst this;rw[Gc,Ci (A8 _)];simpa using hr
theorem cf(c:List Int×Int×Int)(k:Int)(x0:Int×List (List (Int×Int×Int×Int))×Int×Int)(h:BA (c.1,x0.2.2))(k0:0≤k)(k2:k≤32)(hn:1≤iAdd .i64 1 (An (c,4)).1∧iAdd .i64 1 (An (c,4)).1≤4) :
 LoopOk (Fg (c,k)) (FT (c,k) x0) (M1 (c,k) x0) ([],0,x0.2.2) ∧
 Pt k (iAdd .i64 1 (An (c,4)).1) x0.1 (AF (Fg (c,k)) (FT (c,k) x0) ([],0,x0.2.2)).1 ∧
 BA (c.1,(AF (Fg (c,k)) (FT (c,k) x0) ([],0,x0.2.2)).2.2):=by
 have key:=IH (c:=Fg (c,k)) (f:=FT (c,k) x0) (p:=M1 (c,k) x0)
  (fun st=>BA (c.1,st.2.2)∧0≤st.2.1∧st.2.1≤k∧Pt st.2.1 (iAdd .i64 1 (An (c,4)).1) x0.1 st.1) (fun st=>(k-st.2.1).toNat) (fun st hI=>by
  obtain⟨r,j,cu⟩:=st
  obtain⟨i0,i1,i2,i3,i4⟩:=hI
  simp only at i0 i1 i2 i3 i4
  have s1:iAdd .i64 j 1=j+1:=C4 (by unfold Bd;omega)
  unfold M1 FT Fg
  simp only[s1,Ry,Bs,D4,BH,A7]
  generalize iAdd .i64 1 (An (c,4)).1=n at hn i4 ⊢
  obtain⟨d1,d2,d3,d4⟩:=fu (c.1,cu) n i0 hn.1 hn.2
  generalize Bj ((c.1,cu),n)=D at d2 d3 d4 ⊢
  obtain⟨o1,o2⟩:=V0 (c.1,D.2) 3 d2
  simp only at o2
  generalize Co ((c.1,D.2),3)=O at o2 ⊢
  refine⟨⟨fun hc=>⟨d1,⟨fun _=>o1,fun _=>trivial⟩,?_⟩,fun _=>trivial⟩,fun hc=>⟨⟨?_,by omega,by omega,by simp only[D3,Bu,Br];omega,?_⟩,by omega⟩⟩
  · unfold Bo;simp only[Bu,Br];omega
  · simp only[Ce]
    by_cases hx:0<x0.1
    · simp only[hx,decide_true,AE,Km,ite_self];exact o2
    · simp only[hx,decide_false,Bool.false_and,Ax,AJ];exact d2
  · intro a ha
    rw[Dp,List.mem_singleton] at ha;rcases ha with ha|rfl
    · exact i4 a ha
    · simp only[Ce];split
      · rename_i hb;rw[Ah,A7] at hb;exact⟨(En 1 0 0 0).2 (by omega),fun h=>by omega,fun _=>by simp only;omega⟩
      · exact⟨d3.1,fun _=>d3.2,d4⟩) (x0:=([],0,x0.2.2)) ⟨h,by simp,k0,by simp,by simp⟩
 obtain⟨q1,⟨q2,q3,q4,q5⟩,q6⟩:=key
 refine⟨q1,?_,q2⟩
 generalize AF (Fg (c,k)) (FT (c,k) x0) ([],0,x0.2.2)=st at *
 unfold Fg at q6
 simp only[Bs,Cf] at q6
 have:st.2.1=k:=by omega
 rw[this] at q5
 exact q5
theorem cL(c:List Int×Int×Int)(k:Int)(h:BA c)(k0:1≤k)(k2:k≤32) :
 Jx (c,k)∧BA (c.1,(Cn (c,k)).2)∧MapOk k (Cn (c,k)).1.2∧(Cn (c,k)).1.1=k:=by
 rw[YI,YD]
 obtain⟨b1,b2,_,b4⟩:=DH c 4 h
 have b4:=b4 (by omega)
 have hn:1≤iAdd .i64 1 (An (c,4)).1∧iAdd .i64 1 (An (c,4)).1≤4:=by rw[C4 (by unfold Bd;omega)];omega
 have key:=IH (c:=Im (c,k)) (f:=Jr (c,k)) (p:=PE (c,k))
  (fun st=>BA (c.1,st.2.2)∧0≤st.1∧st.1≤iAdd .i64 1 (An (c,4)).1∧(st.2.1.length:Int)=st.1∧Hc k (iAdd .i64 1 (An (c,4)).1) st.2.1) (fun st=>(iAdd .i64 1 (An (c,4)).1-st.1).toNat) (fun st hI=>by
  obtain⟨i,x,cu⟩:=st
  obtain⟨i0,i1,i2,i3,i4⟩:=hI
  simp only at i0 i1 i2 i3 i4
  have s1:iAdd .i64 i 1=i+1:=C4 (by unfold Bd;omega)
  obtain⟨r1,r2,r3⟩:=cf c k (i,x,cu) i0 (by omega) k2 hn
  unfold PE Jr Im
  simp only[s1,Ry,Bs,A7] at r1 r2 r3 ⊢
  refine⟨⟨fun hc=>⟨r1,?_⟩,fun _=>trivial⟩,fun hc=>⟨⟨r3,by omega,by omega,by simp only[D3,Bu,Br];omega,bD i4 (by rw[i3];exact r2)⟩,by omega⟩⟩
  unfold Bo;simp only[Bu,Br];omega) (x0:=(0,[],(An (c,4)).2)) ⟨b2,by simp,by simp only;omega,by simp,fun i hi=>by simp at hi⟩
 obtain⟨q1,⟨q2,q3,q4,q5,q6⟩,q7⟩:=key
 generalize AF (Im (c,k)) (Jr (c,k)) (0,[],(An (c,4)).2)=st at *
 unfold Im at q7
 simp only[Bs,Cf] at q7
 have e:st.1=iAdd .i64 1 (An (c,4)).1:=by omega
 have l1:1≤st.2.1.length:=by omega
 have l2:st.2.1.length≤4:=by omega
 refine⟨⟨b1,q1⟩,q2,Vo k0 k2 l1 l2 ?_,rfl⟩
 show Hc k (st.2.1.length:Int) st.2.1
 rw[q5,e];exact q6
theorem dO{k n:Int}{x:List (List (Int×Int×Int×Int))}{i j:Nat}{a:Int×Int×Int×Int}(h:Hc k n x)(hi:i<x.length)(ha:Xc n i a):Hc k n (x.set i ((x.getD i []).set j a)):=by
 intro p hp;rw[List.length_set] at hp;rw[Gc,E3];by_cases hpi:i=p
 · subst hpi;simp only[AE,hi,Fy];obtain⟨r1,r2⟩:=h i hi;refine⟨by rw[List.length_set];exact r1,fun b hb=>?_⟩;rcases List.mem_or_eq_of_mem_set hb with hb|rfl
   · exact r2 b hb
   · exact ha
 · simp only[Ae hpi];rw[← Gc];exact h p hp
theorem eP{k:Int}{x:List (List (Int×Int×Int×Int))}(h:MapOk k x):Hc k x.length x:=by
 intro i hi;refine⟨h.row i hi,fun a ha=>?_⟩;obtain⟨j,hj,rfl⟩:=List.mem_iff_getElem.1 ha;have:=h.act i j hi hj;rw[Gc (l:=x.getD i []),AX hj,Fy] at this;exact⟨this.1,fun e=>this.2.1 (by omega),this.2.2⟩
theorem bA(c:List Int×Int×Int)(k:Int)(h:BA c)(k0:1≤k)(k2:k≤32) :
 Ju (c,k)∧MapOk k (Iq (c,k)).1.2∧(Iq (c,k)).1.1=k:=by
 rw[Yg,Yk]
 obtain⟨d1,d2,d3,d4⟩:=cL c k h k0 k2
 obtain⟨b1,b2,_,b4'⟩:=DH (c.1,(Cn (c,k)).2) 6 d2
 have b4:=b4' (by omega)
 clear b4'
 simp only at b1 b2 b4 ⊢
 generalize An ((c.1,(Cn (c,k)).2),6)=B at b2 b4 ⊢
 generalize Cn (c,k)=M at *
 have key:=IH (c:=Jn) (f:=Jo (c,k)) (p:=PB (c,k))
  (fun st=>BA (c.1,st.2.2)∧0≤st.1∧st.1≤6∧st.2.1.length=M.1.2.length∧Hc k M.1.2.length st.2.1) (fun st=>st.1.toNat) (fun st hI=>by
  obtain⟨i,x,cu⟩:=st
  obtain⟨i0,i1,i2,i3,i4⟩:=hI
  simp only at i0 i1 i2 i3 i4
  have hl1:=d3.l1
  have hl2:=d3.l2
  unfold PB Jo Jn
  simp only
  have eL:lLen x=(x.length:Int):=Bv x
  simp only[eL]
  obtain⟨p1,p2,_,p4'⟩:=DH (c.1,cu) (x.length:Int) i0
  have p4:=p4' (by omega)
  clear p4'
  generalize An ((c.1,cu),(x.length:Int))=P at p2 p4 ⊢
  obtain⟨q1,q2,_,q4'⟩:=DH (c.1,P.2) k p2
  have q4:=q4' (by omega)
  clear q4'
  simp only at q1 q2
  generalize An ((c.1,P.2),k)=Q at q2 q4 ⊢
  obtain⟨r1,r2,r3⟩:=eD (c.1,Q.2) [4,5,3] (by simp) q2
  simp only at r1 r2
  generalize EN ((c.1,Q.2),[4,5,3])=R at r2 r3 ⊢
  have eS:iSub .i64 (x.length:Int) 1=(x.length:Int)-1:=by rw[Eg (by unfold Bd;omega)]
  obtain⟨t1,t2,_,t4⟩:=DH (c.1,R.2) ((x.length:Int)-1) r2
  simp only at t1 t2
  simp only[eS]
  generalize An ((c.1,R.2),(x.length:Int)-1)=T at t2 t4 ⊢
  have hP:P.1.toNat<x.length:=by omega
  have hrow:=i4 P.1.toNat hP
  have eG:lGet x (iNat P.1) []=x.getD P.1.toNat []:=by rw[CC,Bq]
  have hrl:((x.getD P.1.toNat []).length:Int)=k:=hrow.1
  rw[Bq] at eG
  simp only[D4,Bq,eG,A7,Cf]
  refine⟨⟨fun hc=>⟨p1,q1,fun hg=>⟨⟨p4.1,p4.2⟩,⟨hP,hP⟩,r1,t1,⟨q4.1,by omega⟩,hP,by omega⟩,fun _=>trivial⟩,fun _=>trivial⟩,fun hc=>⟨⟨?_,?_,?_,?_,?_⟩,?_⟩⟩
  · simp only[Ce]
    split
    · exact t2
    · exact q2
  · rw[Eg (by unfold Bd;omega)];omega
  · rw[Eg (by unfold Bd;omega)];omega
  · simp only[Ce,Rh]
    split
    · rw[List.length_set];exact i3
    · exact i3
  · simp only[Ce,Rh]
    split
    · rename_i hg;rw[A7] at hg;have t4:=t4 (by omega);refine dO i4 hP ⟨?_,fun _=>?_,fun _=>?_⟩
      · have hN:iAdd .i64 1 T.1=1+T.1:=C4 (by unfold Bd;omega);rw[hN];simp only[BF,List.not_mem_nil,or_false] at r3;refine(En _ _ _ _).2 ?_;omega
      · simp only[BF,List.not_mem_nil,or_false] at r3;simp only;omega
      · have hN:iAdd .i64 1 T.1=1+T.1:=C4 (by unfold Bd;omega);simp only[hN];omega
    · exact i4
  · rw[Eg (by unfold Bd;omega)];omega) (x0:=(B.1,M.1.2,B.2)) ⟨b2,b4.1,by simp only;omega,rfl,eP d3⟩
 obtain⟨q1,⟨q2,q3,q4,q5,q6⟩,q7⟩:=key
 generalize AF Jn (Jo (c,k)) (B.1,M.1.2,B.2)=st at *
 refine⟨⟨d1,b1,q1⟩,Vo k0 k2 ?_ ?_ ?_,d4⟩
 · rw[q5];exact d3.l1
 · rw[q5];exact d3.l2
 · rw[q5];exact q6
theorem U3(x:List Int)(k:Int)(h:x.length≤1048576):It (x,k)∧BA (GI (x,k)):=by
 rw[Yw,YJ];obtain⟨n1,n2,n3⟩:=ga x h;exact⟨n1,n2⟩
theorem Y8(x:List Int)(p k:Int)(h:x.length≤1048576)(k0:1≤k)(k2:k≤32):MS (x,p,k)∧MapOk k (Af (x,p,k)).2∧(Af (x,p,k)).1=k:=by
 rw[XG,XE];obtain⟨a1,a2⟩:=U3 x p h;obtain⟨b1,b2,b3⟩:=bA _ k a2 k0 k2;exact⟨⟨a1,b1⟩,b2,b3⟩
theorem Tw(x:List Int)(p n:Int)(h:x.length≤1048576)(hn:0<n):KN (x,p,n)∧0≤Al (x,p,n)∧Al (x,p,n)<n:=by
 rw[Xz,XC];obtain⟨a1,a2⟩:=U3 x p h;obtain⟨b1,b2,_,b4⟩:=DH _ n a2;exact⟨⟨a1,b1⟩,b4 hn⟩
theorem gD{k:Int}{x:List (List (Int×Int×Int×Int))}(h:MapOk k x):IE (k,x):=by
 have:=h.k2;have:=h.l2;refine⟨⟨by show x.length≤1048576;omega,fun r hr=>?_⟩,trivial⟩;obtain⟨i,hi,rfl⟩:=List.mem_iff_getElem.1 hr;have:=h.row i hi;rw[Gc,AX hi,Fy] at this;exact⟨by omega,fun a _=>by simp[U1]⟩
end
end Go.Ag
