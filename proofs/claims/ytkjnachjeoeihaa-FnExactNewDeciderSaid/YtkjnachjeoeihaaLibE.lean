/- Part 5 of what FnExactNewDecider needs. No conditions. -/
import Derived.WalkKit
import Derived.ProofKit
import Derived.OpenShut
import Derived.Carry
import Derived.ChangeSame
import Derived.Attr
import Derived.KernelRfl
import Derived.Test.YtkjnachjeoeihaaLibD
namespace Go.Ag
set_option linter.unusedSimpArgs false
set_option linter.unusedVariables false
noncomputable section
theorem al(d:DS)(c:Opnd)(t:Bool):ChgS d (setc d c t):=by
 cases c with
 |t g=>exact Vq d g t
 |c v=>exact ChgS.refl d
theorem bS{d:DS}{s:PS}{c:Opnd}{b:Bool}(hs:ES d s)(h:c.pev s.sl= .fl (.bool b)):ES (setc d c b) s:=by
 cases c with
 |t g=>exact bL hs h
 |c v=>exact hs
theorem G1:∀ (c:DCode) (d:DS),(dev c d).All (ChgS d)
 |.skip,d=>ChgS.refl d
 |.region ops,d=>Vk ops d (ChgS.refl d)
 | .regionU ops,d=>by
   simp only[dev]
   split
   · exact Vk ops d (ChgS.refl d)
   · trivial
 | .seq l a b,d=>by
   refine DT.then_all (G1 a d.clean) (fun st h=>?_) (fun st h=>h.rem)
   have h1:ChgS d (Kc d (Tw l st)):=(h.trans (tP l st)).rem
   exact DT.All.imp (fun _ h2=>h1.trans h2) (G1 b _)
 | .cond c a b,d=>by
   simp only[dev]
   cases hc:c.dev d.sl with
   | bool t=>
     cases t with
     |lit t=>cases t<;>first|exact G1 a d|exact G1 b d
     |dyn t=>exact⟨DT.All.imp (fun _ h=>(al d c true).trans h) (G1 a _),DT.All.imp (fun _ h=>(al d c false).trans h) (G1 b _)⟩
   |_=>trivial
 |.block i a,d=>DT.unexit_all i (G1 a d)
 |.loop live n a,d=>uX (fun d=>G1 a d.clean) d
 |.exit i,d=>ChgS.refl d
 |.ret,d=>ChgS.refl d
theorem GA:∀ (c:DCode),AllD c.obs→∀ {d d':DS} {s:PS} {e:AExit} {k:EH},ES d s→(dev c d).ok.den→(dev c d).lf=some (e,d')→(∀ s',ES d' s'→k e s')→Fx c.er k s
 | .skip,_,d,d',s,e,k,hs,hok,hl,hk=>by
   simp only[dev,DT.lf,Aj,Am] at hl
   obtain⟨rfl,rfl⟩:=hl
   exact hk s hs
 | .region ops,ho,d,d',s,e,k,hs,hok,hl,hk=>by
   have he:=cV ops hl
   subst he
   exact WA ops ho rfl hk d s hs hok hl
 | .regionU ops,ho,d,d',s,e,k,hs,hok,hl,hk=>by
   simp only[dev] at hok hl
   split at hok
   · rename_i hp
     rw[Ac hp] at hl
     have he:=cV ops hl
     subst he
     exact⟨hp,WA ops ho rfl hk d s hs hok hl⟩
   · exact hok.elim
 | .seq l a b,ho,d,d',s,e,k,hs,hok,hl,hk=>by
   obtain⟨h1,h2⟩:=ho.app
   obtain⟨hoa,hc⟩:=DT.then_s (G1 a d.clean) hok hl
   simp only[DCode.er,Fx]
   rcases hc with⟨st0,m,hla,hm,hch,hob,hlb⟩|⟨he,st0,hla,rfl⟩
   · refine GA a h1 hs.clean hoa hla fun s' hs'=>?_
     exact GA b h2 (((hm s' hs').trim l).rem) hob hlb hk
   · refine GA a h1 hs.clean hoa hla fun s' hs'=>?_
     cases e<;>first|(cases he;done)|exact hk s' hs'.rem
 | .cond c a b,ho,d,d',s,e,k,hs,hok,hl,hk=>by
   obtain⟨h1,h2⟩:=ho.app
   have hv:=c.dev_ev hs
   simp only[dev] at hok hl
   simp only[DCode.er,Fx]
   cases hc:c.dev d.sl with
   | bool t=>
     rw[hc] at hok hl hv
     have hp:=hv.of (by simp)
     simp only[DV.enc] at hp
     rw[hp]
     simp only
     cases t with
     | lit t=>
       cases t with
       |true=>exact GA a h1 hs hok hl hk
       |false=>exact GA b h2 hs hok hl hk
     | dyn t=>
       have hok:=(PX.if_den _ _ _).mp hok
       cases t with
       |true=>exact GA a h1 (bS hs hp) (hok.1 rfl) hl hk
       |false=>exact GA b h2 (bS hs hp) (hok.2 rfl) hl hk
   |_=>rw[hc] at hok;exact hok.elim
 | .block i a,ho,d,d',s,e,k,hs,hok,hl,hk=>by
   simp only[dev,DT.unexit_ok,DT.unexit_lf] at hok hl
   obtain⟨e0,d0,h0⟩:=DT.ok_lf hok
   rw[h0] at hl
   simp only[BZ,Aj,Am] at hl
   obtain⟨rfl,rfl⟩:=hl
   refine GA a ho hs hok h0 fun s' hs'=>?_
   have:=hk s' hs'
   cases e0 with
   |normal=>exact this
   |ret=>exact this
   | exit j=>
     simp only[V6]
     simp only[AExit.un] at this
     split
     · rename_i hj;rw[Ac hj] at this;exact this
     · rename_i hj;rw[Ae hj] at this;exact this
 | .loop live n a,ho,d,d',s,e,k,hs,hok,hl,hk=>by
   simp only[dev] at hok hl
   exact w5 (fun d=>G1 a d.clean) (fun d s e d' k hs hok hl hk=>GA a ho hs.clean hok hl hk) hs hok hl hk
 | .exit i,_,d,d',s,e,k,hs,hok,hl,hk=>by
   simp only[dev,DT.lf,Aj,Am] at hl
   obtain⟨rfl,rfl⟩:=hl
   exact hk s hs
 | .ret,_,d,d',s,e,k,hs,hok,hl,hk=>by
   simp only[dev,DT.lf,Aj,Am] at hl
   obtain⟨rfl,rfl⟩:=hl
   exact hk s hs
mutual
def DV.flt:DV→Bool
 |.bool _|.int _ _|.str _|.ifc _=>true
 |.agg cs=>DV.fltL cs
 |.tup vs=>DV.fltL vs
 |_=>false
def DV.fltL:List DV→Bool
 |[]=>true
 |v::r=>v.flt&&DV.fltL r
end
mutual
theorem VQ:∀ (v:DV),v.flt=true→v.enc.flt=true
 |.bool _,_|.int _ _,_|.str _,_|.ifc _,_=>rfl
 |.agg cs,h=>Vj cs h
 |.tup cs,h=>Vj cs h
theorem Vj:∀ (l:List DV),DV.fltL l=true→PV.fltL (DV.encL l)=true
 |[],_=>rfl
 | v::r,h=>by
   simp only[DV.fltL,Af] at h
   simp only[DV.encL,PV.fltL,VQ v h.1,Vj r h.2,Cx]
end
theorem Vz:∀ (l:List DV),Hf l=true→DV.okL l=true
 |[],_=>rfl
 | v::r,h=>by
   simp only[Hf,Af] at h
   have:v.ok=true:=by cases v<;>first|rfl|(have:=h.1;cases this)
   simp only[DV.okL,this,Vz r h.2,Cx]
theorem EBx.segm2{a:List DC}{b:List PV}{o n:Nat}(h:EBx a b)(hl:o+n≤a.length)(hk:DV.okL (BD (BG a) o n)=true):Go.Ag.segm b o n=DV.encL (BD (BG a) o n)∧o+n≤b.length:=by
 rcases h with rfl|h
 · simp only[Bh,Nat.le_zero_eq,Nat.add_eq_zero_iff] at hl;obtain⟨rfl,rfl⟩:=hl;refine⟨?_,Gl _⟩;cases b<;>rfl
 · exact⟨h.segm o n hk,by rw[← h.len];exact hl⟩
theorem aL{st st':DS}{s:PS}{r:ARes}{v:DV}(hs:ES st s)(h:Pd st r=some (v,st'))(hv:v.ok=true):∃ s',G7 s r=some (v.enc,s')∧ES st' s':=by
 cases r with
 | tmp t=>
   simp only[Pd] at h;split at h
   · rename_i hc;simp only[Af] at hc;simp only[Aj] at h
     have hk:(A7 (.t t) st).1.ok=true:=by
      have:(A7 (.t t) st).1=v:=by simp only[A7,h]
      rw[this];exact hv
     obtain⟨m1,m2⟩:=DK (.t t) hs hk
     have hne:Bf st.sl t≠.any:=by intro e;rw[e] at hc;cases hc.2
     have hp:=(hs.sl.get t).of hne;simp only[A7,h,mvOut] at m1 m2;refine⟨(D3 (Aa s.sl t) t s).2,?_,m2⟩;simp only[G7];rw[Ac (by rw[hp];exact uL _ hc.1),← m1]
   · cases h
 | cell t n=>
   simp only[Pd] at h;have hp:=hs.sl.get t
   cases hv:Bf st.sl t with
   | box i o=>
     rw[hv] at h hp;have hp:=hp.of (by simp);simp only at h;split at h
     · rename_i hc;simp only[Af] at hc;simp only[BB] at h;obtain⟨⟨g,r⟩,h1,h2⟩:=h;simp only at h2;subst h2;obtain⟨e1,e2⟩:=(hs.bx.get i).segm2 (Cs hc.1) (Vz _ hc.2)
       have hg:g= .tt:=by
        unfold KS at h1;simp only[A0] at h1;split at h1
        · simp only[BB,Am] at h1;obtain⟨_,_,rfl,_⟩:=h1;rfl
        · cases h1
       subst hg;obtain⟨s',e3,e4⟩:=YB (p:=.box i o) hs (.inr rfl) h1;refine⟨s',?_,e4⟩;simp only[G7,hp,DV.enc];rw[Ac ⟨e2,by rw[e1];exact Sy _ hc.2⟩];exact e3
     · cases h
   | ptr i o=>
     rw[hv] at h hp;have hp:=hp.of (by simp);simp only at h;split at h
     · rename_i hc;simp only[Af] at hc;simp only[BB] at h;obtain⟨⟨g,r⟩,h1,h2⟩:=h;simp only at h2;subst h2;obtain⟨e1,e2⟩:=(hs.hp.get i).segm2 (Cs hc.1) (Vz _ hc.2)
       have hg:g= .tt∧i<st.hp.length:=by
        unfold JU at h1;simp only[A0] at h1;split at h1
        · rename_i hb;simp only[Af] at hb;simp only[BB,Am] at h1;obtain⟨_,_,rfl,_⟩:=h1;exact⟨rfl,Cs hb.1.1⟩
        · cases h1
       obtain⟨rfl,hi⟩:=hg;obtain⟨s',e3,e4⟩:=Yu (p:=.ptr i o) hs (.inr rfl) h1 trivial;refine⟨s',?_,e4⟩;simp only[G7,hp,DV.enc];rw[Ac ⟨by rw[← hs.hp.len];exact hi,e2,by rw[e1];exact Sy _ hc.2⟩];exact e3
     · cases h
   |_=>rw[hv] at h;cases h
theorem ZU:∀ {res:List ARes} {st st':DS} {s:PS} {vs:List DV},ES st s→My st res=some (vs,st')→DV.okL vs=true→∃ s',G5 s res=some (DV.encL vs,s')∧ES st' s'
 | [],st,st',s,vs,hs,h,_=>by
   simp only[My,Aj,Am] at h
   obtain⟨rfl,rfl⟩:=h
   exact⟨s,rfl,hs⟩
 | r :: rs,st,st',s,vs,hs,h,hk=>by
   simp only[My] at h
   split at h
   · rename_i v st1 h1
     split at h
     · rename_i vs1 st2 h2
       simp only[Aj,Am] at h
       obtain⟨rfl,rfl⟩:=h
       simp only[DV.okL,Af] at hk
       obtain⟨s1,e1,e2⟩:=aL hs h1 hk.1
       obtain⟨s2,e3,e4⟩:=ZU e2 h2 hk.2
       exact⟨s2,by simp only[G5,e1,e3,DV.encL],e4⟩
     · cases h
   · cases h
theorem bC:∀ {res:List ARes} {st:DS} {s:PS} {v:DV},ES st s→Ff st res=some v→v.ok=true→∃ s',Ld s res=some (v.enc,s'):=by
 have gen:∀ {res:List ARes} {st:DS} {s:PS} {v:DV},ES st s→v.ok=true→(My st res).map (fun x=>DV.tup x.1)=some v→∃ s',(G5 s res).map (fun(vs,st)=>(PV.tup vs,st))=some (v.enc,s'):=fun hs hv h=>by
  simp only[BB] at h;obtain⟨⟨vs,st'⟩,h1,rfl⟩:=h;obtain⟨s',e1,_⟩:=ZU hs h1 hv;exact⟨s',by rw[e1];rfl⟩
 intro res st s v hs h hv
 cases res with
 |nil=>exact gen (res:=[]) hs hv h
 | cons r rs=>
   cases rs with
   | nil=>
     simp only[Ff,BB] at h;obtain⟨⟨v',st'⟩,h1,rfl⟩:=h;obtain⟨s',e1,_⟩:=aL hs h1 hv;exact⟨s',e1⟩
   |cons r2 rs=>exact gen (res:=r::r2::rs) hs hv h
theorem Nc {res:List ARes}:∀ {t:DT} {g:PX} {v:DV},t.val res=(g,some v)→v≠.any→g.den →
 t.ok.den∧∃ e st v0,t.lf=some (e,st)∧(∀ i,e≠.exit i)∧Ff st res=some v0∧v0.ok=true∧v.enc=v0.enc
 | .leaf e st,g,v,h,hv,hg=>by
   have gen:(match Ff st res with|some v=>if (v.ok&&!v.hasPtr)=true then (PX.tt,some v) else (PX.ff,none)|none=>(PX.ff,none))=(g,some v)→Ff st res=some v∧v.ok=true:=fun h=>by
    split at h
    · split at h
      · rename_i h1 h2;simp only[Am,Aj] at h;obtain⟨_,rfl⟩:=h;simp only[Af] at h2;exact⟨h1,h2.1⟩
      · simp at h
    · simp at h
   cases e with
   |exit i=>simp[DT.val] at h
   |normal=>obtain⟨h1,h2⟩:=gen h;exact⟨trivial,.normal,st,v,rfl,by simp,h1,h2,rfl⟩
   |ret=>obtain⟨h1,h2⟩:=gen h;exact⟨trivial,.ret,st,v,rfl,by simp,h1,h2,rfl⟩
 | .node c a b,g,v,h,hv,hg=>by
   simp only[DT.val] at h
   have hno:∀ {t:DT} {g:PX},t.val res=(g,none)→¬ g.den:=by
    intro t
    induction t with
    | leaf e st=>
      intro g h;cases e<;>simp only[DT.val] at h<;>(repeat' split at h)<;>simp only[Am,reduceCtorEq,and_false,KJ] at h<;>subst h<;>exact id
    | node c x y ih1 ih2=>
      intro g h hg;simp only[DT.val] at h
      cases h1:x.val res with
      | mk g1 v1=>
        cases h2:y.val res with
        | mk g2 v2=>
          rw[h1,h2] at h
          cases v1 with
          | none=>
            simp only[Am] at h;obtain⟨rfl,rfl⟩:=h;have:=(PX.if_den _ _ _).mp hg
            cases c with
            |true=>exact ih1 h1 (this.1 rfl)
            |false=>exact ih2 h2 (this.2 rfl)
          |some v1=>cases v2<;>simp at h
    | chk g0 t ih=>
      intro g h hg;simp only[DT.val] at h
      cases h1:t.val res with
      | mk g1 v1=>
        rw[h1] at h;simp only[Am] at h;obtain⟨rfl,rfl⟩:=h;exact ih h1 ((PX.land_den _ _).mp hg).2
    | bad=>
      intro g h;simp only[DT.val,Am,KJ] at h;subst h;exact id
   cases h1:a.val res with
   | mk g1 v1=>
     cases h2:b.val res with
     | mk g2 v2=>
       rw[h1,h2] at h
       have fin:∀ (v1 v2:DV),g=PX.if' c g1 g2→a.val res=(g1,some v1)→b.val res=(g2,some v2)→v=Cy c v1 v2→(DT.node c a b).ok.den∧∃ e st v0,(DT.node c a b).lf=some (e,st)∧(∀ i,e≠.exit i)∧Ff st res=some v0∧v0.ok=true∧v.enc=v0.enc:=by
        intro v1 v2 hgg h1 h2 hvv;subst hgg;have hg:=(PX.if_den _ _ _).mp hg;have he:=(SU c v1 v2).resolve_left (by rw[← hvv];exact hv);rw[← hvv] at he
        have n1:v1≠.any:=by rintro rfl;apply hv;rw[hvv];cases v2<;>rfl
        have n2:v2≠.any:=by rintro rfl;apply hv;rw[hvv];cases v1<;>rfl
        show (PX.if' c a.ok b.ok).den∧∃ e st v0,(DT.node c a b).lf=some (e,st)∧(∀ i,e≠.exit i)∧Ff st res=some v0∧v0.ok=true∧v.enc=v0.enc;rw[PX.if_den]
        cases c with
        | true=>
          obtain⟨k1,e,st,v0,k2,k3,k4,k5,k6⟩:=Nc h1 n1 (hg.1 rfl);exact⟨⟨fun _=>k1,fun h=>by cases h⟩,e,st,v0,k2,k3,k4,k5,by rw[he];exact k6⟩
        | false=>
          obtain⟨k1,e,st,v0,k2,k3,k4,k5,k6⟩:=Nc h2 n2 (hg.2 rfl);exact⟨⟨fun h=>(by cases h),fun _=>k1⟩,e,st,v0,k2,k3,k4,k5,by rw[he];exact k6⟩
       cases v1 with
       | none=>
         simp only[Am] at h;obtain⟨rfl,rfl⟩:=h;have hg:=(PX.if_den _ _ _).mp hg;show (PX.if' c a.ok b.ok).den∧_;rw[PX.if_den]
         cases c with
         |true=>exact absurd (hg.1 rfl) (hno h1)
         | false=>
           obtain⟨k1,e,st,v0,k2,k3,k4,k5,k6⟩:=Nc h2 hv (hg.2 rfl);exact⟨⟨fun h=>(by cases h),fun _=>k1⟩,e,st,v0,k2,k3,k4,k5,k6⟩
       | some v1=>
         cases v2 with
         | none=>
           simp only[Am,Aj] at h;obtain⟨rfl,rfl⟩:=h;have hg:=(PX.if_den _ _ _).mp hg;show (PX.if' c a.ok b.ok).den∧_;rw[PX.if_den]
           cases c with
           |false=>exact absurd (hg.2 rfl) (hno h2)
           | true=>
             obtain⟨k1,e,st,v0,k2,k3,k4,k5,k6⟩:=Nc h1 hv (hg.1 rfl);exact⟨⟨fun _=>k1,fun h=>by cases h⟩,e,st,v0,k2,k3,k4,k5,k6⟩
         | some v2=>
           simp only[Am,Aj] at h;exact fin v1 v2 h.1.symm h1 h2 h.2.symm
 | .chk g0 t,g,v,h,hv,hg=>by
   simp only[DT.val] at h
   cases h1:t.val res with
   | mk g1 v1=>
     rw[h1] at h;simp only[Am] at h;obtain⟨rfl,rfl⟩:=h;have hg:=(PX.land_den _ _).mp hg;obtain⟨k1,k2⟩:=Nc h1 hv hg.2;exact⟨(PX.land_den _ _).mpr ⟨hg.1,k1⟩,k2⟩
 |.bad,g,v,h,hv,hg=>by simp[DT.val] at h
theorem EL.append:∀ {a:List DC} {b:List PV} {c:List DC} {d:List PV},EL a b→EL c d→EL (a++c) (b++d)
 |[],[],_,_,_,h=>h
 |_::_,_::_,_,_,h,h'=>⟨h.1,EL.append h.2 h'⟩
theorem Vh:∀ (n:Nat),EL (K7 n) (Hi n)
 |0=>trivial
 |n+1=>⟨.inl rfl,Vh n⟩
theorem Vr:∀ (n:Nat),EB (KT n) (J3 n)
 |0=>trivial
 |n+1=>⟨.inl rfl,Vr n⟩
theorem sn {f:DFun} (ho:AllD f.body.obs) {args:List DV} {g:PX} {v:DV} (h:PM f args=(g,some v)) (hg:g.den) (hv:v≠.any) (hl:args.length=f.nparams) (hp:f.pure=true→v.flt=true)
 {Q:PV→List (List PV)→Prop} (hQ:∀ H,Q v.enc H):MC f.er (DV.encL args) [] Q:=by
 unfold PM at h
 obtain⟨hok,e,st,v0,h1,h2,h3,h4,h5⟩:=Nc h hv hg
 refine⟨by rw[Ex];exact hl,fun _=>rfl,?_⟩
 refine GA f.body ho (d:=⟨news args++K7 (f.nslots-f.nparams),KT f.nbox,[]⟩) ⟨(EL.news args).append (Vh _),Vr _,trivial⟩ hok h1 fun s' hs'=>?_
 obtain⟨s2,e2⟩:=bC hs' h3 h4
 rw[← h5] at e2
 have fin:(match Ld s' f.res with|some (v,st)=>if f.pure=true then v.flt=true∧Q v [] else Q v st.hp|none=>False):=by
  rw[e2];simp only;split
  · rename_i hpu;exact⟨VQ v (hp hpu),hQ _⟩
  · exact hQ _
 cases e with
 |normal=>exact fin
 |ret=>exact fin
 |exit i=>exact absurd rfl (h2 i)
def TuX:List HT→Type
 |[]=>Unit
 |[a]=>a.D
 |a::r=>a.D×TuX r
def Hp:(l:List HT)→List DV→Option (TuX l)
 |[],[]=>some ()
 |[a],[v]=>a.of v
 | a::b::r,v::vs=>(match a.of v,Hp (b::r) vs with
   |some x,some y=>some (x,y)
   |_,_=>none)
 |_,_=>none
def Eo:(l:List HT)→TuX l→List DV
 |[],_=>[]
 |[a],x=>[a.dv x]
 |a::b::r,x=>a.dv x.1::Eo (b::r) x.2
inductive QT where
 |one (h:HT)|tup (l:List HT)
def QT.D:QT→Type
 |.one h=>h.D
 |.tup l=>TuX l
def QT.of:(q:QT)→DV→Option q.D
 |.one h,v=>h.of v
 |.tup l,.tup vs=>Hp l vs
 |.tup _,_=>none
def QT.dv:(q:QT)→q.D→DV
 |.one h,x=>h.dv x
 |.tup l,x=>.tup (Eo l x)
def QT.ofO(q:QT):Option DV→Option q.D
 |some v=>q.of v
 |none=>none
def cR:(l:List (Ql×CT))→AgX l
 |[]=>()
 |[a]=>a.2.dflt
 |a::b::r=>(a.2.dflt,cR (b::r))
def HT.dflt:(h:HT)→h.D
 |.one _ t=>t.dflt
 |.agg l=>cR l
def cY:(l:List HT)→TuX l
 |[]=>()
 |[a]=>a.dflt
 |a::b::r=>(a.dflt,cY (b::r))
def QT.dflt:(q:QT)→q.D
 |.one h=>h.dflt
 |.tup l=>cY l
def HT.flt:HT→Bool
 |.one _ t=>t.flat
 |.agg l=>l.all fun a=>a.2.flat
def QT.flt:QT→Bool
 |.one h=>h.flt
 |.tup l=>l.all HT.flt
theorem Xi:∀ {l:List HT} {vs:List DV} {x:TuX l},Hp l vs=some x→DV.encL (Eo l x)=DV.encL vs
 |[],[],_,_=>rfl
 | [a],[v],x,h=>by
   show [(a.dv x).enc]=[v.enc]
   rw[(PF (t:=a) h).1]
 | a :: b::r,v::vs,x,h=>by
   have h':(match a.of v,Hp (b::r) vs with|some x,some y=>some (x,y)|_,_=>none)=some x:=h
   clear h
   cases h1:a.of v with
   |none=>rw[h1] at h';cases h'
   | some p=>
     cases h2:Hp (b::r) vs with
     |none=>rw[h1,h2] at h';cases h'
     | some q=>
       rw[h1,h2] at h'
       have h':=Cw h'
       subst h'
       show (a.dv p).enc::DV.encL (Eo (b::r) q)=v.enc::DV.encL vs
       rw[(PF h1).1,Xi h2]
theorem dx{q:QT}{v:DV}{x:q.D}(h:q.of v=some x):(q.dv x).enc=v.enc∧v≠.any:=by
 cases q with
 |one t=>exact PF (t:=t) h
 | tup l=>
   cases v<;>try (cases h;done)
   rename_i cs;refine⟨?_,by simp⟩;show PV.tup _=PV.tup _;rw[Xi (l:=l) h]
theorem Sm:∀ (l:List HT) (x:TuX l),(Eo l x).length=l.length
 |[],_=>rfl
 |[_],_=>rfl
 | a::b::r,x=>by
   show (Eo (b::r) x.2).length+1=(b::r).length+1
   rw[Sm (b::r) x.2]
theorem WI{q:Ql}{t:CT}{v:DV}{x:t.D}(hf:t.flat=true)(h:t.ofQ q v=some x):v.flt=true:=by
 cases t<;>first|(cases hf;done)|skip
 all_goals (cases v<;>first|rfl|(cases h;done))
theorem cA:∀ {l:List (Ql×CT)} {vs:List DV} {x:AgX l},l.all (fun a=>a.2.flat)=true→J9 l vs=some x→DV.fltL vs=true
 |[],[],_,_,_=>rfl
 | [a],[v],x,hf,h=>by
   simp only[Ek,Tf,Lj] at hf
   simp only[DV.fltL,WI (q:=a.1) hf h,Cx]
 | a :: b::r,v::vs,x,hf,h=>by
   have h':(match a.2.ofQ a.1 v,J9 (b::r) vs with|some x,some y=>some (x,y)|_,_=>none)=some x:=h
   clear h
   rw[Ek,Af] at hf
   cases h1:a.2.ofQ a.1 v with
   |none=>rw[h1] at h';cases h'
   | some p=>
     cases h2:J9 (b::r) vs with
     |none=>rw[h1,h2] at h';cases h'
     |some q=>simp only[DV.fltL,WI hf.1 h1,cA hf.2 h2,Cx]
theorem WT{t:HT}{v:DV}{x:t.D}(hf:t.flt=true)(h:t.of v=some x):v.flt=true:=by
 cases t with
 |one q t=>exact WI (q:=q) (t:=t) hf h
 | agg l=>
   cases v<;>try (cases h;done)
   exact cA (l:=l) hf h
theorem ct:∀ {l:List HT} {vs:List DV} {x:TuX l},l.all HT.flt=true→Hp l vs=some x→DV.fltL vs=true
 |[],[],_,_,_=>rfl
 | [a],[v],x,hf,h=>by
   simp only[Ek,Tf,Lj] at hf
   simp only[DV.fltL,WT (t:=a) hf h,Cx]
 | a :: b::r,v::vs,x,hf,h=>by
   have h':(match a.of v,Hp (b::r) vs with|some x,some y=>some (x,y)|_,_=>none)=some x:=h
   clear h
   rw[Ek,Af] at hf
   cases h1:a.of v with
   |none=>rw[h1] at h';cases h'
   | some p=>
     cases h2:Hp (b::r) vs with
     |none=>rw[h1,h2] at h';cases h'
     |some q=>simp only[DV.fltL,WT hf.1 h1,ct hf.2 h2,Cx]
theorem cd{q:QT}{v:DV}{x:q.D}(hf:q.flt=true)(h:q.of v=some x):v.flt=true:=by
 cases q with
 |one t=>exact WT (t:=t) hf h
 | tup l=>
   cases v<;>try (cases h;done)
   exact ct (l:=l) hf h
def WY(hs:List HT)(q:QT)(ok:TuX hs→Prop)(v:TuX hs→q.D):Kd:=fun args=>match Hp hs args with
 |some x=>some (.p (ok x),q.dv (v x))
 |none=>none
def DT.valQ(q:QT)(res:List ARes):DT→PX×Option q.D
 |.leaf (.exit _) _=>(.ff,none)
 | .leaf _ st=>(match Ff st res with
   | some v=>if v.ok&&!v.hasPtr then (match q.of v with
     |some y=>(.tt,some y)
     |none=>(.ff,none)) else (.ff,none)
   |none=>(.ff,none))
 | .node c a b=>(match a.valQ q res,b.valQ q res with
   |(g,none),(g',y)=>(PX.if' c g g',y)
   |(g,x),(g',none)=>(PX.if' c g g',x)
   |(g,some x),(g',some y)=>(PX.if' c g g',some (bSel c x y)))
 | .chk g t=>(match t.valQ q res with
   |(g',v)=>(g.land g',v))
 |.bad=>(.ff,none)
theorem Om{q:QT}{res:List ARes}:∀ {t:DT} {g:PX},t.valQ q res=(g,none)→¬ g.den
 | .leaf e st,g,h=>by
   cases e<;>simp only[DT.valQ] at h<;>(repeat' split at h)<;>simp only[Am,reduceCtorEq,and_false,KJ] at h<;>subst h<;>exact id
 | .node c x y,g,h=>by
   intro hg
   simp only[DT.valQ] at h
   cases h1:x.valQ q res with
   | mk g1 v1=>
     cases h2:y.valQ q res with
     | mk g2 v2=>
       rw[h1,h2] at h
       cases v1 with
       | none=>
         simp only[Am] at h
         obtain⟨rfl,rfl⟩:=h
         have:=(PX.if_den _ _ _).mp hg
         cases c with
         |true=>exact Om h1 (this.1 rfl)
         |false=>exact Om h2 (this.2 rfl)
       |some v1=>cases v2<;>simp at h
 | .chk g0 t,g,h=>by
   intro hg
   simp only[DT.valQ] at h
   cases h1:t.valQ q res with
   | mk g1 v1=>
     rw[h1] at h
     simp only[Am] at h
     obtain⟨rfl,rfl⟩:=h
     exact Om h1 ((PX.land_den _ _).mp hg).2
 | .bad,g,h=>by
   simp only[DT.valQ,Am,KJ] at h
   subst h;exact id
theorem S9{q:QT}{res:List ARes}:∀ {t:DT} {g:PX} {y:q.D},t.valQ q res=(g,some y)→g.den →
 t.ok.den∧∃ e st v0,t.lf=some (e,st)∧(∀ i,e≠.exit i)∧Ff st res=some v0∧v0.ok=true∧q.of v0=some y
 | .leaf e st,g,y,h,hg=>by
   have gen:(match Ff st res with|some v=>if (v.ok&&!v.hasPtr)=true then (match q.of v with|some y=>(PX.tt,some y)|none=>(PX.ff,none)) else (PX.ff,none)|none=>(PX.ff,none))=(g,some y)→∃ v,Ff st res=some v∧v.ok=true∧q.of v=some y:=fun h=>by
    split at h
    · rename_i v hv;split at h
      · rename_i hc;simp only[Af] at hc;split at h
        · rename_i y' hy;simp only[Am,Aj] at h;obtain⟨_,rfl⟩:=h;exact⟨v,hv,hc.1,hy⟩
        · simp at h
      · simp at h
    · simp at h
   cases e with
   |exit i=>simp[DT.valQ] at h
   |normal=>obtain⟨v,h1,h2,h3⟩:=gen h;exact⟨trivial,.normal,st,v,rfl,by simp,h1,h2,h3⟩
   |ret=>obtain⟨v,h1,h2,h3⟩:=gen h;exact⟨trivial,.ret,st,v,rfl,by simp,h1,h2,h3⟩
 | .node c a b,g,y,h,hg=>by
   simp only[DT.valQ] at h;show (PX.if' c a.ok b.ok).den∧∃ e st v0,(DT.node c a b).lf=some (e,st)∧(∀ i,e≠.exit i)∧Ff st res=some v0∧v0.ok=true∧q.of v0=some y;rw[PX.if_den]
   cases h1:a.valQ q res with
   | mk g1 v1=>
     cases h2:b.valQ q res with
     | mk g2 v2=>
       rw[h1,h2] at h
       have hgg:g=PX.if' c g1 g2:=by
        cases v1<;>cases v2<;>simp only[Am] at h<;>exact h.1.symm
       subst hgg;have hg:=(PX.if_den _ _ _).mp hg
       cases c with
       | true=>
         have:v1=some y:=by
          cases v1 with
          |none=>exact absurd (hg.1 rfl) (Om h1)
          |some v1=>cases v2<;>simp only[Am,DQ] at h<;>exact h.2
         subst this;obtain⟨k1,k2⟩:=S9 h1 (hg.1 rfl);exact⟨⟨fun _=>k1,fun h=>by cases h⟩,k2⟩
       | false=>
         have:v2=some y:=by
          cases v2 with
          |none=>exact absurd (hg.2 rfl) (Om h2)
          |some v2=>cases v1<;>simp only[Am,Eh] at h<;>exact h.2
         subst this;obtain⟨k1,k2⟩:=S9 h2 (hg.2 rfl);exact⟨⟨fun h=>(by cases h),fun _=>k1⟩,k2⟩
 | .chk g0 t,g,y,h,hg=>by
   simp only[DT.valQ] at h
   cases h1:t.valQ q res with
   | mk g1 v1=>
     rw[h1] at h;simp only[Am] at h;obtain⟨rfl,rfl⟩:=h;have hg:=(PX.land_den _ _).mp hg;obtain⟨k1,k2⟩:=S9 h1 hg.2;exact⟨(PX.land_den _ _).mpr ⟨hg.1,k1⟩,k2⟩
 |.bad,g,y,h,hg=>by simp[DT.valQ] at h
def QT.isB:QT→Bool
 |.one (.one _ .bool)=>true
 |_=>false
def PZ(f:DFun)(hs:List HT)(q:QT)(x:TuX hs):PX×Option q.D:=
 if q.isB then ((PM f (Eo hs x)).1,q.ofO (PM f (Eo hs x)).2)
 else (dev f.body ⟨news (Eo hs x)++K7 (f.nslots-f.nparams),KT f.nbox,[]⟩).valQ q f.res
def Lu(f:DFun)(hs:List HT)(q:QT)(x:TuX hs):q.D:=(PZ f hs q x).2.getD q.dflt
def Ls(f:DFun)(hs:List HT)(q:QT)(x:TuX hs):Prop:=(PZ f hs q x).1.den
def M9(f:DFun)(hs:List HT)(q:QT)(x:TuX hs):Bool:=(PZ f hs q x).2.isSome
def Nr(f:DFun)(hs:List HT)(q:QT):Bool:=hs.length == f.nparams&&(!f.pure||q.flt)
theorem aN {f:DFun} {hs:List HT} {q:QT} (ho:AllD f.body.obs) (hst:Nr f hs q=true) (x:TuX hs) (hc:M9 f hs q x=true) (hok:Ls f hs q x)
 {Q:PV→List (List PV)→Prop} (hQ:∀ H,Q (q.dv (Lu f hs q x)).enc H):MC f.er (DV.encL (Eo hs x)) [] Q:=by
 simp only[Nr,Af,AQ,Cj,BL] at hst
 unfold M9 at hc
 unfold Lu at hQ
 unfold Ls at hok
 unfold PZ at hc hQ hok
 by_cases hb:q.isB=true
 · rw[Ac hb] at hc hQ hok
   cases hd:PM f (Eo hs x) with
   | mk g o=>
     rw[hd] at hc hQ hok
     cases o with
     |none=>cases hc
     | some w=>
       obtain⟨y,hy⟩:=Option.isSome_iff_exists.mp hc;rw[hy] at hQ;have hy:q.of w=some y:=hy;obtain⟨h1,h2⟩:=dx hy
       refine sn ho hd hok h2 (by rw[Sm];exact hst.1) (fun hp=>cd (by simpa [hp] using hst.2) hy) fun H=>?_
       have:=hQ H;rw[KN,h1] at this;exact this
 · rw[Ae hb] at hc hQ hok
   cases hd:(dev f.body ⟨news (Eo hs x)++K7 (f.nslots-f.nparams),KT f.nbox,[]⟩).valQ q f.res with
   | mk g o=>
     rw[hd] at hc hQ hok
     cases o with
     |none=>cases hc
     | some y=>
       simp only[KN] at hQ;obtain⟨k1,e,st,v0,k2,k3,k4,k5,k6⟩:=S9 hd hok;obtain⟨h1,h2⟩:=dx k6;refine⟨by rw[Ex,Sm];exact hst.1,fun _=>rfl,?_⟩
       refine GA f.body ho (d:=⟨news (Eo hs x)++K7 (f.nslots-f.nparams),KT f.nbox,[]⟩) ⟨(EL.news _).append (Vh _),Vr _,trivial⟩ k1 k2 fun s' hs'=>?_
       obtain⟨s2,e2⟩:=bC hs' k4 k5;rw[← h1] at e2
       have fin:(match Ld s' f.res with|some (v,st)=>if f.pure=true then v.flt=true∧Q v [] else Q v st.hp|none=>False):=by
        rw[e2];simp only;split
        · rename_i hpu;exact⟨by rw[h1];exact VQ _ (cd (by simpa [hpu] using hst.2) k6),hQ _⟩
        · exact hQ _
       cases e with
       |normal=>exact fin
       |ret=>exact fin
       |exit i=>exact absurd rfl (k3 i)
theorem tQ{f:DFun}{hs:List HT}{q:QT}(ho:AllD f.body.obs)(hst:Nr f hs q=true)(hc:∀ x,M9 f hs q x=true){ok:TuX hs→Prop}{v:TuX hs→q.D}(hok:∀ x,ok x→Ls f hs q x)(hv:∀ x,Lu f hs q x=v x) :
 Ti (MC f.er) (WY hs q ok v):=by
 intro args g w Q h hg hQ
 unfold WY at h
 cases hx:Hp hs args with
 |none=>rw[hx] at h;cases h
 | some x=>
   rw[hx] at h;simp only[Aj,Am] at h;obtain⟨rfl,rfl⟩:=h;rw[← Xi hx]
   exact aN ho hst x (hc x) (hok x hg) fun H=>by rw[hv];exact hQ H
attribute [irreducible] PZ Lu Ls M9 Nr
def A4:List DV→List DC
 |[]=>[]
 |v::r=>⟨false,v⟩::A4 r
open Go.RowKit Go.WideShapes Go.ChangeShapes
inductive Ty where
 |int (k:IntKind)
 |bool
 |str
 |sl (t:Ty)
 |unit
 |pair (a b:Ty)
def Ty.w:Ty→Nat
 |.int _|.bool|.str|.sl _=>1
 |.unit=>0
 |.pair a b=>a.w+b.w
def PI(P:Program)(f:TypeId→Option Ty):List Field→Nat→Option Ty
 |[],_=>some .unit
 | g::r,off=>
   match f g.type with
   |some a=>if g.offset=off∧a.w=P.cellsOf g.type then (match PI P f r (off+a.w) with|some b=>some (.pair a b)|none=>none) else none
   |none=>none
def Hn(P:Program):Nat→TypeId→Option Ty
 |0,_=>none
 | d+1,t=>
   match P.underlying t with
   |some (.int k)=>some (.int k)
   |some .bool=>some .bool
   |some .string=>some .str
   |some (.slice e)=>(match Hn P d e with|some te=>if te.w=P.cellsOf e∧0<te.w then some (.sl te) else none|none=>none)
   |some (.struct fs)=>(match PI P (Hn P d) fs.toList 0 with|some ty=>if ty.w=P.cellsOf t then some ty else none|none=>none)
   |_=>none
def Sh(σ:Ab):Ty→List V→Prop
 |.int k,cs=>∃ n,cs=[.int k n]∧(Lit.int k n).wf=true
 |.bool,cs=>∃ b,cs=[.bool b]
 |.str,cs=>∃ s,cs=[.str s]∧s.length≤maxLen
 |.sl t,cs=>cs=[.nils]∨∃ (l n:Nat) (bs:List V),cs=[.slice l 0 n]∧σ[l]?=some ⟨.ro,t.w,bs⟩∧bs.length=n*t.w∧n≤maxLen∧∀ i,i<n→Sh σ t ((bs.drop (i*t.w)).take t.w)
 |.unit,cs=>cs=[]
 |.pair a b,cs=>∃ xs ys,cs=xs++ys∧Sh σ a xs∧Sh σ b ys
theorem Sh.len{σ:Ab}:∀ {ty:Ty} {cs:List V},Sh σ ty cs→cs.length=ty.w
 |.int _,_,⟨_,h,_⟩=>by rw[h];rfl
 |.bool,_,⟨_,h⟩=>by rw[h];rfl
 |.str,_,⟨_,h,_⟩=>by rw[h];rfl
 |.sl _,_,h=>by rcases h with h|⟨_,_,_,h,_⟩<;>rw[h]<;>rfl
 |.unit,_,h=>by rw[h];rfl
 |.pair a b,_,⟨xs,ys,h,h1,h2⟩=>by rw[h,EE,h1.len,h2.len];rfl
theorem Sh.mono{σ e:Ab}:∀ {ty:Ty} {cs:List V},Sh σ ty cs→Sh (σ++e) ty cs
 |.int _,_,h=>h
 |.bool,_,h=>h
 |.str,_,h=>h
 | .sl _,_,h=>by
   rcases h with h|⟨l,n,bs,h,h1,h2,h3,h4⟩
   · exact .inl h
   · exact .inr ⟨l,n,bs,h,by rw[Bt (BP h1)];exact h1,h2,h3,fun i hi=>(h4 i hi).mono⟩
 |.unit,_,h=>h
 |.pair _ _,_,⟨xs,ys,h,h1,h2⟩=>⟨xs,ys,h,h1.mono,h2.mono⟩
def Ds(σ:Ab):Prop:=∀ (l:Nat) (b:Blk),σ[l]?=some b→b.k= .ro
def PB(ι:Az)(σ:Ab)(W:World)(ty:Ty)(cs:List Value):Prop:=
 ∃ ι' e vs,HRel ι' (σ++e) W∧Keeps ι σ ι' (σ++e)∧Ds (σ++e)∧Sh (σ++e) ty vs∧vs.length=cs.length∧∀ (i:Nat) v x,vs[i]?=some v→cs[i]?=some x→v.cell=true∧∀ β,Rel ι' (σ++e) β v x
theorem HRel.lay{ι:Az}{σ:Ab}{W:World}(h:HRel ι σ W)(hro:Ds σ){b off c:Nat}{wd:Nat}{bs:List V}(hb:b<W.heap.size)(hc:∀ (i:Nat) v,bs[i]?=some v→v.cell=true∧∃ x,W.cell? ⟨b,off+i,none⟩=some x∧∀ β,Rel ι σ β v x) :
 HRel (upd ι σ.length ⟨b,off,c⟩) (σ++[⟨.ro,wd,bs⟩]) W∧Ds (σ++[⟨.ro,wd,bs⟩]):=by
 have K:=Oc ι σ ⟨b,off,c⟩ ⟨.ro,wd,bs⟩
 have hall:Ds (σ++[⟨.ro,wd,bs⟩]):=by
  intro l blk hl;rcases Ey hl with⟨_,hl⟩|⟨_,rfl⟩
  · exact hro l blk hl
  · rfl
 refine⟨⟨fun l blk hl hk i v hv=>?_,fun l blk hl hk=>?_,fun l l' blk blk' hne hl hl' hk hk'=>?_,fun l blk hl hk=>?_⟩,hall⟩
 · rcases Ey hl with⟨hlt,hl⟩|⟨rfl,rfl⟩
   · rw[Cz _ _ _ _ (by omega)];obtain⟨a,x,b',c⟩:=h.cells l blk hl hk i v hv;exact⟨a,x,b',fun β=>(c β).cellMono K a⟩
   · rw[BT];obtain⟨a,x,b',c⟩:=hc i v hv;exact⟨a,x,b',fun β=>(c β).cellMono K a⟩
 · have:=hall l blk hl;rw[hk] at this;cases this
 · have:=hall l blk hl;rw[hk] at this;cases this
 · rcases Ey hl with⟨hlt,hl⟩|⟨rfl,rfl⟩
   · rw[Cz _ _ _ _ (by omega)];exact h.there l blk hl hk
   · rw[BT];exact hb
theorem pR{w:World}{a:Addr}{v:Value}(h:w.cell? a=some v):a.block<w.heap.size:=by
 unfold World.cell? at h;rcases Bx a.block w.heap.size with h1|h1
 · exact h1
 · rw[Array.getElem?_eq_none h1] at h;cases h
theorem Th{α:Type}{l:List α}{i:Nat}{v:α}(h:l[i]?=some v):i<l.length:=by
 rcases Bx i l.length with h1|h1
 · exact h1
 · rw[Bl h1] at h;cases h
section
variable {H:Type} {enc:TypeId×Value→H} {P:Program} {W:World}
theorem Yx(d:Nat)(ih:∀ (t:TypeId)(ty:Ty),Hn P d t=some ty→∀ (fuel:Nat)(cs:List Value) x,DataW.trod enc P W 0 (fun _=>true) true fuel t cs=some x→∀ (ι:Az)(σ:Ab),HRel ι σ W→Ds σ→PB ι σ W ty cs) :
 ∀ (fs:List Field) (off:Nat) (ty:Ty),PI P (Hn P d) fs off=some ty→∀ (fuel:Nat) (cs:List Value),(∀ g∈fs,∃ x,DataW.trod enc P W 0 (fun _=>true) true fuel g.type ((cs.drop g.offset).take (P.cellsOf g.type))=some x) →
   off+ty.w=cs.length→∀ (ι:Az) (σ:Ab),HRel ι σ W→Ds σ→PB ι σ W ty (cs.drop off)
 | [],off,ty,h,fuel,cs,_,hl,ι,σ,H,hro=>by
   simp only[PI,Aj] at h;subst h;simp only[Ty.w,DR] at hl
   have:cs.drop off=[]:=by rw[hl];simp
   rw[this];exact⟨ι,[],[],by simpa using H,by simpa using Keeps.refl ι σ,by simpa using hro,rfl,rfl,by simp⟩
 | g :: r, off,ty,h,fuel,cs,hg,hl,ι,σ,H,hro=>by
   simp only[PI] at h;split at h
   · rename_i a ha;split at h
     · rename_i hc;obtain⟨h1,h2⟩:=hc;split at h
       · rename_i b hb;cases h;simp only[Ty.w] at hl;obtain⟨x,hx⟩:=hg g (by simp);rw[h1] at hx;obtain⟨ι1,e1,vs1,H1,K1,R1,S1,L1,C1⟩:=ih g.type a ha fuel _ x hx ι σ H hro;obtain⟨ι2,e2,vs2,H2,K2,R2,S2,L2,C2⟩:=Yx d ih r (off+a.w) b hb fuel cs (fun g' hg'=>hg g' (by simp[hg'])) (by omega) ι1 (σ++e1) H1 R1;refine⟨ι2,e1++e2,vs1++vs2,by rw[← BC];exact H2,by rw[← BC];exact K1.trans K2,by rw[← BC];exact R2,⟨vs1,vs2,rfl,by rw[← BC];exact S1.mono,by rw[← BC];exact S2⟩,?_,fun i v y hv hy=>?_⟩
         · rw[EE,L1,L2];simp;omega
         · have hl1:vs1.length=a.w:=S1.len;by_cases hi:i<vs1.length
           · rw[Bt hi] at hv
             have hy':((cs.drop off).take (P.cellsOf g.type))[i]?=some y:=by
              rw[Gx,Ac (by omega)];exact hy
             obtain⟨q1,q2⟩:=C1 i v y hv hy';exact⟨q1,fun β=>by rw[← BC];exact(q2 β).cellMono K2 q1⟩
           · rw[CA (by omega)] at hv
             have hy':(cs.drop (off+a.w))[i-vs1.length]?=some y:=by
              rw[KU] at hy ⊢
              have:off+a.w+(i-vs1.length)=off+i:=by omega
              rw[this];exact hy
             obtain⟨q1,q2⟩:=C2 _ v y hv hy';exact⟨q1,fun β=>by rw[← BC];exact q2 β⟩
       · cases h
     · cases h
   · cases h
theorem bj{b o:Nat}(n:Nat):Addr.add ⟨b,o,none⟩ n=⟨b,o+n,none⟩:=by
 unfold Addr.add;split
 · rename_i h;subst h;rfl
 · rfl
theorem YO {d:Nat} (ih:∀ (t:TypeId) (ty:Ty),Hn P d t=some ty→∀ (fuel:Nat) (cs:List Value) x,DataW.trod enc P W 0 (fun _=>true) true fuel t cs=some x→∀ (ι:Az) (σ:Ab),HRel ι σ W→Ds σ→PB ι σ W ty cs)
 {e:TypeId} {te:Ty} (hte:Hn P d e=some te) (hw:te.w=P.cellsOf e) {fuel b o:Nat} :
 ∀ (n:Nat),(∀ i,i<n→∃ cs x,W.cells? 0 ⟨b,o+i*te.w,none⟩ te.w=some cs∧DataW.trod enc P W 0 (fun _=>true) true fuel e cs=some x)→∀ (ι:Az) (σ:Ab),HRel ι σ W→Ds σ →
   ∃ (ι':Az) (ext:Ab) (bs:List V),HRel ι' (σ++ext) W∧Keeps ι σ ι' (σ++ext)∧Ds (σ++ext)∧bs.length=n*te.w∧(∀ i,i<n→Sh (σ++ext) te ((bs.drop (i*te.w)).take te.w)) ∧
     ∀ (j:Nat) v,bs[j]?=some v→v.cell=true∧∃ x,W.cell? ⟨b,o+j,none⟩=some x∧∀ β,Rel ι' (σ++ext) β v x
 |0,_,ι,σ,H0,hro=>⟨ι,[],[],by simpa using H0,by simpa using Keeps.refl ι σ,by simpa using hro,by simp,fun i hi=>absurd hi (Pm i),by simp⟩
 | n + 1,hn,ι,σ,H0,hro=>by
   obtain⟨ι1,e1,bs,H1,K1,R1,L1,S1,C1⟩:=YO ih hte hw n (fun i hi=>hn i (Nat.lt_succ_of_lt hi)) ι σ H0 hro;obtain⟨cs,x,hc,hx⟩:=hn n (Pg n);obtain⟨ι2,e2,vs,H2,K2,R2,S2,L2,C2⟩:=ih e te hte fuel cs x hx ι1 (σ++e1) H1 R1;obtain⟨_,hcl,hcg⟩:=World.cells?_some hc;refine⟨ι2,e1++e2,bs++vs,by rw[← BC];exact H2,by rw[← BC];exact K1.trans K2,by rw[← BC];exact R2,?_,fun i hi=>?_,fun j v hv=>?_⟩
   · rw[EE,L1,L2,hcl,KM]
   · rw[← BC];by_cases h:i<n
     · have h1:(i+1)*te.w≤n*te.w:=Fb _ h;rw[KM] at h1
       have:((bs++vs).drop (i*te.w)).take te.w=(bs.drop (i*te.w)).take te.w:=by
        rw[List.drop_append_of_le_length (by omega),List.take_append_of_le_length (by rw[O9];omega)]
       rw[this];exact(S1 i h).mono
     · have:i=n:=by omega
       subst this
       have:((bs++vs).drop (i*te.w)).take te.w=vs:=by
        rw[← L1,List.drop_left,WQ (by omega)]
       rw[this];exact S2
   · by_cases h:j<bs.length
     · rw[Bt h] at hv;obtain⟨q1,y,q2,q3⟩:=C1 j v hv;exact⟨q1,y,q2,fun β=>by rw[← BC];exact(q3 β).cellMono K2 q1⟩
     · rw[CA (by omega)] at hv;have hlt:=Th hv
       have hlt':j-bs.length<te.w:=by rw[← hcl,← L2];exact hlt
       have hg:=hcg (j-bs.length) hlt';rw[bj] at hg
       have e0:o+n*te.w+(j-bs.length)=o+j:=by omega
       rw[e0] at hg;obtain⟨y,hy⟩:∃ y,cs[j-bs.length]?=some y:=⟨_,A3 (by omega)⟩;obtain⟨q1,q2⟩:=C2 _ v y hv hy;exact⟨q1,y,hg.trans hy,fun β=>by rw[← BC];exact q2 β⟩
theorem Uy:∀ (d:Nat) (t:TypeId) (ty:Ty),Hn P d t=some ty→∀ (fuel:Nat) (cs:List Value) x,DataW.trod enc P W 0 (fun _=>true) true fuel t cs=some x→∀ (ι:Az) (σ:Ab),HRel ι σ W→Ds σ→PB ι σ W ty cs
 |0,_,_,h=>by simp[Hn] at h
 | d + 1, t, ty,h=>by
   intro fuel cs x hx ι σ H0 hro
   have one:∀ (v:V) (y:Value),cs=[y]→v.cell=true→(∀ β,Rel ι σ β v y)→Sh σ ty [v]→PB ι σ W ty cs:=by
    intro v y hc hv hr hs;refine⟨ι,[],[v],by simpa using H0,by simpa using Keeps.refl ι σ,by simpa using hro,by simpa using hs,by rw[hc];rfl,fun i u z hu hz=>?_⟩;rw[hc] at hz
    cases i with
    |zero=>simp at hu hz;subst hu;subst hz;exact⟨hv,by simpa using hr⟩
    |succ i=>simp at hu
   unfold Hn at h;split at h
   · rename_i k hu;cases h;obtain⟨n,hc,_,hwf⟩:=DataW.trod_int hu hx;exact one (.int k n) _ hc rfl (fun β=>.int k n) ⟨n,rfl,hwf⟩
   · rename_i hu;cases h;obtain⟨b,hc,_⟩:=DataW.trod_bool hu hx;exact one (.bool b) _ hc rfl (fun β=>.bool b) ⟨b,rfl⟩
   · rename_i hu;cases h;obtain⟨s,hc,_,hwf⟩:=DataW.trod_string hu hx;exact one (.str s.data.toList) _ hc rfl (fun β=>by have:=Rel.str (ι:=ι) (σ:=σ) (β:=β) s.data.toList;simpa using this) ⟨s.data.toList,rfl,by simpa using hwf⟩
   · rename_i e hu;split at h
     · rename_i te hte;split at h
       · rename_i hw;obtain⟨hw,hpos⟩:=hw;cases h;rcases DataW.trod_slice hu hx with⟨hc,_⟩|⟨a,len,cap,elems,rest,n,_,hc,_,_,hle,hcap,hel,hE,hR,_⟩
         · exact one .nils _ hc rfl (fun β=>.nils none) (.inl rfl)
         · obtain⟨hrl,hR⟩:=hR rfl
           have hcell:∀ i,i<cap→∃ cs' y,W.cells? 0 (a.add (i*P.cellsOf e)) (P.cellsOf e)=some cs'∧DataW.trod enc P W 0 (fun _=>true) true n e cs'=some y:=by
            intro i hi;by_cases h:i<len
            · have h1:=hE i h;obtain⟨y,hy⟩:∃ y,elems[i]?=some y:=⟨_,A3 (by omega)⟩;rw[hy,BJ] at h1;obtain⟨cs',h1,h2⟩:=h1;exact⟨cs',y,h1,h2⟩
            · have h1:=hR (i-len) (by omega);obtain⟨y,hy⟩:∃ y,rest[i-len]?=some y:=⟨_,A3 (by omega)⟩;rw[hy,BJ] at h1;obtain⟨cs',h1,h2⟩:=h1;rw[show len+(i-len)=i by omega] at h1;exact⟨cs',y,h1,h2⟩
           by_cases hc0:cap=0
           · subst hc0
             have:len=0:=by omega
             subst this;exact one .nils _ hc rfl (fun β=>.nils (some a)) (.inl rfl)
           · have hsp:a.spot=none∧a.block<W.heap.size:=by
              obtain⟨cs',y,h1,_⟩:=hcell 0 (by omega);obtain⟨_,h2,h3⟩:=World.cells?_some h1;have h4:=h3 0 (by omega);obtain⟨z,hz⟩:∃ z,cs'[0]?=some z:=⟨_,A3 (by omega)⟩;rw[hz] at h4
              have h5:W.cell? a=some z:=by simpa [Addr.add] using h4
              exact⟨World.cell?_spot h5,pR h5⟩
             obtain⟨ab,ao,asp⟩:=a;obtain⟨hsp,hlt⟩:=hsp;simp only at hsp hlt;subst hsp
             have hcell':∀ i,i<len→∃ cs' y,W.cells? 0 ⟨ab,ao+i*te.w,none⟩ te.w=some cs'∧DataW.trod enc P W 0 (fun _=>true) true n e cs'=some y:=by
              intro i hi;have:=hcell i (by omega);rw[bj,← hw] at this;exact this
             obtain⟨ι1,e1,bs,H1,K1,R1,L1,S1,C1⟩:=YO (Uy d) hte hw len hcell' ι σ H0 hro;obtain⟨H2,R2⟩:=H1.lay R1 (c:=cap*te.w) (wd:=te.w) hlt C1;have K2:=Oc ι1 (σ++e1) ⟨ab,ao,cap*te.w⟩ ⟨.ro,te.w,bs⟩
             have hg:((σ++e1)++[(⟨.ro,te.w,bs⟩:Blk)])[(σ++e1).length]?=some ⟨.ro,te.w,bs⟩:=by simp
             refine⟨_,e1++[⟨.ro,te.w,bs⟩],[.slice (σ++e1).length 0 len],by rw[← BC];exact H2,by rw[← BC];exact K1.trans K2,by rw[← BC];exact R2,.inr ⟨_,len,bs,rfl,by rw[← BC];exact hg,L1,by omega,fun i hi=>by rw[← BC];exact(S1 i hi).mono⟩,by rw[hc];rfl,fun i u z hu hz=>?_⟩;rw[hc] at hz
             cases i with
             | zero=>
               simp at hu hz;subst hu;subst hz;refine⟨rfl,fun β=>?_⟩;have:=Rel.slice (ι:=upd ι1 (σ++e1).length ⟨ab,ao,cap*te.w⟩) (σ:=(σ++e1)++[⟨.ro,te.w,bs⟩]) (β:=β) (σ++e1).length 0 len cap ⟨.ro,te.w,bs⟩ hg hle (by rw[BT];simp) (by first|assumption|(simp only;omega));rw[BT] at this;simpa using this
             |succ i=>simp at hu
       · cases h
     · cases h
   · rename_i fs hu;split at h
     · rename_i ty' hty;split at h
       · rename_i hw;cases h;obtain⟨xs,n,_,_,hl,hxl,hf⟩:=DataW.trod_struct hu hx
         have:=Yx (enc:=enc) d (Uy d) fs.toList 0 _ hty n cs (fun g hg=>by
          obtain⟨i,hi⟩:=G6 hg;have h1:=hf i g (by simpa using hi)
          have:i<xs.length:=by rw[hxl];have:=Th hi;simpa using this
          exact⟨_,h1.trans (A3 this)⟩) (by omega) ι σ H0 hro
         simpa using this
       · cases h
     · cases h
   · cases h
end
open Go.RowKit Go.WideShapes Go.ChangeShapes
def W7(P:Program)(d:Nat)(t:TypeId):Option (Ty×Bool):=
 match Hn P d t with
 | some ty=>(match P.underlying t with
   |some (.struct _)=>some (ty,true)
   |some (.int _)|some .bool|some .string|some (.slice _)=>some (ty,false)
   |_=>none)
 |none=>none
def MZ(P:Program)(d:Nat):List TypeId→Option (List (Ty×Bool))
 |[]=>some []
 | t::r=>match W7 P d t,MZ P d r with
   |some a,some b=>some (a::b)
   |_,_=>none
def ArgOk(σ:Ab):Ty×Bool→V→Prop
 |(ty,true),v=>∃ cs,v= .agg cs∧Sh σ ty cs∧cs.all V.cell=true
 |(ty,false),v=>Sh σ ty [v]∧v.cell=true
def MN(σ:Ab):List (Ty×Bool)→List V→Prop
 |[],[]=>True
 |a::r,v::s=>ArgOk σ a v∧MN σ r s
 |_,_=>False
theorem ArgOk.mono{σ e:Ab}{a:Ty×Bool}{v:V}(h:ArgOk σ a v):ArgOk (σ++e) a v:=by
 obtain⟨ty,b⟩:=a
 cases b with
 |true=>obtain⟨cs,h1,h2,h3⟩:=h;exact⟨cs,h1,h2.mono,h3⟩
 |false=>exact⟨h.1.mono,h.2⟩
theorem ArgOk.noBox{σ:Ab}{a:Ty×Bool}{v:V}(h:ArgOk σ a v):∀ i o,v≠.box i o:=by
 obtain⟨ty,b⟩:=a;intro i o e;subst e
 cases b with
 |true=>obtain⟨cs,h1,_⟩:=h;cases h1
 |false=>have:=h.2;cases this
section
variable {H:Type} {enc:TypeId×Value→H} {P:Program} {W:World} {r:Reach} {base:Nat}
theorem uv {d:Nat} {t:TypeId} {a:Ty×Bool} (ha:W7 P d t=some a) {v:Value} {dd:DataW H} {ps:List MemPlace} (h:DataW.Trod enc P W 0 (fun _=>true) true t v dd ps) (hok:Value.okWide P W r base t v)
 (ι:Az) (σ:Ab) (H0:HRel ι σ W) (hro:Ds σ) :
 ∃ ι' e u,HRel ι' (σ++e) W∧Keeps ι σ ι' (σ++e)∧Ds (σ++e)∧ArgOk (σ++e) a u∧∀ β,Rel ι' (σ++e) β u v:=by
 unfold W7 at ha
 split at ha
 · rename_i ty hty
   obtain⟨fuel,hx⟩:=h;obtain⟨ι',e,vs,h1,h2,h3,h4,h5,h6⟩:=Uy d t ty hty fuel _ _ hx ι σ H0 hro
   have one:∀ (hc:v.cells=#[v]),a=(ty,false)→∃ ι' e u,HRel ι' (σ++e) W∧Keeps ι σ ι' (σ++e)∧Ds (σ++e)∧ArgOk (σ++e) a u∧∀ β,Rel ι' (σ++e) β u v:=by
    intro hc ea;rw[hc] at h5 h6
    match vs,h5,h4,h6 with
    | [u],_,h4,h6=>
      obtain⟨c1,c2⟩:=h6 0 u v rfl rfl;exact⟨ι',e,u,h1,h2,h3,by rw[ea];exact⟨h4,c1⟩,c2⟩
   split at ha
   · rename_i fs hu;cases ha;obtain⟨cs,rfl,_⟩:=okWide_struct hu hok;replace h5:vs.length=cs.toList.length:=h5;refine⟨ι',e,.agg vs,h1,h2,h3,⟨vs,rfl,h4,?_⟩,fun β=>?_⟩
     · rw[CC];intro u hu';obtain⟨i,hi⟩:=G6 hu'
       have:i<cs.toList.length:=by rw[← h5];exact Th hi
       exact(h6 i u _ hi (A3 this)).1
     · have:=Rel.agg (ι:=ι') (σ:=σ++e) (β:=β) vs cs.toList h5 (fun u hu'=>by
        obtain⟨i,hi⟩:=G6 hu'
        have:i<cs.toList.length:=by rw[← h5];exact Th hi
        exact(h6 i u _ hi (A3 this)).1) (fun i u w hi hw=>(h6 i u w hi hw).2 β)
       simpa using this
   · rename_i k hu;cases ha;obtain⟨n,rfl⟩:=okWide_int hu hok;exact one rfl rfl
   · rename_i hu;cases ha;obtain⟨n,rfl⟩:=okWide_bool hu hok;exact one rfl rfl
   · rename_i hu;cases ha;obtain⟨n,rfl⟩:=okWide_string hu hok;exact one rfl rfl
   · rename_i el hu;cases ha;obtain⟨x,y,z,rfl⟩:=okWide_slice hu hok;exact one rfl rfl
   · cases ha
 · cases ha
theorem YV{d:Nat}:∀ {ts:List TypeId} {tys:List (Ty×Bool)},MZ P d ts=some tys→∀ {vs:List Value} {ds:List (DataW H)} {ps:List MemPlace},DataW.TrodAll enc P W 0 (fun _=>true) true ts vs ds ps →
 (∀ (j:Nat) t v,ts[j]?=some t→vs[j]?=some v→Value.okWide P W r base t v)→∀ (ι:Az) (σ:Ab),HRel ι σ W→Ds σ →
 ∃ ι' e us,HRel ι' (σ++e) W∧Keeps ι σ ι' (σ++e)∧Ds (σ++e)∧MN (σ++e) tys us∧us.length=vs.length∧∀ (i:Nat) u v,us[i]?=some u→vs[i]?=some v→(∀ j o,u≠.box j o)∧∀ β,Rel ι' (σ++e) β u v
 | [],tys,h,vs,ds,ps,hd,_,ι,σ,H0,hro=>by
   obtain⟨rfl,_,_⟩:=trodAll_nil hd
   cases h
   exact⟨ι,[],[],by simpa using H0,by simpa using Keeps.refl ι σ,by simpa using hro,trivial,rfl,by simp⟩
 | t :: ts,tys,h,vs,ds,ps,hd,hok,ι,σ,H0,hro=>by
   obtain⟨v,vs',x,ds',p,q,rfl,rfl,rfl,h1,h2⟩:=trodAll_cons hd
   unfold MZ at h
   split at h
   · rename_i a b ha hb
     cases h
     obtain⟨ι1,e1,u,H1,K1,R1,A1,C1⟩:=uv ha h1 (hok 0 t v rfl rfl) ι σ H0 hro
     obtain⟨ι2,e2,us,H2,K2,R2,A2,L2,C2⟩:=YV hb h2 (fun j t' v' hj hv=>hok (j+1) t' v' hj hv) ι1 (σ++e1) H1 R1
     refine⟨ι2,e1++e2,u::us,by rw[← BC];exact H2,by rw[← BC];exact K1.trans K2,by rw[← BC];exact R2,by rw[← BC];exact⟨A1.mono,A2⟩,by simp[L2],fun i u' v' hu hv=>?_⟩
     rw[← BC]
     cases i with
     | zero=>
       simp at hu hv;subst hu;subst hv
       exact⟨A1.noBox,fun β=>(C1 β).mono K2 (fun j o e=>absurd e (A1.noBox j o))⟩
     |succ i=>exact C2 i u' v' (by simpa using hu) (by simpa using hv)
   · cases h
end
def WH(P:Program)(ts:List TypeId):Bool:=ts.all fun t=>P.readableRec t&&decide (t<P.types.size)
theorem Yr{H:Type}{enc:TypeId×Value→H}{P:Program}(hl:laidOutB P=true){W W':World}{sp':Nat→Bool}:∀ {ts:List TypeId} {vs:List Value} {ds:List (DataW H)} {ps:List MemPlace},WH P ts=true →
 DataW.TrodAll enc P W 0 (fun _=>true) true ts vs ds ps→(∀ p∈ps,W.sameAt W' p)→(∀ p∈ps,sp' p.block=true)→DataW.TrodAll enc P W' 0 sp' true ts vs ds ps
 | [],vs,ds,ps,_,h,_,_=>by
   obtain⟨rfl,rfl,rfl⟩:=trodAll_nil h
   rfl
 | t::ts,vs,ds,ps,hr,h,h1,h2=>by
   obtain⟨v,vs',x,ds',p,q,rfl,rfl,rfl,g1,g2⟩:=trodAll_cons h
   unfold WH at hr
   rw[Ek,Af,Af,AD] at hr
   exact⟨p,q,WideElems.Trod_stays hl hr.1.1 hr.1.2 g1 (fun y hy=>h1 y (by simp[hy])) (fun y hy=>h2 y (by simp[hy])),Yr hl hr.2 g2 (fun y hy=>h1 y (by simp[hy])) (fun y hy=>h2 y (by simp[hy])),rfl⟩
theorem pA {H:Type} {enc:TypeId×Value→H} {P:Program} {f:Func} {s:ChangeSpec} {apart fresh handsOn again:Bool} {W W':World} {args:Array Value} {v:Value} {ds gs:List (DataW H)} {before pa pv:List MemPlace}
 (hW:DataW.Whole enc P f.params.toList s.vars apart W args.toList ds gs before)
 (hres:∀ (b:Nat) (sp:Nat→Bool) (hd:Bool),DataW.TrodAll enc P W' b sp hd f.resultTypes.toList (v.resultList f.resultTypes.size) (s.fn H (ds++gs)).results [])
 (hargs:∀ sp:Nat→Bool,(∀ p∈before,sp p.block=true)→DataW.TrodAll enc P W' 0 sp true f.params.toList args.toList (s.fn H (ds++gs)).args pa)
 (hvars:∀ sp:Nat→Bool,(∀ p∈before,sp p.block=true)→DataW.TrodVars enc P W' sp s.vars (s.fn H (ds++gs)).vars pv)
 (hps:before=pa++pv) (hb:Below W.heap.size W W')
 (hok:∀ (j:Nat) (t:TypeId) (r:Value),f.resultTypes[j]?=some t→(v.resultList f.resultTypes.size)[j]?=some r→Value.okWide P W' .any 0 t r) :
 s.post enc P f apart fresh handsOn again W args v W':=by
 have hlt:∀ p∈before,p.block<W.heap.size:=fun p hp=>hW.lt p hp
 have hold:∀ p∈before,(fun b=>decide (b<W.heap.size)) p.block=true:=fun p hp=>by simpa using hlt p hp
 refine⟨ds,gs,before,[],pa,pv,hW,hres _ _ _,hargs _ hold,hvars _ hold,World.keptBut_mono (fun p hp=>⟨hp,?_⟩) (hb.frame (·∈before)),fun _=>?_⟩
 · rw[hps,Ej] at hp
   exact Or.inr hp
 · obtain⟨_,_,_,_,_,hz,hn⟩:=hW
   refine⟨hok,_,_,([]++pa)++pv,⟨[]++pa,pv,trodAll_append (hargs _ (fun _ _=>rfl)) (hres _ _ _),hvars _ (fun _ _=>rfl),rfl,?_,?_⟩,?_⟩
   · intro b off hp
     have hin:MemPlace.cell b off∈before:=by rw[hps];simpa using hp
     rw[hb.frozen (hlt _ hin)];exact hz b off hin
   · intro ha;have:=hn ha;rw[hps] at this;simpa using this
   · intro p hp _;rw[hps];simpa using hp
theorem qi {H:Type} {enc:TypeId×Value→H} {P:Program} {f:FuncId} {fn:Func} {s:ChangeSpec} {apart fresh handsOn again:Bool} {sem:Bb} {tys:List (Ty×Bool)} {d:Nat} {tb:TypeId}
 (hs:Au P f sem) (has:MZ P d fn.params.toList=some tys) (hrows:WH P fn.params.toList=true) (hl:laidOutB P=true)
 (hres:fn.resultTypes=#[tb]) (htb:P.underlying tb=some .bool) (hvars:s.vars=[])
 (hspec:∀ ds:List (DataW H),ds.length=tys.length→s.fn H ds={ results:=[.lit (.bool true)],args:=ds })
 (law:∀ (σ:Ab) (us:List V),Ds σ→MN σ tys us→sem us σ fun r _=>r= .bool true)
 {W:World} {base:Nat} {args:Array Value} {ds gs:List (DataW H)} {before:List MemPlace}
 (hval:∀ (j:Nat) t v,fn.params[j]?=some t→args[j]?=some v→Value.okWide P W .any base t v)
 (hW:DataW.Whole enc P fn.params.toList s.vars apart W args.toList ds gs before) :
 Calls P f args W fun e W'=>∃ v,e= .returned v∧s.post enc P fn apart fresh handsOn again W args v W':=by
 have hW':=hW
 obtain⟨p,q,hA,hV,rfl,hfz,hnd⟩:=hW
 rw[hvars] at hV
 obtain⟨rfl,rfl⟩:=trodVars_none hV
 rw[O8] at hW'
 obtain⟨ι,e,us,H1,_,R1,A1,L1,C1⟩:=YV (d:=d) has hA (fun j t v hj hv=>hval j t v (by simpa using hj) (by simpa using hv)) (fun _=>⟨0,0,0⟩) [] ⟨by simp,by simp,by simp,by simp⟩ (fun l b h=>by simp at h)
 simp only[B4] at H1 R1 A1 C1
 have hc:=hs Phm.no ι e W us args.toList _ (.no e) (by rw[SH];exact H1) (by rw[SH];exact⟨L1,fun i u v hu hv=>(C1 i u v hu hv).2⟩) (law e us R1 A1)
 have hlen:ds.length=tys.length:=by
  have h1:∀ {ts:List TypeId} {tys:List (Ty×Bool)},MZ P d ts=some tys→tys.length=ts.length:=by
   intro ts
   induction ts with
   |nil=>intro tys h;cases h;rfl
   | cons t ts ih=>
     intro tys h;unfold MZ at h;split at h
     · rename_i a b _ hb;cases h;simp[ih hb]
     · cases h
  have h2:∀ {ts:List TypeId} {vs:List Value} {ds:List (DataW H)} {ps:List MemPlace},DataW.TrodAll enc P W 0 (fun _=>true) true ts vs ds ps→ds.length=ts.length:=by
   intro ts
   induction ts with
   |nil=>intro vs ds ps h;obtain⟨_,rfl,_⟩:=trodAll_nil h;rfl
   | cons t ts ih=>
     intro vs ds ps h;obtain⟨v,vs',x,ds',p,q,rfl,rfl,rfl,_,g2⟩:=trodAll_cons h;simp[ih g2]
  rw[h1 has,h2 hA]
 refine(Calls.mono (by simpa using hc) fun en W' hd=>?_:Calls P f args W _)
 obtain⟨x,r,σ',ι',rfl,rfl,_,hx,_,hstep⟩:=hd
 rw[SH,SH] at hstep
 have hx':=hx (fun _=>0)
 cases hx'
 have hb:Below W.heap.size W W':=⟨hstep.os,hstep.tape,hstep.output,hstep.size,fun k hk=>hstep.frame k hk fun l blk hl hk'=>by have:=R1 l blk hl;rw[hk'] at this;cases this⟩
 have hfn:=hspec (ds++[]) (by simpa using hlen)
 have hlt:∀ x∈p,x.block<W.heap.size:=fun x hx=>hW'.lt x hx
 refine⟨_,rfl,pA (pa:=p) (pv:=[]) hW' (fun _ _ _=>?_) (fun sp hsp=>?_) (fun sp _=>?_) (by simp) hb (ok_one hres rfl (okWide_bool_mk htb true))⟩
 · rw[hfn,hres]
   exact trodAll_cons_mk (shut_bool htb true) trodAll_mk0
 · rw[hfn]
   simp only[O8];exact Yr hl hrows hA (fun x hx=>hb.same (hlt x hx)) hsp
 · rw[hfn,hvars]
   rfl
open Go.ChangeShapes
mutual
def CT.wf:(t:CT)→t.D→Prop
 |.int k,n=>(Lit.int k n).wf=true
 |.bool,_=>True
 |.str,s=>s.length≤maxLen
 |.ifc,_=>True
 |.sl r,l=>@List.length r.D l≤maxLen∧∀ x:r.D,@Membership.mem r.D (List r.D) inferInstance l x→RT.wf r x
def RT.wf:(r:RT)→r.D→Prop
 |.one t,x=>CT.wf t x
 |.cons t r,x=>CT.wf t x.1∧RT.wf r x.2
end
def AgX.wf:(l:List (Ql×CT))→AgX l→Prop
 |[],_=>True
 |[a],x=>a.2.wf x
 |a::b::r,x=>a.2.wf x.1∧AgX.wf (b::r) x.2
def HT.wf:(h:HT)→h.D→Prop
 |.one _ t,x=>t.wf x
 |.agg l,x=>AgX.wf l x
def TuX.wf:(l:List HT)→TuX l→Prop
 |[],_=>True
 |[a],x=>a.wf x
 |a::b::r,x=>a.wf x.1∧TuX.wf (b::r) x.2
def Fo:List CT→RT
 |[]=>.one .bool
 |[a]=>.one a
 |a::b::r=>.cons a (Fo (b::r))
def Ty.cts:Ty→List CT
 |.int k=>[.int k]
 |.bool=>[.bool]
 |.str=>[.str]
 |.sl t=>[.sl (Fo t.cts)]
 |.unit=>[]
 |.pair a b=>a.cts++b.cts
def Ty.good:Ty→Bool
 |.sl t=>Nat.blt 0 t.w&&t.good
 |.pair a b=>a.good&&b.good
 |_=>true
def Ke:Ty×Bool→HT
 |(ty,true)=>.agg (ty.cts.map fun t=>(.frz,t))
 |(ty,false)=>match ty.cts with|[c]=>.one .frz c|_=>.agg []
def SK:Ty×Bool→Bool
 |(ty,true)=>ty.good
 |(ty,false)=>ty.good&&ty.cts.length == 1
def DL:List CT→Type
 |[]=>Unit
 |a::r=>a.D×DL r
def DL.wf:(l:List CT)→DL l→Prop
 |[],_=>True
 |a::r,x=>a.wf x.1∧DL.wf r x.2
def DL.enc:(l:List CT)→DL l→List PV
 |[],_=>[]
 |a::r,x=>CT.enc a x.1::DL.enc r x.2
def DL.encF:(l:List CT)→DL l→List PV
 |[],_=>[]
 |a::r,x=>(CT.dv .frz a x.1).enc::DL.encF r x.2
def DL.app:(l m:List CT)→DL l→DL m→DL (l++m)
 |[],_,_,y=>y
 |_::l,m,x,y=>(x.1,DL.app l m x.2 y)
theorem DL.app_enc:∀ (l m:List CT) (x:DL l) (y:DL m),DL.enc (l++m) (DL.app l m x y)=DL.enc l x++DL.enc m y
 |[],_,_,_=>rfl
 | a::l,m,x,y=>by
   show CT.enc a x.1::DL.enc (l++m) (DL.app l m x.2 y)=CT.enc a x.1::(DL.enc l x.2++DL.enc m y)
   rw[DL.app_enc l m x.2 y]
theorem DL.app_encF:∀ (l m:List CT) (x:DL l) (y:DL m),DL.encF (l++m) (DL.app l m x y)=DL.encF l x++DL.encF m y
 |[],_,_,_=>rfl
 | a::l,m,x,y=>by
   show (CT.dv .frz a x.1).enc::DL.encF (l++m) (DL.app l m x.2 y)=(CT.dv .frz a x.1).enc::(DL.encF l x.2++DL.encF m y)
   rw[DL.app_encF l m x.2 y]
theorem DL.app_wf:∀ (l m:List CT) (x:DL l) (y:DL m),DL.wf l x→DL.wf m y→DL.wf (l++m) (DL.app l m x y)
 |[],_,_,_,_,h=>h
 |_::l,m,x,y,h,h'=>⟨h.1,DL.app_wf l m x.2 y h.2 h'⟩
theorem DL.len:∀ (l:List CT) (x:DL l),(DL.enc l x).length=l.length
 |[],_=>rfl
 |_::l,x=>by show _+1=_+1;rw[DL.len l x.2]
theorem DL.lenF:∀ (l:List CT) (x:DL l),(DL.encF l x).length=l.length
 |[],_=>rfl
 |_::l,x=>by show _+1=_+1;rw[DL.lenF l x.2]
def DL.rt:(l:List CT)→DL l→(Fo l).D
 |[],_=>false
 |[_],x=>x.1
 |_::b::r,x=>(x.1,DL.rt (b::r) x.2)
theorem DL.rt_enc:∀ (l:List CT) (x:DL l),l≠[]→RT.enc (Fo l) (DL.rt l x)=DL.enc l x
 |[],_,h=>absurd rfl h
 |[_],_,_=>rfl
 | a::b::r,x,_=>by
   show CT.enc a x.1::RT.enc (Fo (b::r)) (DL.rt (b::r) x.2)=CT.enc a x.1::DL.enc (b::r) x.2
   rw[DL.rt_enc (b::r) x.2 (by simp)]
theorem DL.rt_wf:∀ (l:List CT) (x:DL l),l≠[]→DL.wf l x→RT.wf (Fo l) (DL.rt l x)
 |[],_,h,_=>absurd rfl h
 |[_],_,_,h=>h.1
 |a::b::r,x,_,h=>⟨h.1,DL.rt_wf (b::r) x.2 (by simp) h.2⟩
def DL.ag:(l:List CT)→DL l→AgX (l.map fun t=>(Ql.frz,t))
 |[],_=>()
 |[_],x=>x.1
 |_::b::r,x=>(x.1,DL.ag (b::r) x.2)
theorem DL.ag_enc:∀ (l:List CT) (x:DL l),DV.encL (Nl (l.map fun t=>(Ql.frz,t)) (DL.ag l x))=DL.encF l x
 |[],_=>rfl
 |[_],_=>rfl
 | a::b::r,x=>by
   show (CT.dv .frz a x.1).enc::DV.encL (Nl ((b::r).map fun t=>(Ql.frz,t)) (DL.ag (b::r) x.2))=(CT.dv .frz a x.1).enc::DL.encF (b::r) x.2
   rw[DL.ag_enc (b::r) x.2]
theorem DL.ag_wf:∀ (l:List CT) (x:DL l),DL.wf l x→AgX.wf (l.map fun t=>(Ql.frz,t)) (DL.ag l x)
 |[],_,_=>trivial
 |[_],_,h=>h.1
 |a::b::r,x,h=>⟨h.1,DL.ag_wf (b::r) x.2 h.2⟩
theorem I0:∀ (t:Ty),t.cts.length=t.w
 |.int _|.bool|.str|.sl _|.unit=>rfl
 |.pair a b=>by simp only[Ty.cts,Ty.w,EE,I0 a,I0 b]
def ωro(σ:Ab):Nat→W:=fun l=>if l<σ.length then .frz else .none
theorem ωro_frz{σ:Ab}{l:Nat}{b:Blk}(h:σ[l]?=some b):ωro σ l= .frz:=by
 unfold ωro;rw[Ac (BP h)]
theorem RA:∀ (a b:List PV) (i:Nat),i<a.length→Aa (a++b) i=Aa a i
 |[],_,_,h=>by cases h
 |_::_,_,0,_=>rfl
 |_::a,b,i+1,h=>RA a b i (by simpa using h)
theorem Ru:∀ (a b:List PV) (i:Nat),Aa (a++b) (a.length+i)=Aa b i
 |[],_,_=>by simp
 | _::a,b,i=>by
   have:=Ru a b i
   simp only[Cm,Bz,WG]
   exact this
theorem UE:∀ (a b:List V) (i:Nat),i<a.length→get (a++b) i=get a i
 |[],_,_,h=>by cases h
 |_::_,_,0,_=>rfl
 |_::a,b,i+1,h=>UE a b i (by simpa using h)
theorem UA:∀ (a b:List V) (i:Nat),get (a++b) (a.length+i)=get b i
 |[],_,_=>by simp
 | _::a,b,i=>by
   have:=UA a b i
   simp only[Cm,Bz,WG]
   exact this
theorem UB:∀ (l:List V) (o n i:Nat),i<n→get ((l.drop o).take n) i=get l (o+i)
 |[],o,n,i,_=>by simp[get]
 |c::r,0,0,i,h=>by cases h
 |c::r,0,n+1,0,_=>rfl
 | c::r,0,n+1,i+1,h=>by
   have:=UB r 0 n i (by omega)
   simp only[Bs] at this
   simp only[I7,WK,get,Bs]
   simpa using this
 | c::r,o+1,n,i,h=>by
   have:=UB r o n i h
   rw[List.drop_succ_cons,this,WG]
   rfl
theorem Zv{w:Nat}:∀ (es:List (List PV)) (i j:Nat),(∀ e∈es,e.length=w)→j<w→i<es.length→Aa es.flatten (i*w+j)=Aa (AV es i) j
 |[],i,_,_,_,h=>by cases h
 | e::r,0,j,hw,hj,_=>by
   have he:=hw e (Wt ..)
   rw[JI,Bs,Hb,RA _ _ _ (by omega)]
   rfl
 | e::r,i+1,j,hw,hj,h=>by
   have he:=hw e (Wt ..)
   rw[Hb,show (i+1)*w+j=e.length+(i*w+j) by rw[he,KM];omega,Ru]
   exact Zv r i j (fun e h=>hw e (List.mem_cons_of_mem _ h)) hj (by simpa using h)
theorem aK {α:Type}(f:α→List PV):∀ (l:List α) (i:Nat) (h:i<l.length),AV (l.map f) i=f l[i]
 |[],_,h=>by cases h
 |_::_,0,_=>rfl
 |_::l,i+1,h=>aK f l i (by simpa using h)
theorem ON{σ:Ab}:∀ (ty:Ty) {cs:List V},ty.good=true→Sh σ ty cs→∃ x:DL ty.cts,DL.wf ty.cts x ∧
 (∀ i,RC σ (ωro σ) .fz (Aa (DL.enc ty.cts x) i) (get cs i))∧∀ i hd p,RC σ (ωro σ) (.at hd p) (Aa (DL.encF ty.cts x) i) (get cs i)
 | .int k,cs,_,⟨n,h,hw⟩=>by
   subst h;exact⟨(n,()),⟨hw,trivial⟩,fun i=>by cases i<;>first|exact .v _ _ rfl|exact .undef _ _,fun i hd p=>by cases i<;>first|exact .v _ _ rfl|exact .undef _ _⟩
 | .bool,cs,_,⟨b,h⟩=>by
   subst h;exact⟨(b,()),⟨trivial,trivial⟩,fun i=>by cases i<;>first|exact .v _ _ rfl|exact .undef _ _,fun i hd p=>by cases i<;>first|exact .v _ _ rfl|exact .undef _ _⟩
 | .str,cs,_,⟨s,h,hl⟩=>by
   subst h;exact⟨(s,()),⟨hl,trivial⟩,fun i=>by cases i<;>first|exact .v _ _ rfl|exact .undef _ _,fun i hd p=>by cases i<;>first|exact .v _ _ rfl|exact .undef _ _⟩
 | .unit,cs,_,h=>by
   have h:cs=[]:=h;subst h;exact⟨(),trivial,fun i=>.undef _ _,fun i hd p=>.undef _ _⟩
 | .pair a b,cs,hg,⟨xs,ys,h,h1,h2⟩=>by
   simp only[Ty.good,Af] at hg;obtain⟨x,x1,x2,x3⟩:=ON a hg.1 h1;obtain⟨y,y1,y2,y3⟩:=ON b hg.2 h2;have hl:=h1.len;subst h;refine⟨DL.app _ _ x y,DL.app_wf _ _ x y x1 y1,fun i=>?_,fun i hd p=>?_⟩
   · simp only[Ty.cts];rw[DL.app_enc];by_cases hi:i<a.w
     · rw[RA _ _ _ (by rw[DL.len,I0];exact hi),UE _ _ _ (by rw[hl];exact hi)];exact x2 i
     · obtain⟨j,rfl⟩:=Nat.exists_eq_add_of_le (Nat.le_of_not_lt hi);have e1:=Ru (DL.enc a.cts x) (DL.enc b.cts y) j;have e2:=UA xs ys j;rw[DL.len,I0] at e1;rw[hl] at e2;rw[e1,e2];exact y2 j
   · simp only[Ty.cts];rw[DL.app_encF];by_cases hi:i<a.w
     · rw[RA _ _ _ (by rw[DL.lenF,I0];exact hi),UE _ _ _ (by rw[hl];exact hi)];exact x3 i hd p
     · obtain⟨j,rfl⟩:=Nat.exists_eq_add_of_le (Nat.le_of_not_lt hi);have e1:=Ru (DL.encF a.cts x) (DL.encF b.cts y) j;have e2:=UA xs ys j;rw[DL.lenF,I0] at e1;rw[hl] at e2;rw[e1,e2];exact y3 j hd p
 | .sl t,cs,hg,h=>by
   simp only[Ty.good,Af] at hg;have hw0:0<t.w:=Cs hg.1
   have hne:t.cts≠[]:=by intro e;have:=I0 t;rw[e] at this;simp only[Bh] at this;omega
   rcases h with h|⟨l,n,bs,h,hb,hbl,hn,he⟩
   · subst h;refine⟨(([]:List (Fo t.cts).D),()),⟨⟨Gl _,fun x hx=>by cases hx⟩,trivial⟩,fun i=>?_,fun i hd p=>?_⟩
     · cases i<;>first|exact .nil _ _|exact .undef _ _
     · cases i<;>first|exact .nil _ _|exact .undef _ _
   · subst h
     have ex:∀ i,∃ x:DL t.cts,i<n→DL.wf t.cts x∧(∀ k,RC σ (ωro σ) .fz (Aa (DL.enc t.cts x) k) (get ((bs.drop (i*t.w)).take t.w) k)):=by
      intro i;by_cases hi:i<n
      · obtain⟨x,h1,h2,_⟩:=ON t hg.2 (he i hi);exact⟨x,fun _=>⟨h1,h2⟩⟩
      · have h0:∀ l:List CT,Nonempty (DL l):=by
         intro l
         induction l with
         |nil=>exact⟨()⟩
         |cons a r ih=>obtain⟨y⟩:=ih;exact⟨(a.dflt,y)⟩
        obtain⟨y⟩:=h0 t.cts;exact⟨y,fun h=>absurd h hi⟩
     let f:Nat→DL t.cts:=fun i=>Classical.choose (ex i)
     have hf:∀ i,i<n→DL.wf t.cts (f i)∧∀ k,RC σ (ωro σ) .fz (Aa (DL.enc t.cts (f i)) k) (get ((bs.drop (i*t.w)).take t.w) k):=fun i hi=>Classical.choose_spec (ex i) hi
     let L:List (Fo t.cts).D:=(List.range n).map fun i=>DL.rt t.cts (f i)
     have hL:L.length=n:=by simp[L]
     have hLw:∀ e∈L.map (RT.enc (Fo t.cts)),e.length=t.w:=by
      intro e he;obtain⟨y,hy,rfl⟩:=List.mem_map.mp he;obtain⟨i,_,rfl⟩:=List.mem_map.mp hy;rw[DL.rt_enc _ _ hne,DL.len,I0]
     have hcell:∀ k,k<L.length*t.w→RC σ (ωro σ) .fz (Aa (L.map (RT.enc (Fo t.cts))).flatten k) (get bs (0+k)):=by
      intro k hk
      have hdm:k / t.w*t.w+k % t.w=k:=by rw[SW];exact Tg k t.w
      have hmod:=Ja k hw0
      have hdiv:k / t.w<n:=by rw[hL] at hk;exact(SS hw0).2 hk
      have e1:=Zv (L.map (RT.enc (Fo t.cts))) (k / t.w) (k % t.w) hLw hmod (by rw[Bc,hL];exact hdiv);rw[hdm] at e1;rw[e1,aK _ _ _ (by rw[hL];exact hdiv),Bs];have e2:=UB bs (k / t.w*t.w) t.w (k % t.w) hmod;rw[hdm] at e2
      have e3:L[k / t.w]'(by rw[hL];exact hdiv)=DL.rt t.cts (f (k / t.w)):=by simp[L]
      rw[e3,DL.rt_enc _ _ hne,← e2];exact(hf _ hdiv).2 _
     have hwf:∀ x∈L,RT.wf (Fo t.cts) x:=by
      intro x hx;obtain⟨i,hi,rfl⟩:=List.mem_map.mp hx;exact DL.rt_wf _ _ hne (hf i (List.mem_range.mp hi)).1
     have hle:0+(L.map (RT.enc (Fo t.cts))).length*t.w≤bs.length:=by rw[Bc,hL,hbl];omega
     refine⟨(L,()),⟨⟨by rw[hL];exact hn,hwf⟩,trivial⟩,fun i=>?_,fun i hd p=>?_⟩
     · cases i with
       |succ i=>exact .undef _ _
       |zero=>exact .sl _ _ _ _ _ _ _ hb (by simp) (ωro_frz hb) (fun e=>by cases e) (by rw[Bc,hL]) hLw hle fun k hk=>hcell k (by rw[Bc] at hk;exact hk)
     · cases i with
       |succ i=>exact .undef _ _
       |zero=>exact .sl _ _ _ _ _ _ _ hb (by simp) (ωro_frz hb) (fun _ e=>by rcases e with e|⟨_,_,e⟩<;>cases e) (by rw[Bc,hL]) hLw hle fun k hk=>hcell k (by rw[Bc] at hk;exact hk)
structure ArgD (σ:Ab) (v:PV) (u:V):Prop where
 rc:∀ hd p c,RC σ (ωro σ) (.at hd p) (v.fcell c) (u.fcell c)
 sh:AY v u
 nx:∀ c i pb tp,(v.fcell c).q≠some (.bor (.x i) pb tp)
theorem xo{v:V}(h:v.cell=true):(∀ us,v≠.agg us)∧∀ us,v≠.tup us:=by
 constructor<;>rintro us rfl<;>cases h
theorem W3:∀ (l:List CT) (x:DL l) (i:Nat) (a:Hd) (pb:List Nat) (tp:Bool),(Aa (DL.encF l x) i).q≠some (.bor a pb tp)
 |[],_,_,_,_,_=>by simp[DL.encF,Aa,PV.q]
 |c::r,x,0,a,pb,tp=>by cases c<;>simp[DL.encF,Aa,CT.dv,DV.enc,PV.q]
 |_::r,x,i+1,a,pb,tp=>W3 r x.2 i a pb tp
theorem aF{σ:Ab}{a:Ty×Bool}{u:V}(hg:SK a=true)(h:ArgOk σ a u):∃ x:(Ke a).D,(Ke a).wf x∧ArgD σ ((Ke a).dv x).enc u:=by
 obtain⟨ty,b⟩:=a
 cases b with
 | true=>
   obtain⟨cs,rfl,hs,hc⟩:=h;obtain⟨x,h1,_,h3⟩:=ON ty hg hs;have hle:=hs.len;refine⟨DL.ag ty.cts x,DL.ag_wf _ _ h1,?_⟩
   have he:((Ke (ty,true)).dv (DL.ag ty.cts x)).enc= .agg (DL.encF ty.cts x):=by
    show PV.agg _=PV.agg _;rw[DL.ag_enc]
   rw[he];refine⟨fun hd p c=>?_,⟨cs,rfl,by rw[hle,DL.lenF,I0]⟩,fun c i pb tp=>?_⟩
   · match c with
     |[]=>exact .undef _ _
     |[c]=>exact h3 c hd p
     |_::_::_=>exact .undef _ _
   · match c with
     |[]=>simp[PV.fcell,PV.q]
     |[c]=>exact W3 _ _ _ _ _ _
     |_::_::_=>simp[PV.fcell,PV.q]
 | false =>
   obtain⟨hs,hc⟩:=h;simp only[SK,Af,AQ] at hg;obtain⟨x,h1,_,h3⟩:=ON ty hg.1 hs
   have key:∀ (l:List CT) (x:DL l),l.length=1→DL.wf l x→(∀ i hd p,RC σ (ωro σ) (.at hd p) (Aa (DL.encF l x) i) (get [u] i)) →
    ∃ y:(match l with|[c]=>HT.one .frz c|_=>HT.agg []).D,(match l with|[c]=>HT.one .frz c|_=>HT.agg []).wf y∧ArgD σ ((match l with|[c]=>HT.one .frz c|_=>HT.agg []).dv y).enc u:=by
    intro l x hl hwf h3
    match l,x,hl,hwf,h3 with
    | [c],x,_,hwf,h3=>
      have hsc:=xo hc
      have hnf:∀ p,p≠[0]→((CT.dv .frz c x.1).enc).fcell p= .fl .undef:=by
       intro p hp;cases c<;>(match p with|[]=>rfl|[0]=>exact absurd rfl hp|(_+1)::_=>rfl|0::_::_=>rfl)
      have hf0:((CT.dv .frz c x.1).enc).fcell [0]=(CT.dv .frz c x.1).enc:=by cases c<;>rfl
      have hu0:u.fcell [0]=u:=by cases u<;>first|rfl|exact absurd rfl (hsc.1 _)|exact absurd rfl (hsc.2 _)
      refine⟨x.1,hwf.1,⟨fun hd p q=>?_,?_,fun q i pb tp=>?_⟩⟩
      · by_cases hq:q=[0]
        · subst hq;show RC σ (ωro σ) (.at hd p) (((CT.dv .frz c x.1).enc).fcell [0]) (u.fcell [0]);rw[hf0,hu0];exact h3 0 hd p
        · show RC σ (ωro σ) (.at hd p) (((CT.dv .frz c x.1).enc).fcell q) (u.fcell q);rw[hnf q hq];exact .undef _ _
      · show AY ((CT.dv .frz c x.1).enc) u;cases c<;>exact hsc
      · show (((CT.dv .frz c x.1).enc).fcell q).q≠_;by_cases hq:q=[0]
        · subst hq;rw[hf0];exact W3 [c] x 0 _ _ _
        · rw[hnf q hq];simp[PV.q]
   exact key ty.cts x hg.2 h1 h3
theorem U6{σ:Ab}:∀ {tys:List (Ty×Bool)} {us:List V},tys.all SK=true→MN σ tys us→∃ x:TuX (tys.map Ke),TuX.wf _ x∧us.length=tys.length ∧
 ∀ t,ArgD σ (Aa (DV.encL (Eo (tys.map Ke) x)) t) (get us t)
 |[],[],_,_=>⟨(),trivial,rfl,fun t=>⟨fun hd p c=>by
  have:(PV.fl V.undef).fcell c= .fl .undef:=by match c with|[]=>rfl|[0]=>rfl|(_+1)::_=>rfl|0::_::_=>rfl
  show RC σ (ωro σ) (.at hd p) ((PV.fl V.undef).fcell c) _
  rw[this];exact .undef _ _,trivial,fun c i pb tp=>by
  have:(PV.fl V.undef).fcell c= .fl .undef:=by match c with|[]=>rfl|[0]=>rfl|(_+1)::_=>rfl|0::_::_=>rfl
  show ((PV.fl V.undef).fcell c).q≠_
  rw[this];simp[PV.q]⟩⟩
 | [a],[u],hg,h=>by
   simp only[Ek,Tf,Lj] at hg;obtain⟨x,h1,h2⟩:=aF hg h.1;obtain⟨_,_,_,h4⟩:=U6 (σ:=σ) (tys:=[]) (us:=[]) rfl trivial;refine⟨x,h1,rfl,fun t=>?_⟩
   cases t with
   |zero=>exact h2
   |succ t=>exact h4 t
 | a::b::r,u::us,hg,h=>by
   rw[Ek,Af] at hg;obtain⟨x,h1,h2⟩:=aF hg.1 h.1;obtain⟨y,h3,h4,h5⟩:=U6 (tys:=b::r) (us:=us) hg.2 h.2;refine⟨(x,y),⟨h1,h3⟩,by simp[h4],fun t=>?_⟩
   cases t with
   |zero=>exact h2
   |succ t=>exact h5 t
 |[_],_::_::_,_,h=>h.2.elim
 |[_],[],_,h=>h.elim
 |_::_::_,[],_,h=>h.elim
 |[],_::_,_,h=>h.elim
theorem yY{σ:Ab}{as:List PV}{us:List V}(hl:as.length=us.length)(h:∀ t,ArgD σ (Aa as t) (get us t)):RS σ (ωro σ) (ωro σ) (fun _=>0) ⟨as,[],[]⟩ ⟨us,[],σ⟩ X0:=by
 have no:∀ l hd p,ωro σ l≠.own hd p:=by intro l hd p e;unfold ωro at e;split at e<;>cases e
 have nop:∀ l i,ωro σ l≠.ptr i:=by intro l i e;unfold ωro at e;split at e<;>cases e
 have hund:∀ c,(PV.fl V.undef).fcell c= .fl .undef:=by
  intro c;match c with|[]=>rfl|[0]=>rfl|(_+1)::_=>rfl|0::_::_=>rfl
 have cat:∀ (c:List Nat) (l:List V),(A6 [] l c).1= .fl .undef:=by
  intro c l;match c with|[]=>rfl|[_]=>rfl|_::_::_=>rfl
 refine⟨⟨fun hd p=>?_,fun l l' hd p e=>absurd e (no l hd p),fun l l' i e=>absurd e (nop l i),fun l e=>?_,fun l e=>?_⟩,fun t=>(h t).sh,fun i=>trivial,hl,rfl,fun i=>rfl,fun i c=>rfl,fun i c=>rfl,fun i hi=>(by cases hi),fun l i e=>absurd e (nop l i),fun l i p e=>absurd e (no l _ p),⟨Bn _,fun l _ _=>⟨rfl,rfl⟩,fun l hlt e=>(by rw[e];simp),fun l i e=>e⟩,fun hd p i pb tp=>?_⟩
 · cases hd with
   |s t=>exact(h t).rc _ _ _
   |b i=>show RC σ (ωro σ) _ (A6 [] (AS [] i) p).1 _;rw[cat];exact .undef _ _
   |h i=>show RC σ (ωro σ) _ (A6 [] _ p).1 _;rw[cat];exact .undef _ _
   |x i=>show RC σ (ωro σ) _ ((PV.fl V.undef).fcell p) _;rw[hund];exact .undef _ _
 · rcases e with⟨hd,p,e⟩|⟨i,e⟩
   · exact absurd e (no l hd p)
   · exact absurd e (nop l i)
 · unfold ωro at e;split at e
   · assumption
   · cases e
 · cases hd with
   |s t=>exact(h t).nx p i pb tp
   |b j=>show (A6 [] (AS [] j) p).1.q≠_;rw[cat];simp[PV.q]
   |h j=>show (A6 [] _ p).1.q≠_;rw[cat];simp[PV.q]
   |x j=>show ((PV.fl V.undef).fcell p).q≠_;rw[hund];simp[PV.q]
theorem yU {f:DFun} {tys:List (Ty×Bool)} {hs:List HT} {s:Bb} (hsp:MP s (MC f.er)) (hhs:tys.map Ke=hs) (hg:tys.all SK=true) (ho:AllD f.body.obs)
 (hst:Nr f hs (.one (.one .own .bool))=true) (hc:∀ x,M9 f hs (.one (.one .own .bool)) x=true)
 (law:∀ x:TuX hs,TuX.wf hs x→Ls f hs (.one (.one .own .bool)) x∧Lu f hs (.one (.one .own .bool)) x=true) (σ:Ab) (us:List V) (hro:Ds σ) (ha:MN σ tys us):s us σ fun r _=>r= .bool true:=by
 subst hhs
 obtain⟨x,h1,h2,h3⟩:=U6 hg ha
 obtain⟨l1,l2⟩:=law x h1
 have hlen:(DV.encL (Eo (tys.map Ke) x)).length=us.length:=by rw[Ex,Sm,Bc,h2]
 refine hsp σ (ωro σ) (fun _=>0) _ us [] (fun r _=>r= .fl (.bool true)) _ (yY hlen h3) (fun l hd p e=>?_) ?_ fun u h' r H' ω' ρ' hQ R' _=>?_
 · exfalso;unfold ωro at e;split at e<;>cases e
 · refine aN ho hst x (hc x) l1 fun H=>?_
   rw[l2];rfl
 · subst hQ
   have r:=R'.core.rc (.x 0) [0];have hs:=R'.shx 0;have r:RC h' ω' (.at (.x 0) [0]) (.fl (.bool true)) (u.fcell [0]):=r
   have hu:u.fcell [0]=u:=by
    have hs:AY (.fl (.bool true)) u:=hs
    cases u<;>first|rfl|exact absurd rfl (hs.1 _)|exact absurd rfl (hs.2 _)
   rw[hu] at r;cases r;rfl
theorem zI(x:V)(r:List V):get (x::r) 0=x:=id rfl
theorem zg(x:V)(r:List V)(n:Nat):get (x::r) (n+1)=get r n:=id rfl
theorem Zab(s:List V)(n:Nat):(Opnd.t n).ev s=get s n:=id rfl
theorem zO(s:List V)(v:V):(Opnd.c v).ev s=v:=id rfl
def rk(pu:Bool)(res:List ARes)(h0:Ab)(Q:V→Ab→Prop):BN:=TF ⟨0,0,0,pu,res,.skip⟩ h0 Q
theorem IW{np ns nb:Nat}{pu:Bool}{res:List ARes}{body:ACode}{args:List V}{h:Ab}{Q:V→Ab→Prop}(hl:args.length=np)(hb:Bw body (rk pu res h Q) ⟨args++DA (ns-np),Fs nb,h⟩) :
 ED ⟨np,ns,nb,pu,res,body⟩ args h Q:=⟨hl,hb⟩
theorem wO(k:BN)(st:St):Bw .skip k st=k .normal st:=rfl
theorem sJ(o:List AOper)(k:BN)(st:St):Bw (.region o) k st=Bu o (k .normal) st:=rfl
theorem xi(a b:ACode)(k:BN)(st:St):Bw (.seq a b) k st=Bw a (Ep (Bw b k) k) st:=rfl
theorem tD(i:Nat)(a:ACode)(k:BN)(st:St):Bw (.block i a) k st=Bw a (Gp i k) st:=rfl
theorem vY(i:Nat)(k:BN)(st:St):Bw (.exit i) k st=k (.exit i) st:=rfl
theorem wZ(k:BN)(st:St):Bw .ret k st=k .ret st:=rfl
theorem vC{c:Opnd}{a b:ACode}{k:BN}{st:St}(h:c.ev st.sl= .bool true):Bw (.cond c a b) k st=Bw a k st:=by simp only[Bw,h,A0]
theorem tN{c:Opnd}{a b:ACode}{k:BN}{st:St}(h:c.ev st.sl= .bool false):Bw (.cond c a b) k st=Bw b k st:=by simp only[Bw,h];rfl
theorem rq(n:St→Prop)(k:BN)(st:St):Ep n k .normal st=n st:=rfl
theorem wm(n:St→Prop)(k:BN)(st:St):Ep n k .ret st=k .ret st:=rfl
theorem tn(n:St→Prop)(k:BN)(i:Nat)(st:St):Ep n k (.exit i) st=k (.exit i) st:=rfl
theorem pD(i:Nat)(k:BN)(st:St):Gp i k .normal st=k .normal st:=rfl
theorem sd(i:Nat)(k:BN)(st:St):Gp i k .ret st=k .ret st:=rfl
theorem q7(i j:Nat)(k:BN)(st:St):Gp i k (.exit j) st=if j=i then k .normal st else k (.exit j) st:=rfl
theorem vQ(n:St→Prop)(k:BN):Ep n k .normal=n:=rfl
theorem rN(i:Nat)(k:BN):Gp i k .normal=k .normal:=rfl
theorem wP(k:St→Prop)(st:St):Bu [] k st=k st:=rfl
theorem vm{i:Nat}{d:Option Nat}{o:AOp}{a:List Nat}{r:List AOper}{k:St→Prop}{st:St}:Bu (⟨i,d,o,none,a⟩::r) k st=AH o d (Bu r k) st:=rfl
theorem w9{i:Nat}{d:Option Nat}{o:AOp}{g:Nat}{w:Bool}{a:List Nat}{r:List AOper}{k:St→Prop}{st:St}(h:get st.sl g= .bool w):Bu (⟨i,d,o,some (g,w),a⟩::r) k st=AH o d (Bu r k) st:=by
 simp only[Bu,BM,h,A0]
theorem aa{i:Nat}{d:Option Nat}{o:AOp}{g:Nat}{w b:Bool}{a:List Nat}{r:List AOper}{k:St→Prop}{st:St}(h:get st.sl g= .bool b)(hn:b≠w):Bu (⟨i,d,o,some (g,w),a⟩::r) k st=Bu r k (st.put d (.tup [])):=by
 simp only[Bu,BM,h,Ae hn]
theorem ui{i:Nat}{d:Option Nat}{o:AOp}{g:Nat}{a:List Nat}{r:List AOper}{k:St→Prop}{st:St}(h:get st.sl g= .bool false):Bu (⟨i,d,o,some (g,true),a⟩::r) k st=Bu r k (st.put d (.tup [])):=aa h (by decide)
theorem uI{i:Nat}{d:Option Nat}{o:AOp}{g:Nat}{a:List Nat}{r:List AOper}{k:St→Prop}{st:St}(h:get st.sl g= .bool true):Bu (⟨i,d,o,some (g,false),a⟩::r) k st=Bu r k (st.put d (.tup [])):=aa h (by decide)
theorem wh{i:Nat}{d:Option Nat}{o:AOp}{g:Nat}{w:Bool}{a:List Nat}{r:List AOper}{k:St→Prop}{st:St}(h:get st.sl g= .tup []):Bu (⟨i,d,o,some (g,w),a⟩::r) k st=Bu r k (st.put d (.tup [])):=by
 simp only[Bu,BM,h]
theorem yS(pu:Bool)(res:List ARes)(h0:Ab)(Q:V→Ab→Prop)(st:St):rk pu res h0 Q .ret st=(match DD st res with
 |some v=>if pu then v.flat2=true∧st.hp.take h0.length=h0∧Q v h0 else Q v st.hp
 |none=>False):=rfl
theorem tv(pu:Bool)(res:List ARes)(h0:Ab)(Q:V→Ab→Prop)(st:St):rk pu res h0 Q .normal st=(match DD st res with
 |some v=>if pu then v.flat2=true∧st.hp.take h0.length=h0∧Q v h0 else Q v st.hp
 |none=>False):=rfl
def Ka{α:Type}(_:α):Type:=Unit
def Dz{α:Type}(a:α):Ka a:=()
def oV(o:Option V)(f:V→Prop)(_:Ka f):Prop:=match o with
 |some v=>f v
 |none=>False
theorem x8(v:V)(f:V→Prop)(t:Ka f):oV (some v) f t=f v:=rfl
theorem xb(f:V→Prop)(t:Ka f):oV none f t=False:=rfl
def oS(o:Option (V×List (List V)×Ab))(s:List V)(d:Option Nat)(k:St→Prop)(_:Ka k):Prop:=match o with
 |some (v,bx,hp)=>k (St.put ⟨s,bx,hp⟩ d v)
 |none=>False
theorem xU(v:V)(bx:List (List V))(hp:Ab)(s:List V)(d:Option Nat)(k:St→Prop)(t:Ka k):oS (some (v,bx,hp)) s d k t=k (St.put ⟨s,bx,hp⟩ d v):=rfl
@[congr] theorem Zal {c:ACode} {k:BN} {st st':St} (h:st=st'):Bw c k st=Bw c k st':=by rw[h]
@[congr] theorem Zah {o:List AOper} {k:St→Prop} {st st':St} (h:st=st'):Bu o k st=Bu o k st':=by rw[h]
@[congr] theorem Zak {o:AOp} {d:Option Nat} {k:St→Prop} {st st':St} (h:st=st'):AH o d k st=AH o d k st':=by rw[h]
@[congr] theorem Zai {n:St→Prop} {k:BN} {e e':AExit} {st st':St} (he:e=e') (h:st=st'):Ep n k e st=Ep n k e' st':=by rw[he,h]
@[congr] theorem Zae {i:Nat} {k:BN} {e e':AExit} {st st':St} (he:e=e') (h:st=st'):Gp i k e st=Gp i k e' st':=by rw[he,h]
@[congr] theorem Zam {pu:Bool} {res:List ARes} {h0:Ab} {Q:V→Ab→Prop} {e e':AExit} {st st':St} (he:e=e') (h:st=st'):rk pu res h0 Q e st=rk pu res h0 Q e' st':=by rw[he,h]
def cU(k:IntKind):V→Option V
 |.int _ n=>some (.int k (k.wrap n))
 |_=>none
def VO(off:Nat):V→Option V
 |.box i o=>some (.box i (o+off))
 |.ptr l o=>some (.ptr l (o+off))
 |_=>none
def bM(off:Nat)(n:Option Nat):V→Option V
 |.agg cs=>if off+n.getD 1≤cs.length then Cf n ((cs.drop off).take (n.getD 1)) else none
 |_=>none
def aS(w:Nat):V→V→Option V
 |.slice l o n,.int _ j=>if 0≤j∧j<n then some (.ptr l (o+j.toNat*w)) else none
 |_,_=>none
def TE:V→Option V
 |.nils=>some (.int .i64 0)
 |.slice _ _ n=>some (.int .i64 n)
 |_=>none
def Ol(i:Nat):V→Option V
 |.tup vs=>vs[i]?
 |_=>none
def bY(bx:List (List V))(i:Nat)(n:Option Nat):V→Option V
 |.box j o=>if i=j∧o+n.getD 1≤(AS bx i).length then Cf n (((AS bx i).drop o).take (n.getD 1)) else none
 |_=>none
def Mw(hp:Ab)(n:Option Nat):V→Option V
 |.ptr l o=>(rd hp l o (n.getD 1)).bind fun cs=>Cf n cs
 |_=>none
def CX(bx:List (List V))(hp:Ab)(n:Nat)(a x:V):Option (V×List (List V)×Ab):=match a with
 |.ptr l o=>if x.cells.length=n∧x.cells.all V.cell then (wr hp l o x.cells).bind fun h=>some (.undef,bx,h) else none
 |_=>none
def Wo(bx:List (List V))(hp:Ab)(i n:Nat)(x:V):Option (V×List (List V)×Ab):=
 if i<bx.length∧x.cells.length=n∧x.cells.all V.cell then some (.box i 0,Cl bx i x.cells,hp) else none
def dj(f:Bb)(args:List V)(d:Option Nat)(k:St→Prop)(st:St)(_:Ka k):Prop:=f args st.hp fun r h=>k (St.put { st with hp:=h } d r)
theorem Vv{o:Option V}{k:St→Prop}{st:St}{d:Option Nat} :
 (match o.bind (fun v=>(some (v,st.bx,st.hp):Option (V×List (List V)×Ab))) with
 |some (v,bx,hp)=>k (St.put { sl:=st.sl,bx,hp } d v)
 |none=>False)=oV o (fun v=>k (st.put d v)) (Dz _):=by
 cases o<;>rfl
theorem Z9{o:Option (V×List (List V)×Ab)}{s:List V}{k:St→Prop}{d:Option Nat} :
 (match o with
 |some (v,bx,hp)=>k (St.put { sl:=s,bx,hp } d v)
 |none=>False)=oS o s d k (Dz k):=by
 cases o<;>rfl
theorem yT{c:Prop}{_:Decidable c}{v:V}{k:St→Prop}{st:St}{d:Option Nat} :
 (match (if c then some (v,st.bx,st.hp) else (none:Option (V×List (List V)×Ab))) with
 |some (v,bx,hp)=>k (St.put { sl:=st.sl,bx,hp } d v)
 |none=>False)=oV (if c then some v else none) (fun v=>k (st.put d v)) (Dz _):=by
 by_cases h:c<;>simp only[h,A0,Ba]<;>rfl
theorem bO {c:Prop}{_:Decidable c}{o:Option V}{k:St→Prop}{st:St}{d:Option Nat} :
 (match (if c then o.bind (fun v=>(some (v,st.bx,st.hp):Option (V×List (List V)×Ab))) else none) with
 |some (v,bx,hp)=>k (St.put { sl:=st.sl,bx,hp } d v)
 |none=>False)=oV (if c then o else none) (fun v=>k (st.put d v)) (Dz _):=by
 by_cases h:c<;>simp only[h,A0,Ba]
 · cases o<;>rfl
 · rfl
theorem bind_some{α:Type}(o:Option α):(o.bind fun x=>some x)=o:=by cases o<;>rfl
section
variable {d:Option Nat} {k:St→Prop} {st:St}
theorem yD(x:Opnd):AH (.mv x) d k st=k (st.put d (x.ev st.sl)):=rfl
theorem pK{c a b:Opnd}(h:c.ev st.sl= .bool true):AH (.pick c a b) d k st=k (st.put d (a.ev st.sl)):=by simp only[AH,Ad,h];rfl
theorem nP{c a b:Opnd}(h:c.ev st.sl= .bool false):AH (.pick c a b) d k st=k (st.put d (b.ev st.sl)):=by simp only[AH,Ad,h];rfl
theorem w7(op:BinOp)(x y:Opnd):AH (.bin op x y) d k st=oV (BR op (x.ev st.sl) (y.ev st.sl)) (fun v=>k (st.put d v)) (Dz _):=Vv
theorem yp(op:UnOp)(x:Opnd):AH (.un op x) d k st=oV (GF op (x.ev st.sl)) (fun v=>k (st.put d v)) (Dz _):=Vv
theorem vE(q:IntKind)(x:Opnd):AH (.conv q x) d k st=oV (cU q (x.ev st.sl)) (fun v=>k (st.put d v)) (Dz _):=by simp only[AH,Ad];cases x.ev st.sl<;>rfl
theorem rO(off:Nat)(x:Opnd):AH (.fieldA off x) d k st=oV (VO off (x.ev st.sl)) (fun v=>k (st.put d v)) (Dz _):=by simp only[AH,Ad];cases x.ev st.sl<;>rfl
theorem ti(off:Nat)(n:Option Nat)(x:Opnd):AH (.field off n x) d k st=oV (bM off n (x.ev st.sl)) (fun v=>k (st.put d v)) (Dz _):=by
 simp only[AH,Ad]
 cases x.ev st.sl<;>try rfl
 exact bO
theorem sw(w:Nat)(x i:Opnd):AH (.indexA w x i) d k st=oV (aS w (x.ev st.sl) (i.ev st.sl)) (fun v=>k (st.put d v)) (Dz _):=by
 simp only[AH,Ad]
 cases x.ev st.sl<;>try rfl
 cases i.ev st.sl<;>try rfl
 exact yT
theorem xc(x:Opnd):AH (.len x) d k st=oV (TE (x.ev st.sl)) (fun v=>k (st.put d v)) (Dz _):=by simp only[AH,Ad];cases x.ev st.sl<;>rfl
theorem qT(x:Opnd)(i:Nat):AH (.extract x i) d k st=oV (Ol i (x.ev st.sl)) (fun v=>k (st.put d v)) (Dz _):=by
 simp only[AH,Ad]
 cases x.ev st.sl<;>try rfl
 rename_i vs;simp only[Ol];cases vs[i]?<;>rfl
theorem sM(i:Nat)(n:Option Nat)(a:Opnd):AH (.loadB i n a) d k st=oV (bY st.bx i n (a.ev st.sl)) (fun v=>k (st.put d v)) (Dz _):=by
 simp only[AH,Ad]
 cases a.ev st.sl<;>try rfl
 exact bO
theorem tL(n:Option Nat)(a:Opnd):AH (.loadH n a) d k st=oV (Mw st.hp n (a.ev st.sl)) (fun v=>k (st.put d v)) (Dz _):=by
 simp only[AH,Ad]
 cases a.ev st.sl<;>try rfl
 simp only[Mw];rename_i l o
 cases rd st.hp l o (n.getD 1)<;>try rfl
 exact Vv
theorem r8(n:Nat)(a x:Opnd):AH (.storeH n a x) d k st=oS (CX st.bx st.hp n (a.ev st.sl) (x.ev st.sl)) st.sl d k (Dz k):=by
 simp only[AH,Ad,CX]
 cases a.ev st.sl<;>first|rfl|exact Z9
theorem vN(i n:Nat)(x:Opnd):AH (.boxB i n x) d k st=oS (Wo st.bx st.hp i n (x.ev st.sl)) (clearBox i st.sl) d k (Dz k):=by
 simp only[AH,Ad,Wo];exact Z9
theorem we(f:Bb)(args:List Opnd):AH (.call f args) d k st=((args.map (·.ev st.sl)).all V.ok1=true∧dj f (args.map (·.ev st.sl)) d k st (Dz k)):=rfl
end
section
variable {k:IntKind}
theorem tw(q:IntKind)(n:Int):cU q (.int k n)=some (.int q (q.wrap n)):=rfl
theorem qd(off i o:Nat):VO off (.box i o)=some (.box i (o+off)):=rfl
theorem qg(off l o:Nat):VO off (.ptr l o)=some (.ptr l (o+off)):=rfl
theorem sA(off:Nat)(n:Option Nat)(cs:List V):bM off n (.agg cs)=if off+n.getD 1≤cs.length then Cf n ((cs.drop off).take (n.getD 1)) else none:=rfl
theorem sk:TE .nils=some (.int .i64 0):=rfl
theorem vV(l o n:Nat):TE (.slice l o n)=some (.int .i64 n):=rfl
theorem qG(v:V)(vs:List V):Ol 0 (.tup (v::vs))=some v:=rfl
theorem ru(i:Nat)(v:V)(vs:List V):Ol (i+1) (.tup (v::vs))=Ol i (.tup vs):=rfl
theorem rI(bx:List (List V))(i:Nat)(n:Option Nat)(j o:Nat):bY bx i n (.box j o)=if i=j∧o+n.getD 1≤(AS bx i).length then Cf n (((AS bx i).drop o).take (n.getD 1)) else none:=rfl
theorem td(a b:Int):BR .add (.int k a) (.int k b)=some (.int k (k.wrap (a+b))):=by simp[BR,C0]
theorem sW(a b:Int):BR .sub (.int k a) (.int k b)=some (.int k (k.wrap (a-b))):=by simp[BR,C0]
theorem ue(a b:Int):BR .mul (.int k a) (.int k b)=some (.int k (k.wrap (a*b))):=by simp[BR,C0]
theorem uq(a b:Int):BR .rem (.int k a) (.int k b)=if b=0 then none else some (.int k (a.tmod b)):=by simp[BR,C0]
theorem tz(a b:Int):BR .eql (.int k a) (.int k b)=some (.bool (a == b)):=by simp[BR,C0]
theorem th(a b:Int):BR .neq (.int k a) (.int k b)=some (.bool (a != b)):=by simp[BR,C0]
theorem uc(a b:Int):BR .lss (.int k a) (.int k b)=some (.bool (decide (a<b))):=by simp[BR,C0]
theorem tM(a b:Int):BR .leq (.int k a) (.int k b)=some (.bool (decide (a≤b))):=by simp[BR,C0]
theorem tC(a b:Int):BR .gtr (.int k a) (.int k b)=some (.bool (decide (a > b))):=by simp[BR,C0]
theorem tI(a b:Int):BR .geq (.int k a) (.int k b)=some (.bool (decide (a≥b))):=by simp[BR,C0]
theorem vx(b:Bool):GF .not (.bool b)=some (.bool (!b)):=rfl
theorem wJ(n:Int):GF .neg (.int k n)=some (.int k (k.wrap (0-n))):=rfl
theorem qz(d:Nat):C6 d none=some d:=rfl
theorem rE(d:Nat)(i:Int):C6 d (some (.int k i))=if 0≤i then some i.toNat else none:=rfl
theorem rM(n:Nat)(cs:List V):Cf (some n) cs=some (.agg cs):=rfl
theorem rQ(v:V):Cf none [v]=some v:=rfl
end
theorem V.cell_undef:V.cell V.undef=false:=rfl
theorem V.cells_undef:V.cells V.undef=[V.undef]:=rfl
theorem V.ok1_undef:V.ok1 V.undef=false:=rfl
theorem V.flat_undef:V.flat V.undef=false:=rfl
theorem V.flat1_undef:V.flat1 V.undef=false:=rfl
theorem V.flat2_undef:V.flat2 V.undef=false:=rfl
theorem V.isBox_undef(i:Nat):V.isBox i V.undef=false:=rfl
theorem V.cell_bool(b:Bool):V.cell (V.bool b)=true:=rfl
theorem V.cells_bool(b:Bool):V.cells (V.bool b)=[(V.bool b)]:=rfl
theorem V.ok1_bool(b:Bool):V.ok1 (V.bool b)=true:=rfl
theorem V.flat_bool(b:Bool):V.flat (V.bool b)=true:=rfl
theorem V.flat1_bool(b:Bool):V.flat1 (V.bool b)=true:=rfl
theorem V.flat2_bool(b:Bool):V.flat2 (V.bool b)=true:=rfl
theorem V.isBox_bool(i:Nat)(b:Bool):V.isBox i (V.bool b)=false:=rfl
theorem V.cell_int(k:IntKind)(n:Int):V.cell (V.int k n)=true:=rfl
theorem V.cells_int(k:IntKind)(n:Int):V.cells (V.int k n)=[(V.int k n)]:=rfl
theorem V.ok1_int(k:IntKind)(n:Int):V.ok1 (V.int k n)=true:=rfl
theorem V.flat_int(k:IntKind)(n:Int):V.flat (V.int k n)=true:=rfl
theorem V.flat1_int(k:IntKind)(n:Int):V.flat1 (V.int k n)=true:=rfl
theorem V.flat2_int(k:IntKind)(n:Int):V.flat2 (V.int k n)=true:=rfl
theorem V.isBox_int(i:Nat)(k:IntKind)(n:Int):V.isBox i (V.int k n)=false:=rfl
theorem V.cell_str(s:List UInt8):V.cell (V.str s)=true:=rfl
theorem V.cells_str(s:List UInt8):V.cells (V.str s)=[(V.str s)]:=rfl
theorem V.ok1_str(s:List UInt8):V.ok1 (V.str s)=true:=rfl
theorem V.flat_str(s:List UInt8):V.flat (V.str s)=true:=rfl
theorem V.flat1_str(s:List UInt8):V.flat1 (V.str s)=true:=rfl
theorem V.flat2_str(s:List UInt8):V.flat2 (V.str s)=true:=rfl
theorem V.isBox_str(i:Nat)(s:List UInt8):V.isBox i (V.str s)=false:=rfl
theorem V.cell_nils:V.cell V.nils=true:=rfl
theorem V.cells_nils:V.cells V.nils=[V.nils]:=rfl
theorem V.ok1_nils:V.ok1 V.nils=true:=rfl
theorem V.flat_nils:V.flat V.nils=true:=rfl
theorem V.flat1_nils:V.flat1 V.nils=true:=rfl
theorem V.flat2_nils:V.flat2 V.nils=true:=rfl
theorem V.isBox_nils(i:Nat):V.isBox i V.nils=false:=rfl
theorem V.cell_slice(l o n:Nat):V.cell (V.slice l o n)=true:=rfl
theorem V.cells_slice(l o n:Nat):V.cells (V.slice l o n)=[(V.slice l o n)]:=rfl
theorem V.ok1_slice(l o n:Nat):V.ok1 (V.slice l o n)=true:=rfl
theorem V.flat_slice(l o n:Nat):V.flat (V.slice l o n)=false:=rfl
theorem V.flat1_slice(l o n:Nat):V.flat1 (V.slice l o n)=false:=rfl
theorem V.flat2_slice(l o n:Nat):V.flat2 (V.slice l o n)=false:=rfl
theorem V.isBox_slice(i:Nat)(l o n:Nat):V.isBox i (V.slice l o n)=false:=rfl
theorem V.cell_box(j o:Nat):V.cell (V.box j o)=false:=rfl
theorem V.cells_box(j o:Nat):V.cells (V.box j o)=[(V.box j o)]:=rfl
theorem V.ok1_box(j o:Nat):V.ok1 (V.box j o)=false:=rfl
theorem V.flat_box(j o:Nat):V.flat (V.box j o)=false:=rfl
theorem V.flat1_box(j o:Nat):V.flat1 (V.box j o)=false:=rfl
theorem V.flat2_box(j o:Nat):V.flat2 (V.box j o)=false:=rfl
theorem V.isBox_box(i:Nat)(j o:Nat):V.isBox i (V.box j o)=(i == j):=rfl
theorem V.cell_ptr(l o:Nat):V.cell (V.ptr l o)=true:=rfl
theorem V.cells_ptr(l o:Nat):V.cells (V.ptr l o)=[(V.ptr l o)]:=rfl
theorem V.ok1_ptr(l o:Nat):V.ok1 (V.ptr l o)=true:=rfl
theorem V.flat_ptr(l o:Nat):V.flat (V.ptr l o)=false:=rfl
theorem V.flat1_ptr(l o:Nat):V.flat1 (V.ptr l o)=false:=rfl
theorem V.flat2_ptr(l o:Nat):V.flat2 (V.ptr l o)=false:=rfl
theorem V.isBox_ptr(i:Nat)(l o:Nat):V.isBox i (V.ptr l o)=false:=rfl
theorem V.cell_ifc(b:Bool):V.cell (V.ifc b)=true:=rfl
theorem V.cells_ifc(b:Bool):V.cells (V.ifc b)=[(V.ifc b)]:=rfl
theorem V.ok1_ifc(b:Bool):V.ok1 (V.ifc b)=true:=rfl
theorem V.flat_ifc(b:Bool):V.flat (V.ifc b)=true:=rfl
theorem V.flat1_ifc(b:Bool):V.flat1 (V.ifc b)=true:=rfl
theorem V.flat2_ifc(b:Bool):V.flat2 (V.ifc b)=true:=rfl
theorem V.isBox_ifc(i:Nat)(b:Bool):V.isBox i (V.ifc b)=false:=rfl
theorem V.cell_agg(cs:List V):V.cell (V.agg cs)=false:=rfl
theorem V.cells_agg(cs:List V):V.cells (V.agg cs)=cs:=rfl
theorem V.ok1_agg(cs:List V):V.ok1 (V.agg cs)=cs.all V.cell:=rfl
theorem V.flat_agg(cs:List V):V.flat (V.agg cs)=false:=rfl
theorem V.flat1_agg(cs:List V):V.flat1 (V.agg cs)=cs.all V.flat:=rfl
theorem V.flat2_agg(cs:List V):V.flat2 (V.agg cs)=cs.all V.flat:=rfl
theorem V.isBox_agg(i:Nat)(cs:List V):V.isBox i (V.agg cs)=false:=rfl
theorem V.cell_tup(cs:List V):V.cell (V.tup cs)=false:=rfl
theorem V.cells_tup(cs:List V):V.cells (V.tup cs)=[(V.tup cs)]:=rfl
theorem V.ok1_tup(cs:List V):V.ok1 (V.tup cs)=false:=rfl
theorem V.flat_tup(cs:List V):V.flat (V.tup cs)=false:=rfl
theorem V.flat1_tup(cs:List V):V.flat1 (V.tup cs)=false:=rfl
theorem V.flat2_tup(cs:List V):V.flat2 (V.tup cs)=cs.all V.flat1:=rfl
theorem V.isBox_tup(i:Nat)(cs:List V):V.isBox i (V.tup cs)=false:=rfl
theorem J6{f:Bb}{args:List V}{d:Option Nat}{k:St→Prop}{st:St}{t:Ka k}(p:f args st.hp fun r h=>k (St.put ⟨st.sl,st.bx,h⟩ d r)):dj f args d k st t:=p
theorem ZD {body:ACode} {live:List Nat} {k:BN} (I:Nat→St→Prop)
 (hs:∀ (m:Nat) (st:St) (next:St→Prop),I m st→(∀ (m':Nat) (st':St),m'<m→I m' { st' with sl:=keep live 0 st'.sl }→next st')→Bw body (Ep next k) st) :
 ∀ (fuel m:Nat) (st:St),m<fuel→I m { st with sl:=keep live 0 st.sl }→Lo (Bw body) live k fuel st
 |0,m,st,h,_=>absurd h (Pm m)
 |fuel+1,m,st,h,hI=>hs m _ _ hI fun m' st' hm hI'=>ZD I hs fuel m' st' (by omega) hI'
theorem xT {body:ACode} {live:List Nat} {k:BN} {st:St} (I:Nat→St→Prop) (m:Nat) (h0:I m { st with sl:=keep live 0 st.sl })
 (hs:∀ (m:Nat) (st:St) (next:St→Prop),I m st→(∀ (m':Nat) (st':St),m'<m→I m' { st' with sl:=keep live 0 st'.sl }→next st')→Bw body (Ep next k) st) :
 Bw (.loop live body) k st:=⟨m+1,ZD I hs (m+1) m st (Pg m) h0⟩
theorem MI {body:ACode} {live:List Nat} {k:BN} {st:St} (n:Nat) (I:Nat→St→Prop) (h0:I 0 { st with sl:=keep live 0 st.sl })
 (hs:∀ (i:Nat) (st:St) (next:St→Prop),i≤n→I i st→(∀ st':St,i<n→I (i+1) { st' with sl:=keep live 0 st'.sl }→next st')→Bw body (Ep next k) st) :
 Bw (.loop live body) k st:=by
 refine xT (fun m st=>∃ i,i≤n∧m=n-i∧I i st) n ⟨0,Gl n,rfl,h0⟩ fun m st next hI hn=>?_
 obtain⟨i,hi,hm,hI⟩:=hI
 exact hs i st next hi hI fun st' hlt hI'=>hn (n-(i+1)) st' (by omega) ⟨i+1,by omega,rfl,hI'⟩
attribute [go_sem] BZ wO sJ xi tD vY wZ rq wm tn pD sd q7 vQ rN wP vm w9 ui uI eq_self wh vC tN yD pK nP w7 yp vE rO ti sw xc qT vN sM tL r8 we x8 xb xU tw qd qg sA sk vV qG ru rI Wo td sW ue uq tz th uc tM tC tI vx wJ qz rE rM rQ yS tv DD Fj Dv Zab zO zI zg put AS Cl splice V.cell_undef V.cells_undef V.ok1_undef V.flat_undef V.flat1_undef V.flat2_undef V.isBox_undef V.cell_bool V.cells_bool V.ok1_bool V.flat_bool V.flat1_bool V.flat2_bool V.isBox_bool V.cell_int V.cells_int V.ok1_int V.flat_int V.flat1_int V.flat2_int V.isBox_int V.cell_str V.cells_str V.ok1_str V.flat_str V.flat1_str V.flat2_str V.isBox_str V.cell_nils V.cells_nils V.ok1_nils V.flat_nils V.flat1_nils V.flat2_nils V.isBox_nils V.cell_slice V.cells_slice V.ok1_slice V.flat_slice V.flat1_slice V.flat2_slice V.isBox_slice V.cell_box V.cells_box V.ok1_box V.flat_box V.flat1_box V.flat2_box V.isBox_box V.cell_ptr V.cells_ptr V.ok1_ptr V.flat_ptr V.flat1_ptr V.flat2_ptr V.isBox_ptr V.cell_ifc V.cells_ifc V.ok1_ifc V.flat_ifc V.flat1_ifc V.flat2_ifc V.isBox_ifc V.cell_agg V.cells_agg V.ok1_agg V.flat_agg V.flat1_agg V.flat2_agg V.isBox_agg V.cell_tup V.cells_tup V.ok1_tup V.flat_tup V.flat1_tup V.flat2_tup V.isBox_tup clearBox keep St.put AOp.clears DA Fs Cm B4 List.map Ek Tf Lj S6 Bool.not_false JO Option.bind V4 KN A0 Ba FL not_false_eq_true KI AZ Bool.true_eq_false Bz Bh List.take List.drop KJ G4 Dq JV decide_true decide_false Int.lt_irrefl Int.le_refl beq_self_eq_true Bs DR Bn
section
variable {α:Type}
def AJ(f:α→Int→α×Int):List α→Int→List α×Int
 |[],m=>([],m)
 |a::r,m=>((f a m).1::(AJ f r (f a m).2).1,(AJ f r (f a m).2).2)
def AX(f:α→Int→α×Int)(l:List α)(m:Int)(i:Nat):List α×Int:=((AJ f (l.take i) m).1++l.drop i,(AJ f (l.take i) m).2)
theorem FE(f:α→Int→α×Int):∀ (l:List α) (m:Int),(AJ f l m).1.length=l.length
 |[],_=>rfl
 |a::r,m=>by simp only[AJ,Bz,FE f r]
theorem Y9(f:α→Int→α×Int):∀ (l k:List α) (m:Int),AJ f (l++k) m=((AJ f l m).1++(AJ f k (AJ f l m).2).1,(AJ f k (AJ f l m).2).2)
 |[],k,m=>rfl
 |a::r,k,m=>by simp only[Cm,AJ,Y9 f r k]
theorem Ky(f:α→Int→α×Int)(l:List α)(m:Int):AX f l m 0=(l,m):=rfl
theorem GW(f:α→Int→α×Int)(l:List α)(m:Int):AX f l m l.length=AJ f l m:=by simp[AX]
theorem Ev(f:α→Int→α×Int)(l:List α)(m:Int)(i:Nat):(AX f l m i).1.length=l.length:=by
 simp only[AX,EE,FE,Fe,O9];omega
theorem uZ(f:α→Int→α×Int)(l:List α)(m:Int)(i:Nat)(d:α):(AX f l m i).1.getD i d=l.getD i d:=by
 simp only[AX,Dn];rcases Bx i l.length with h|h
 · rw[CA (by rw[FE,Fe];omega),FE,Fe,KU];congr 2;omega
 · rw[Bl (by simp[FE];omega),Bl h]
theorem Og(f:α→Int→α×Int)(l:List α)(m:Int){i:Nat}(hi:i<l.length)(d:α) :
 AX f l m (i+1)=((AX f l m i).1.set i (f (l.getD i d) (AX f l m i).2).1,(f (l.getD i d) (AX f l m i).2).2):=by
 have h1:l.take (i+1)=l.take i++[l.getD i d]:=by
  rw[Tj,Dn,A3 hi];rfl
 simp only[AX,h1,Y9,AJ]
 refine Prod.ext ?_ rfl
 have h2:(AJ f (l.take i) m).1.length=i:=by rw[FE,Fe];omega
 simp only
 rw[List.set_append_right _ _ (by omega),h2,Pe,Tq hi,List.set_cons_zero,BC]
 rfl
end
def zf:IntKind→Int→Int
 |.i64,m=>m
 |k,m=>k.wrap m
mutual
def CT.mkI:(t:CT)→t.D→Int→t.D×Int
 |.int k,_,m=>(zf k m,IntKind.i64.wrap (m+1))
 |.bool,_,m=>((m.tmod 3 == 0:Bool),IntKind.i64.wrap (m+1))
 |.str,s,m=>(s,m)
 |.ifc,b,m=>(b,m)
 |.sl r,l,m=>AJ (RT.mkI r) l m
def RT.mkI:(r:RT)→r.D→Int→r.D×Int
 |.one t,x,m=>CT.mkI t x m
 |.cons t r,x,m=>(((CT.mkI t x.1 m).1,(RT.mkI r x.2 (CT.mkI t x.1 m).2).1),(RT.mkI r x.2 (CT.mkI t x.1 m).2).2)
end
def CT.mkT:(t:CT)→t.D→Int→t.D×Int
 |.sl r,l,m=>AJ (RT.mkI r) l m
 |_,x,m=>(x,m)
def RT.mkT:(r:RT)→r.D→Int→r.D×Int
 |.one t,x,m=>CT.mkT t x m
 |.cons t r,x,m=>(((CT.mkT t x.1 m).1,(RT.mkT r x.2 (CT.mkT t x.1 m).2).1),(RT.mkT r x.2 (CT.mkT t x.1 m).2).2)
mutual
def CT.wl:(t:CT)→t.D→Prop
 |.sl r,l=>l.length≤9223372036854775807∧∀ a:r.D,List.Mem a l→RT.wl r a
 |_,_=>True
def RT.wl:(r:RT)→r.D→Prop
 |.one t,x=>CT.wl t x
 |.cons t r,x=>CT.wl t x.1∧RT.wl r x.2
end
section
variable {h h':Ab} {ω:Nat→W} {hd:Hd} {p:List Nat}
abbrev Fh (ω:Nat→W) (hd:Hd) (p:List Nat):Nat→Prop:=fun l=>∃ q,ω l= .own hd (p++q)
abbrev MS (h:Ab) (ω:Nat→W) (hd:Hd) (p:List Nat) (r:RT) (l:List r.D) (u:V):Prop:=RC h ω (.inn hd p) (.sl .own (l.map r.enc)) u
theorem MS.len{r:RT}{l:List r.D}{u:V}(M:MS h ω hd p r l u):TE u=some (.int .i64 (l.length:Int)):=by
 unfold MS at M;generalize he:l.map r.enc=es at M
 have hl:l.length=es.length:=by rw[← he,Bc]
 cases M with
 |nil=>rw[hl];rfl
 |sl _ _ _ l o n b h1 hk hc hne hn hw hle hr=>rw[hl,← hn];rfl
theorem MS.ok1{r:RT}{l:List r.D}{u:V}(M:MS h ω hd p r l u):u.ok1=true∧u.cell=true:=by
 unfold MS at M;generalize l.map r.enc=es at M;cases M<;>exact⟨rfl,rfl⟩
theorem MS.slice{r:RT}{l:List r.D}{u:V}(M:MS h ω hd p r l u)(hl:0<l.length):∃ b,u= .slice b 0 l.length:=by
 unfold MS at M;generalize he:l.map r.enc=es at M
 have hl':l.length=es.length:=by rw[← he,Bc]
 cases M with
 |nil=>rw[hl'] at hl;simp at hl
 | sl _ _ _ b o n bk h1 hk hc hne hn hw hle hr=>
   obtain⟨_,rfl,_⟩:=hc;exact⟨b,by rw[hl',hn]⟩
theorem MS.upd {r:RT} {l:List r.D} {b n:Nat} (M:MS h ω hd p r l (.slice b 0 n)) {i off:Nat} (hi:i<l.length) (hoff:off<r.w) {y:r.D} {c:PV} (hy:r.enc y=AB (r.enc (l.getD i r.dflt)) off [c])
 {bk:Blk} (h1:h[b]?=some bk) {cs':List V} (h1':h'[b]?=some { bk with cs:=cs' }) (hcl:cs'.length=bk.cs.length) {v:V} (hcs:∀ k,get cs' k=if k=i*r.w+off then v else get bk.cs k)
 (hO:∀ x,x≠b→(∀ q,ω x≠.own hd (p++(i*r.w+off)::q))→h'[x]?=h[x]?) (hc:RC h' ω (.inn hd (p++[i*r.w+off])) c v):MS h' ω hd p r (l.set i y) (.slice b 0 n):=by
 unfold MS at M ⊢
 rw[← Oy,hy,← FK r l i hi]
 generalize he:l.map r.enc=es at M
 have hl':l.length=es.length:=by rw[← he,Bc]
 have hwr:∀ e∈es,e.length=r.w:=by rw[← he];intro e h;obtain⟨x,_,rfl⟩:=List.mem_map.1 h;exact I5 r x
 have hi':i<es.length:=by rw[← hl'];exact hi
 cases M with
 | sl _ _ _ _ o _ bk' h1b hk hch hne hn hw hle hr=>
   rw[h1] at h1b;cases h1b
   have hbw:bk.w=r.w:=by rw[← hw _ (Eg (l:=es) hi')];exact hwr _ (Eg hi')
   have hel:=KL hw hi';obtain⟨hb1,_,hb3⟩:=hch
   refine RC.sl _ .own _ b 0 n { bk with cs:=cs' } h1' hk ⟨hb1,rfl,hb3⟩ (fun _ _ h=>by have:=congrArg List.length h;rw[DM] at this;simp only[Bh] at this;omega) (by rw[DM];exact hn) (Pa hw (by rw[EW];exact hel)) (by rw[DM];simp only[hcl];exact hle) fun k hk'=>?_
   simp only[DM] at hk';rw[Sg hw hi' (by rw[hbw];simp only[Bz,Bh];omega) k hk',Bs,hcs];simp only[Bz,Bh,hbw];by_cases hkk:k=i*r.w+off
   · subst hkk;rw[Ac ⟨by omega,by omega⟩,Ac rfl,Pe];exact hc
   · rw[Ae (by omega),Ae hkk];have r0:=hr k hk';rw[Bs] at r0;refine r0.inn0 (f:=Ren.id) (T:=fun x=>x=b∨∃ q,ω x= .own hd (p++(i*r.w+off)::q)) ⟨fun x e=>⟨e,hO x (by rintro rfl;rw[hb1] at e;cases e) (fun q e'=>by rw[e] at e';cases e')⟩,fun x a q e hn=>⟨by rw[e];rfl,hO x (fun h=>hn (.inl h)) (fun q' e'=>hn (.inr ⟨q',e'⟩))⟩⟩ (fun x q e hT=>?_) (fun q=>rfl);rcases hT with rfl|⟨q',e'⟩
     · rw[hb1] at e;simp only[W.own.injEq] at e;have:=congrArg List.length e.2;simp at this
     · rw[e] at e';simp only[W.own.injEq,BC,Cm,B4,List.append_cancel_left_eq,Ha] at e';exact hkk e'.2.1
theorem MS.store {r:RT} {l:List r.D} {b n:Nat} (M:MS h ω hd p r l (.slice b 0 n)) {i off:Nat} (hi:i<l.length) (hoff:off<r.w) {v:V} (hv:v.flat=true) (hvc:v.cells=[v]) {y:r.D} (hy:r.enc y=AB (r.enc (l.getD i r.dflt)) off [.fl v])
 (hinj:∀ l l' a q,ω l= .own a q→ω l'= .own a q→l=l') (bx:List (List V)):∃ h',CX bx h 1 (.ptr b (i*r.w+off)) v=some (.undef,bx,h')∧Only (Fh ω hd p) h h'∧MS h' ω hd p r (l.set i y) (.slice b 0 n):=by
 have M0:=M
 unfold MS at M0
 generalize he:l.map r.enc=es at M0
 have hl':l.length=es.length:=by rw[← he,Bc]
 have hwr:∀ e∈es,e.length=r.w:=by rw[← he];intro e h;obtain⟨x,_,rfl⟩:=List.mem_map.1 h;exact I5 r x
 have hi':i<es.length:=by rw[← hl'];exact hi
 cases M0 with
 | sl _ _ _ _ o _ bk h1 hk hch hne hn hw hle hr=>
   have hbw:bk.w=r.w:=by rw[← hw _ (Eg (l:=es) hi')];exact hwr _ (Eg hi')
   obtain⟨hb1,_,hb3⟩:=hch
   have hlt:i*r.w+off<bk.cs.length:=by
    have:(i+1)*r.w≤es.length*r.w:=Fb _ hi';rw[CM,Gu] at this;rw[hbw] at hle;omega
   have hb:b<h.length:=BP h1
   have hset:∀ k,(h.set b { bk with cs:=splice bk.cs (i*r.w+off) [v] })[k]?=if k=b then some { bk with cs:=splice bk.cs (i*r.w+off) [v] } else h[k]?:=by
    intro k;rw[FP];by_cases hk:b=k
    · subst hk;simp[hb]
    · rw[Ae hk,Ae (fun h'=>hk h'.symm)]
   have hvcell:[v].all V.cell=true:=by
    cases v<;>first|rfl|(simp[V.flat] at hv)
   refine⟨h.set b { bk with cs:=splice bk.cs (i*r.w+off) [v] },?_,⟨by simp,fun x hx=>?_,fun x bx' hx=>?_⟩,M.upd hi hoff hy h1 (cs':=splice bk.cs (i*r.w+off) [v]) (v:=v) (by rw[hset,Ac rfl]) (Eu _ _ _) (fun k=>?_) (fun x hx _=>by rw[hset,Ae hx]) (.v _ _ hv)⟩
   · have hwr':wr h b (i*r.w+off) [v]=some (h.set b { bk with cs:=splice bk.cs (i*r.w+off) [v] }):=by
      rw[wr,h1];simp only;rw[Ac ⟨hb3,by simp only[Bz,Bh];omega⟩]
     simp only[CX,hvc,hvcell,Bz,Bh,hwr'];rfl
   · rw[hset,Ae];rintro rfl;exact hx ⟨[],by rw[hb1];simp⟩
   · by_cases hxb:x=b
     · subst hxb;rw[h1] at hx;cases hx;exact⟨{ bk with cs:=splice bk.cs (i*r.w+off) [v] },by rw[hset,Ac rfl],rfl,rfl,Eu _ _ _⟩
     · exact⟨bx',by rw[hset,Ae hxb];exact hx,rfl,rfl,rfl⟩
   · rw[N5 _ _ _ _ (by simp only[Bz,Bh];omega)];simp only[Bz,Bh];by_cases hkk:k=i*r.w+off
     · subst hkk;rw[Ac ⟨by omega,by omega⟩,Ac rfl,Pe];rfl
     · rw[Ae (by omega),Ae hkk]
theorem MS.load{r:RT}{l:List r.D}{b n:Nat}(M:MS h ω hd p r l (.slice b 0 n)){i off:Nat}(hi:i<l.length)(hoff:off<r.w){r':RT}{l':List r'.D}(hx:Aa (r.enc (l.getD i r.dflt)) off= .sl .own (l'.map r'.enc)) :
 ∃ u,Mw h none (.ptr b (i*r.w+off))=some u∧MS h ω hd (p++[i*r.w+off]) r' l' u∧∃ bk,h[b]?=some bk∧get bk.cs (i*r.w+off)=u:=by
 have M0:=M
 unfold MS at M0
 rw[← FK r l i hi] at hx
 generalize he:l.map r.enc=es at M0 hx
 have hl':l.length=es.length:=by rw[← he,Bc]
 have hwr:∀ e∈es,e.length=r.w:=by rw[← he];intro e h;obtain⟨x,_,rfl⟩:=List.mem_map.1 h;exact I5 r x
 have hi':i<es.length:=by rw[← hl'];exact hi
 cases M0 with
 | sl _ _ _ _ o _ bk h1 hk hch hne hn hw hle hr=>
   have hbw:bk.w=r.w:=by rw[← hw _ (Eg (l:=es) hi')];exact hwr _ (Eg hi')
   have hm:(i+1)*r.w≤es.length*r.w:=Fb _ hi';rw[CM,Gu] at hm
   have hlt:i*r.w+off<bk.cs.length:=by rw[hbw] at hle;omega
   have r0:=hr (i*r.w+off) (by rw[hbw];omega);rw[Bs] at r0;have hf:Aa es.flatten (i*r.w+off)=Aa (AV es i) off:=Gg (w:=r.w) (by rw[← hbw];exact hw) i off hoff;rw[hf,hx] at r0;refine⟨get bk.cs (i*r.w+off),?_,r0,bk,h1,rfl⟩
   have e1:rd h b (i*r.w+off) 1=some ((bk.cs.drop (i*r.w+off)).take 1):=by
    rw[rd,h1];simp only;rw[Ac ⟨hk,by omega⟩]
   show (rd h b (i*r.w+off) 1).bind (Cf none)=_;rw[e1];rw[Tq hlt];simp only[WK,List.take_zero,JK,Cf,CD,A3 hlt];rfl
theorem MS.sub {r:RT} {l:List r.D} {b n:Nat} (M:MS h ω hd p r l (.slice b 0 n)) {i off:Nat} (hi:i<l.length) (hoff:off<r.w) {u:V} {bk:Blk} (h1:h[b]?=some bk) (hu:get bk.cs (i*r.w+off)=u)
 (hO:Only (Fh ω hd (p++[i*r.w+off])) h h') {r':RT} {l':List r'.D} (hr:MS h' ω hd (p++[i*r.w+off]) r' l' u) {y:r.D} (hy:r.enc y=AB (r.enc (l.getD i r.dflt)) off [.sl .own (l'.map r'.enc)]) :
 Only (Fh ω hd p) h h'∧MS h' ω hd p r (l.set i y) (.slice b 0 n):=by
 have hb1:ω b= .own hd p:=by
  have M0:=M;unfold MS at M0;generalize l.map r.enc=es at M0
  cases M0 with
  |sl _ _ _ _ o _ bk h1 hk hch hne hn hw hle hr=>exact hch.1
 refine⟨hO.mono fun x ⟨q,e⟩=>⟨(i*r.w+off)::q,by rw[e];simp⟩,M.upd hi hoff hy h1 (cs':=bk.cs) (v:=u) ?_ rfl (fun k=>?_) (fun x _ hx=>hO.off x (fun⟨q,e⟩=>hx q (by rw[e];simp))) hr⟩
 · rw[hO.off b]
   · exact h1
   · rintro⟨q,e⟩;rw[hb1] at e;simp only[W.own.injEq] at e;have:=congrArg List.length e.2;simp at this
 · split
   · rename_i hk;rw[hk,hu]
   · rfl
theorem MS.frame{r:RT}{l:List r.D}{u:V}(M:MS h ω hd p r l u){i:Nat}(hi:i<l.length):MS h ω hd p r (l.set i (l.getD i r.dflt)) u:=by
 have:l.set i (l.getD i r.dflt)=l:=by
  rw[Dn,A3 hi];simp
 rw[this];exact M
theorem UO{r:RT}{l:List r.D}{i:Nat}(hi:i<l.length)(x:r.D):(l.set i x).getD i r.dflt=x:=by
 rw[Dn,WC (by simpa using hi)];rfl
theorem MS.st {r:RT} {l:List r.D} {b n i:Nat} {x:r.D} (M:MS h ω hd p r (l.set i x) (.slice b 0 n)) (hi:i<l.length) {off:Nat} (hoff:off<r.w) {v:V} (hv:v.flat=true) (hvc:v.cells=[v]) {y:r.D} (hy:r.enc y=AB (r.enc x) off [.fl v])
 (hinj:∀ l l' a q,ω l= .own a q→ω l'= .own a q→l=l') (bx:List (List V)):∃ h',CX bx h 1 (.ptr b (i*r.w+off)) v=some (.undef,bx,h')∧Only (Fh ω hd p) h h'∧MS h' ω hd p r (l.set i y) (.slice b 0 n):=by
 obtain⟨h',e1,e2,e3⟩:=M.store (i:=i) (off:=off) (by simpa using hi) hoff hv hvc (y:=y) (by rw[UO hi];exact hy) hinj bx
 rw[List.set_set] at e3
 exact⟨h',e1,e2,e3⟩
theorem MS.sb{r:RT}{l:List r.D}{b n i:Nat}{x:r.D}(M:MS h ω hd p r (l.set i x) (.slice b 0 n))(hi:i<l.length){off:Nat}(hoff:off<r.w){r':RT}{l':List r'.D}(hx:Aa (r.enc x) off= .sl .own (l'.map r'.enc)) :
 ∃ u,Mw h none (.ptr b (i*r.w+off))=some u∧MS h ω hd (p++[i*r.w+off]) r' l' u ∧
   ∀ (h':Ab) (l'':List r'.D) (y:r.D),Only (Fh ω hd (p++[i*r.w+off])) h h'→MS h' ω hd (p++[i*r.w+off]) r' l'' u→r.enc y=AB (r.enc x) off [.sl .own (l''.map r'.enc)]→Only (Fh ω hd p) h h'∧MS h' ω hd p r (l.set i y) (.slice b 0 n):=by
 obtain⟨u,e1,e2,bk,e3,e4⟩:=M.load (i:=i) (off:=off) (by simpa using hi) hoff (r':=r') (l':=l') (by rw[UO hi];exact hx)
 refine⟨u,e1,e2,fun h' l'' y hO hM hy=>?_⟩
 obtain⟨k1,k2⟩:=M.sub (i:=i) (off:=off) (by simpa using hi) hoff e3 e4 hO hM (y:=y) (by rw[UO hi];exact hy)
 rw[List.set_set] at k2
 exact⟨k1,k2⟩
theorem ML{r:RT}{l:List r.D}(hw:CT.wl (.sl r) l){i:Nat}(hi:i<l.length):RT.wl r (l.getD i r.dflt):=by
 rw[Dn,A3 hi];exact hw.2 _ (Eg hi)
theorem RC.beside{m:Nat}{P:List Nat}{v:PV}{u:V}{S:Nat→Prop}(r:RC h ω (.inn hd (P++[m])) v u)(hO:Only S h h')(hS:∀ l,S l→∃ c q,c≠m∧ω l= .own hd (P++c::q)):RC h' ω (.inn hd (P++[m])) v u:=by
 refine r.inn0 (f:=Ren.id) (T:=S) ⟨fun l e=>⟨e,hO.off l fun hs=>?_⟩,fun l a q e hn=>⟨by rw[e];rfl,hO.off l hn⟩⟩ (fun l q e hs=>?_) (fun q=>rfl)
 · obtain⟨c,q,_,e'⟩:=hS l hs;rw[e] at e';cases e'
 · obtain⟨c,q',hc,e'⟩:=hS l hs;rw[e] at e';simp only[W.own.injEq,BC,Cm,B4,List.append_cancel_left_eq,Ha] at e';exact hc e'.2.1.symm
theorem RC.cellV{H:Ab}{m:Md}{v:PV}{u:V}(r:RC H ω m v u)(h:v.argc=true):u.cell=true:=Wm r h
theorem RC.own1{H:Ab}{m:Md}{es:List (List PV)}{u:V}(r:RC H ω m (.sl .own es) u):u.ok1=true∧u.cell=true∧u.cells=[u]:=by cases r<;>exact⟨rfl,rfl,rfl⟩
theorem RC.flat1{H:Ab}{m:Md}{x u:V}(r:RC H ω m (.fl x) u)(hx:x≠.undef):u=x:=by
 cases r with
 |undef=>exact absurd rfl hx
 |v=>rfl
theorem Lg{x:Int}(h:-9223372036854775808≤x∧x≤9223372036854775807):IntKind.i64.wrap x=x:=by
 rw[IntKind.wrap_i64];omega
theorem Bq{r:RT}{x:r.D}{j:Nat}(h:j<r.w):j<(r.enc x).length:=by rw[I5];exact h
theorem MB{b n w:Nat}{i:Nat}(hi:i<n){k:IntKind}:aS w (.slice b 0 n) (.int k (i:Int))=some (.ptr b (i*w)):=by
 show (if 0≤(i:Int)∧(i:Int)<n then some (V.ptr b (0+(i:Int).toNat*w)) else none)=_;rw[Ac (by omega),AK,Bs]
theorem L8{r:RT}{l:List r.D}{m:Int}{i:Nat}(hi:i<l.length){L:List r.D}{k:Int}(e:AX r.mkI l m i=(L,k)):L.length=l.length∧AX r.mkI l m (i+1)=(L.set i (r.mkI (L.getD i r.dflt) k).1,(r.mkI (L.getD i r.dflt) k).2)∧L.getD i r.dflt=l.getD i r.dflt:=by
 have h1:=Ev r.mkI l m i;have h2:=uZ r.mkI l m i r.dflt;rw[e] at h1 h2;exact⟨h1,by rw[Og r.mkI l m hi r.dflt,e,← h2],h2⟩
end
theorem zA{us:List V}(h:us.length=2):∃ u0 u1,us=[u0,u1]:=by
 match us,h with
 |[u0,u1],_=>exact⟨u0,u1,rfl⟩
theorem zj{us:List V}(h:us.length=7):∃ u0 u1 u2 u3 u4 u5 u6,us=[u0,u1,u2,u3,u4,u5,u6]:=by
 match us,h with
 |[u0,u1,u2,u3,u4,u5,u6],_=>exact⟨u0,u1,u2,u3,u4,u5,u6,rfl⟩
theorem yr{us:List V}(h:us.length=15):∃ u0 u1 u2 u3 u4 u5 u6 u7 u8 u9 u10 u11 u12 u13 u14,us=[u0,u1,u2,u3,u4,u5,u6,u7,u8,u9,u10,u11,u12,u13,u14]:=by
 match us,h with
 |[u0,u1,u2,u3,u4,u5,u6,u7,u8,u9,u10,u11,u12,u13,u14],_=>exact⟨u0,u1,u2,u3,u4,u5,u6,u7,u8,u9,u10,u11,u12,u13,u14,rfl⟩
def SlC(s:Bb)(r:RT):Prop:=∀ (h:Ab) (ω:Nat→W) (hd:Hd) (p:List Nat) (l:List r.D) (u:V) (m:Int) (Q:V→Ab→Prop),CT.wl (.sl r) l→(∀ l l' a q,ω l= .own a q→ω l'= .own a q→l=l')→MS h ω hd p r l u →
 (∀ h',Only (Fh ω hd p) h h'→MS h' ω hd p r (AJ r.mkI l m).1 u→Q (.int .i64 (AJ r.mkI l m).2) h')→s [u,.int .i64 m] h Q
def zT(r:RT):DMk:=⟨.one (.sl r),false,fun l=>CT.wl (.sl r) l,fun l m=>AJ r.mkI l m,false⟩
def TL(r:RT):DMk:=⟨r,true,fun x=>RT.wl r x,fun x m=>r.mkT x m,false⟩
theorem xX(r:RT)(m:Int):(TL r).P.rv m= .int .i64 m:=rfl
attribute [go_sem] xX
theorem SlC.sound{s:Bb}{r:RT}(hs:SlC s r):JT s (zT r).P:=by
 rintro h ω hd P b A4 us u m K Q hinj hu hl hr ⟨x,rfl,hok,hK⟩ hQ;have hu:us=[u]:=hu;subst hu;have h0:=hr 0 (by show 0<1;omega)
 refine hs h ω hd (P++[b]) x u m Q hok hinj h0 fun h' hO hM=>?_
 refine hQ _ _ h' hK rfl (hO.mono fun l ⟨q,e⟩=>⟨0,_,q,by show 0<1;omega,rfl,by rw[e];simp⟩) fun c hc=>?_
 have:c=0:=by have:c<1:=hc;omega
 subst this;exact hM
abbrev dT (ω:Nat→W) (hd:Hd) (P:List Nat) (b:Nat) (cs:List PV):Nat→Prop:=fun l=>∃ c es r,c<cs.length∧Aa cs c= .sl .own es∧ω l= .own hd (P++(b+c)::r)
structure Fn where
 d:DFun
 h:List HT
 q:QT
@[irreducible] def Fn.S(F:Fn):Bb:=ED F.d.er.er
@[irreducible] def Fn.P(F:Fn):Df:=MC F.d.er
@[irreducible] def Fn.V(F:Fn)(x:TuX F.h):F.q.D:=(shut fun x=>Lu F.d F.h F.q x).1 x
@[irreducible] def Fn.O(F:Fn)(x:TuX F.h):Prop:=(shut fun x=>Ls F.d F.h F.q x).1 x
def Fn.D(F:Fn):Kd:=WY F.h F.q F.O F.V
theorem Fn.v(F:Fn)(x:TuX F.h):F.V x=Lu F.d F.h F.q x:=by unfold Fn.V;exact congrFun (shut _).2 x
theorem Fn.o(F:Fn)(x:TuX F.h):F.O x=Ls F.d F.h F.q x:=by unfold Fn.O;exact congrFun (shut _).2 x
def Fn.A(F:Fn):Prop:=MP F.S F.P
def Fn.B(F:Fn):Prop:=Ti F.P F.D
theorem AF{F:Fn}(o:AllP F.d.er.body.obs):F.A:=by unfold Fn.A Fn.S Fn.P;exact rY o
theorem AG{F:Fn}(o:AllD F.d.body.obs)(st:Nr F.d F.h F.q=true)(c:∀ x,M9 F.d F.h F.q x=true):F.B:=by
 unfold Fn.B Fn.P;exact tQ o st c (fun x h=>Eq.mp (F.o x) h) (fun x=>(F.v x).symm)
@[reducible] def oF (i d:Nat) (F:Fn) (args:List Opnd):DOper:=⟨i,some d,.call false F.S F.P F.D args,none,[]⟩
@[reducible] def xF (i d:Nat) (F:Fn) (args:List Opnd) (a:List Nat):DOper:=⟨i,some d,.call false F.S F.P F.D args,none,a⟩
theorem lF{P:Program}(hm:P.follows .mixedOrders=true){F:Fn}{f:FuncId}{fn:Func}{obs:List (FuncId×Bb)}(hf:P.funcs[f]?=some fn)(hk:Fk P fn F.d.er.er=true)(ho:Fi P fn F.d.er.er=obs)(hob:AllSound P obs):Au P f F.S:=by
 unfold Fn.S;exact GR hm hf hk ho hob
theorem Ay(a:Bool):bNot a=!a:=by simp only[MU]
theorem AA(a b:Bool):bAnd a b=(a&&b):=by simp only[Wl]
theorem Ck(a b:Bool):bOr a b=(a||b):=by simp only[dG]
theorem C9(a b:Bool):bIff a b=(a == b):=by simp only[cw]
theorem Ce{α:Type}(c:Bool)(x y:α):bSel c x y=if c=true then x else y:=by cases c<;>simp[DQ,Eh]
theorem Db(a b:Int):iEq a b=decide (a=b):=by
 rw[TB];by_cases h:a=b<;>simp[h]
theorem B0(a b:Int):iNe a b=!decide (a=b):=by
 rw[dA];by_cases h:a=b<;>simp[h]
theorem Ar(a b:Int):iLt a b=decide (a<b):=by simp only[dy]
theorem KZ(a b:Int):iLe a b=decide (a≤b):=by simp only[dH]
theorem EF(a b:Int):iGt a b=decide (b<a):=by simp only[dt]
theorem Gv(a b:Int):iGe a b=decide (b≤a):=by simp only[di]
theorem ym(a b:List UInt8):sEq a b=(a == b):=by simp only[dg]
theorem yP(a b:List UInt8):sNe a b=!(a == b):=by simp only[dJ]
section
variable {α:Type}
theorem Ao(l:List α):lLen l=(l.length:Int):=by simp only[W2]
theorem Ps(l:List α):lN l=l.length:=by simp only[PJ]
theorem AL(l:List α)(j:Nat)(d:α):lGet l j d=l.getD j d:=by simp only[MO]
theorem Gk(l:List α)(j:Nat)(x:α):lSet l j x=l.set j x:=by simp only[O7]
theorem OY(l:List α)(a b:Nat):lSub l a b=(l.drop a).take (b-a):=by simp only[WM]
theorem aB(l:List α)(n:Nat):lTake l n=l.take n:=by simp only[VY]
theorem G0(l m:List α):lApp l m=l++m:=by simp only[KV]
theorem bK(n:Int)(x:α):lRep n x=List.replicate n.toNat x:=by simp only[cD]
theorem Ax(a:Int):iNat a=a.toNat:=by simp only[Wn]
theorem wU(a b:List UInt8):sAdd a b=a++b:=by simp only[cg]
end
def Cg(n:Int):Prop:=-9223372036854775808≤n∧n≤9223372036854775807
theorem wrap_i64{n:Int}(h:Cg n):IntKind.i64.wrap n=n:=by
 obtain⟨h1,h2⟩:=h;show (if decide (n % 18446744073709551616≥9223372036854775808)=true then n % 18446744073709551616-18446744073709551616 else n % 18446744073709551616)=n;simp only[AD];split<;>omega
theorem CJ{a b:Int}(h:Cg (a+b)):iAdd .i64 a b=a+b:=by rw[WX];exact wrap_i64 h
theorem IZ{a b:Int}(h:Cg (a-b)):iSub .i64 a b=a-b:=by rw[cj];exact wrap_i64 h
section
variable {X:Type} {c:X→Bool} {f:X→X} {p:X→Prop}
theorem Mo(I:X→Prop)(m:X→Nat)(h:∀ x,I x→p x∧(c x=true→I (f x)∧m (f x)<m x)){x0:X}(h0:I x0) :
 LoopOk c f p x0∧I (Aq c f x0)∧c (Aq c f x0)=false:=by
 have go:∀ (n:Nat) (x:X),m x<n→I x→∃ y,LoopTo c f p x y∧I y∧c y=false:=by
  intro n
  induction n with
  |zero=>intro x hm;exact absurd hm (Pm _)
  | succ n ih=>
    intro x hm hI;obtain⟨h1,h2⟩:=h x hI
    cases hc:c x with
    |false=>exact⟨x,.stop h1 hc,hI,hc⟩
    | true=>
      obtain⟨h3,h4⟩:=h2 hc;obtain⟨y,h5,h6,h7⟩:=ih (f x) (by omega) h3;exact⟨y,.go h1 hc h5,h6,h7⟩
 obtain⟨y,h1,h2,h3⟩:=go _ x0 (Pg _) h0
 rw[h1.val]
 exact⟨⟨y,h1⟩,h2,h3⟩
theorem Zo(I:X→Prop)(m:X→Nat)(h:∀ x,I x→c x=true→I (f x)∧m (f x)<m x){x0:X}(h0:I x0):I (Aq c f x0)∧c (Aq c f x0)=false:=
 (Mo (p:=fun _=>True) I m (fun x hx=>⟨trivial,h x hx⟩) h0).2
theorem Oq(n:Nat)(st:Nat→X){x0:X}(h0:st 0=x0)(hs:∀ k,k<n→p (st k)∧c (st k)=true∧f (st k)=st (k+1))(he:p (st n)∧c (st n)=false):LoopOk c f p x0∧Aq c f x0=st n:=by
 have go:∀ k,k≤n→LoopTo c f p (st (n-k)) (st n):=by
  intro k
  induction k with
  |zero=>intro _;exact .stop he.1 he.2
  | succ k ih=>
    intro hk;obtain⟨h1,h2,h3⟩:=hs (n-(k+1)) (by omega);refine .go h1 h2 ?_;rw[h3,show n-(k+1)+1=n-k by omega];exact ih (by omega)
 have:=go n (Bn _);rw[Pe,h0] at this;exact⟨⟨_,this⟩,this.val⟩
end
def Cv(t:Nat→Bool):Nat→Nat→Nat
 |0,i=>i
 |k+1,i=>if t i then i else Cv t k (i+1)
theorem L6(t:Nat→Bool):∀ k i,i≤Cv t k i∧Cv t k i≤i+k
 |0,i=>⟨Bn _,Bn _⟩
 | k+1,i=>by
   unfold Cv
   split
   · omega
   · have:=L6 t k (i+1);omega
theorem Od(t:Nat→Bool):∀ k i,Cv t k i<i+k→t (Cv t k i)=true
 |0,i,h=>by unfold Cv at h;omega
 | k + 1,i,h=>by
   unfold Cv at h ⊢
   split
   · rename_i ht;exact ht
   · rename_i ht
     rw[Ae ht] at h
     exact Od t k (i+1) (by omega)
theorem RM(t:Nat→Bool):∀ k i j,i≤j→j<Cv t k i→t j=false
 |0,i,j,h,h'=>by unfold Cv at h';omega
 | k + 1,i,j,h,h'=>by
   unfold Cv at h'
   split at h'
   · omega
   · rename_i ht
     by_cases hj:j=i
     · subst hj;simpa using ht
     · exact RM t k (i+1) j (by omega) h'
theorem ZY{c:Int→Bool}{f:Int→Int}{p:Int→Prop}(n:Nat)(t:Nat→Bool)(hn:(n:Int)≤9223372036854775806)(hc:∀ i:Nat,i≤n→c i=(decide (i<n)&&!t i))(hf:∀ i:Nat,i<n→f i=iAdd .i64 i 1)(hp:∀ i:Nat,i≤n→p i) :
 LoopOk c f p 0∧Aq c f 0=(Cv t n 0:Nat):=by
 have hle:=L6 t n 0
 refine Oq (Cv t n 0) (fun k=>(k:Int)) rfl (fun k hk=>?_) ⟨hp _ (by omega),?_⟩
 · have hk':k<n:=by omega
   refine⟨hp k (by omega),?_,?_⟩
   · rw[hc k (by omega),RM t n 0 k (by omega) hk];simp[hk']
   · rw[hf k hk',CJ (by unfold Cg;omega)];omega
 · rw[hc _ (by omega)]
   by_cases h:Cv t n 0<n
   · rw[Od t n 0 (by omega)];simp
   · simp[h]
theorem UG{t:Nat→Bool}{n:Nat}:Cv t n 0=n↔∀ i,i<n→t i=false:=by
 constructor
 · intro h i hi;exact RM t n 0 i (by omega) (by omega)
 · intro h;have hle:=L6 t n 0;rcases Bx (Cv t n 0) n with h1|h1
   · have:=Od t n 0 (by omega);rw[h _ h1] at this;cases this
   · omega
section
variable {α:Type}
theorem wB(x:List α)(k:Nat)(hk:k<x.length)(d:α)(l:List α)(hl:l.length=x.length)(h:l.take k=x.take k):(l.set k (x.getD k d)).take (k+1)=x.take (k+1):=by
 rw[Tj,Tj,List.take_set]
 have:(l.take k).set k (x.getD k d)=l.take k:=by
  apply List.set_eq_of_length_le;rw[Fe];exact Nat.min_le_left _ _
 rw[this,h];congr 1;rw[WC (by omega),Dn,A3 hk];simp
end
theorem bA{α:Type}{c:Int→Bool}{f:Int→Int}{p:Int→Prop}(a b:List α)(d:α)(ne:Nat→Bool)(hl:a.length=b.length)(hne:∀ i,i<a.length→(ne i=false↔a.getD i d=b.getD i d))(hn:(a.length:Int)≤9223372036854775806)(hc:∀ i:Nat,i≤a.length→c i=(decide (i<a.length)&&!ne i))(hf:∀ i:Nat,i<a.length→f i=iAdd .i64 i 1)(hp:∀ i:Nat,i≤a.length→p i) :
 LoopOk c f p 0∧(Aq c f 0<(a.length:Int)↔a≠b):=by
 obtain⟨h1,h2⟩:=ZY a.length ne hn hc hf hp
 refine⟨h1,?_⟩
 rw[h2]
 have hle:=L6 ne a.length 0
 constructor
 · intro h hab
   subst hab;have:=Od ne a.length 0 (by omega);rw[(hne _ (by omega)).2 rfl] at this;cases this
 · intro h
   rcases Bx (Cv ne a.length 0) a.length with h3|h3
   · omega
   · exfalso;apply h
     have h4:Cv ne a.length 0=a.length:=by omega
     rw[UG] at h4
     refine Wj hl fun i hi hi'=>?_
     have:=(hne i hi).1 (h4 i hi);rw[Dn,Dn,A3 hi,A3 hi'] at this;simpa using this
theorem yh{c:Int→Bool}{f:Int→Int}(n:Nat)(t:Nat→Bool)(hn:(n:Int)≤9223372036854775806)(hc:∀ i:Nat,i≤n→c i=(decide (i<n)&&!t i))(hf:∀ i:Nat,i<n→f i=iAdd .i64 i 1):Aq c f 0=(Cv t n 0:Nat):=(ZY (p:=fun _=>True) n t hn hc hf (fun _ _=>trivial)).2
theorem M6{α:Type}{c:Int→Bool}{f:Int→Int}{p:Int→Prop}(a b:List α)(d:α)(ne:Nat→Bool)(hl:a.length=b.length)(hne:∀ i,i<a.length→(ne i=false↔a.getD i d=b.getD i d))(hn:(a.length:Int)≤9223372036854775806)(hc:∀ i:Nat,i≤a.length→c i=(decide (i<a.length)&&!ne i))(hf:∀ i:Nat,i<a.length→f i=iAdd .i64 i 1)(hp:∀ i:Nat,i≤a.length→p i):LoopOk c f p 0:=(bA a b d ne hl hne hn hc hf hp).1
theorem Nn{α:Type}{c:Int→Bool}{f:Int→Int}(a b:List α)(d:α)(ne:Nat→Bool)(hl:a.length=b.length)(hne:∀ i,i<a.length→(ne i=false↔a.getD i d=b.getD i d))(hn:(a.length:Int)≤9223372036854775806)(hc:∀ i:Nat,i≤a.length→c i=(decide (i<a.length)&&!ne i))(hf:∀ i:Nat,i<a.length→f i=iAdd .i64 i 1):Aq c f 0<(a.length:Int)↔a≠b:=(bA (p:=fun _=>True) a b d ne hl hne hn hc hf (fun _ _=>trivial)).2
theorem YX {α:Type} {c:List α×Int→Bool} {f:List α×Int→List α×Int} {p:List α×Int→Prop} (x:List α) (z d:α) (hn:x.length≤1048576)
 (hc:∀ st,c st=iLt st.2 (lLen x)) (hf:∀ (l:List α) (i:Nat),i<x.length→f (l,(i:Int))=(l.set i (x.getD i d),iAdd .i64 i 1))
 (hp:∀ (l:List α) (i:Nat),l.length=x.length→i≤x.length→p (l,i)) :
 LoopOk c f p (lRep (lLen x) z,0)∧(Aq c f (lRep (lLen x) z,0)).1=x:=by
 have h:=Mo (c:=c) (f:=f) (p:=p) (fun st=>st.1.length=x.length∧∃ i:Nat,st.2=i∧i≤x.length∧st.1.take i=x.take i) (fun st=>x.length-st.2.toNat) (fun st hI=>?_) (x0:=(lRep (lLen x) z,0)) ⟨by simp[bK,Ao],0,rfl,Gl _,by simp⟩
 · obtain⟨h1,⟨h2,i,h3,h4,h5⟩,h6⟩:=h
   refine⟨h1,?_⟩;rw[hc,h3,Ar,Ao,B6] at h6
   have:i=x.length:=by omega
   subst this;rw[JV,← h2,JV] at h5;exact h5
 · obtain⟨l,j⟩:=st
   obtain⟨h2,i,h3,h4,h5⟩:=hI;simp only at h2 h3 h5;subst h3;refine⟨hp l i h2 h4,fun hcc=>?_⟩;rw[hc,Ar,Ao,AD] at hcc;simp only at hcc
   have hi:i<x.length:=by omega
   rw[hf l i hi];simp only[AK];rw[CJ (by unfold Cg;omega)];refine⟨⟨by simp[h2],i+1,by omega,by omega,wB x i hi d l h2 h5⟩,by omega⟩
theorem OH {α:Type} {c:List α×Int→Bool} {f:List α×Int→List α×Int} {p:List α×Int→Prop} (x:List α) (z d:α) (hn:x.length≤1048576)
 (hc:∀ st,c st=iLt st.2 (lLen x)) (hf:∀ (l:List α) (i:Nat),i<x.length→f (l,(i:Int))=(l.set i (x.getD i d),iAdd .i64 i 1))
 (hp:∀ (l:List α) (i:Nat),l.length=x.length→i≤x.length→p (l,i)):LoopOk c f p (lRep (lLen x) z,0):=(YX x z d hn hc hf hp).1
theorem OW {α:Type} {c:List α×Int→Bool} {f:List α×Int→List α×Int} (x:List α) (z d:α) (hn:x.length≤1048576)
 (hc:∀ st,c st=iLt st.2 (lLen x)) (hf:∀ (l:List α) (i:Nat),i<x.length→f (l,(i:Int))=(l.set i (x.getD i d),iAdd .i64 i 1)):(Aq c f (lRep (lLen x) z,0)).1=x:=(YX (p:=fun _=>True) x z d hn hc hf (fun _ _ _ _=>trivial)).2
theorem BW{α:Type}(x:List α)(i:Nat)(d:α)(h:i<x.length):x.getD i d∈x:=by
 rw[Dn,A3 h];exact Eg h
theorem OB{n:Int}{w:Nat}(h0:0≤n)(h:n≤1048576)(hw:w≤1000):AN (n.toNat*w):=by
 show n.toNat*w≤2^40
 have h1:n.toNat≤1048576:=by omega
 have:=Nat.mul_le_mul h1 hw;omega
theorem bt {α:Type} {c:Int×Int→Bool} {f:Int×Int→Int×Int} {p:Int×Int→Prop} (x:List α) (d:α) (S:α→Prop) (g:α→Int→Int) (l0:Int) (h0:0≤l0) (h1:l0≤1048576) (hn:x.length≤1048576)
 (hg:∀ i,i<x.length→∀ l,0≤l→l≤1048576→g (x.getD i d) l<0∨(0≤g (x.getD i d) l∧g (x.getD i d) l≤l∧S (x.getD i d)))
 (hc:∀ (l:Int) (i:Nat),i≤x.length→c (l,(i:Int))=(decide (i<x.length)&&!decide (g (x.getD i d) l<0))) (hf:∀ (l:Int) (i:Nat),i<x.length→f (l,(i:Int))=(g (x.getD i d) l,iAdd .i64 i 1))
 (hp:∀ (l:Int) (i:Nat),0≤l→l≤1048576→i≤x.length→p (l,i)) :
 LoopOk c f p (l0,0)∧((Aq c f (l0,0)).2<(x.length:Int)∨(¬ (Aq c f (l0,0)).2<(x.length:Int)∧0≤(Aq c f (l0,0)).1∧(Aq c f (l0,0)).1≤l0∧∀ a∈x,S a)):=by
 have h:=Mo (c:=c) (f:=f) (p:=p) (fun st=>0≤st.1∧st.1≤l0∧∃ i:Nat,st.2=i∧i≤x.length∧∀ j,j<i→S (x.getD j d)) (fun st=>x.length-st.2.toNat) (fun st hI=>?_) (x0:=(l0,0)) ⟨h0,Int.le_refl _,0,rfl,Gl _,fun j hj=>by omega⟩
 · obtain⟨k1,⟨k2,k3,i,k4,k5,k6⟩,k7⟩:=h
   refine⟨k1,?_⟩;rw[k4];rcases Bx i x.length with hi|hi
   · left;omega
   · right;refine⟨by omega,k2,k3,fun a ha=>?_⟩;obtain⟨j,hj,rfl⟩:=KR ha;have:=k6 j (by omega);rw[Dn,A3 hj] at this;exact this
 · obtain⟨l,j⟩:=st
   obtain⟨k1,k2,i,k3,k4,k5⟩:=hI;simp only at k1 k2 k3;subst k3;refine⟨hp l i k1 (by omega) k4,fun hcc=>?_⟩;rw[hc l i k4] at hcc;simp only[Af,AD,BL,B6] at hcc;obtain⟨hi,hcc⟩:=hcc;have hgi:=(hg i hi l k1 (by omega)).resolve_left hcc;rw[hf l i hi];simp only[AK];rw[CJ (by unfold Cg;omega)];refine⟨⟨hgi.1,by omega,i+1,by omega,by omega,fun j hj=>?_⟩,by omega⟩;by_cases hji:j=i
   · subst hji;exact hgi.2.2
   · exact k5 j (by omega)
theorem dr {α:Type} {c:Int×Int→Bool} {f:Int×Int→Int×Int} {p:Int×Int→Prop} (x:List α) (d:α) (S:α→Prop) (g:α→Int→Int) (l0:Int) (h0:0≤l0) (h1:l0≤1048576) (hn:x.length≤1048576)
 (hg:∀ i,i<x.length→∀ l,0≤l→l≤1048576→g (x.getD i d) l<0∨(0≤g (x.getD i d) l∧g (x.getD i d) l≤l∧S (x.getD i d)))
 (hc:∀ (l:Int) (i:Nat),i≤x.length→c (l,(i:Int))=(decide (i<x.length)&&!decide (g (x.getD i d) l<0))) (hf:∀ (l:Int) (i:Nat),i<x.length→f (l,(i:Int))=(g (x.getD i d) l,iAdd .i64 i 1))
 (hp:∀ (l:Int) (i:Nat),0≤l→l≤1048576→i≤x.length→p (l,i)):LoopOk c f p (l0,0):=(bt x d S g l0 h0 h1 hn hg hc hf hp).1
theorem dQ {α:Type} {c:Int×Int→Bool} {f:Int×Int→Int×Int} (x:List α) (d:α) (S:α→Prop) (g:α→Int→Int) (l0:Int) (h0:0≤l0) (h1:l0≤1048576) (hn:x.length≤1048576)
 (hg:∀ i,i<x.length→∀ l,0≤l→l≤1048576→g (x.getD i d) l<0∨(0≤g (x.getD i d) l∧g (x.getD i d) l≤l∧S (x.getD i d)))
 (hc:∀ (l:Int) (i:Nat),i≤x.length→c (l,(i:Int))=(decide (i<x.length)&&!decide (g (x.getD i d) l<0))) (hf:∀ (l:Int) (i:Nat),i<x.length→f (l,(i:Int))=(g (x.getD i d) l,iAdd .i64 i 1)) :
 (Aq c f (l0,0)).2<(x.length:Int)∨(¬ (Aq c f (l0,0)).2<(x.length:Int)∧0≤(Aq c f (l0,0)).1∧(Aq c f (l0,0)).1≤l0∧∀ a∈x,S a):=(bt (p:=fun _=>True) x d S g l0 h0 h1 hn hg hc hf (fun _ _ _ _ _=>trivial)).2
theorem cn{α:Type}{x:List α}{y:Int×Int}{l0 l:Int}{S:α→Prop}(h:l0≤l)(hv:y.2<(x.length:Int)∨(¬ y.2<(x.length:Int)∧0≤y.1∧y.1≤l0∧∀ a∈x,S a)) :
 bSel (iLt y.2 (lLen x)) (-1) y.1<0∨(0≤bSel (iLt y.2 (lLen x)) (-1) y.1∧bSel (iLt y.2 (lLen x)) (-1) y.1≤l∧∀ a∈x,S a):=by
 rw[Ar,Ao]
 rcases hv with hv|⟨hv,h2,h3,h4⟩
 · rw[Gi hv,DQ];left;omega
 · rw[I3 hv,Eh];right;exact⟨h2,by omega,h4⟩
theorem MM{X:Type}{c:X→Bool}{f:X→X}{p:X→Prop}(ix:X→Int)(n:Int)(hn:n≤9223372036854775806)(hc:∀ x,0≤ix x→ix x≤n→c x=true→ix x<n)(hf:∀ x,ix (f x)=iAdd .i64 (ix x) 1)(hp:∀ x,0≤ix x→ix x≤n→p x){x0:X}(h0:0≤ix x0)(h1:ix x0≤n):LoopOk c f p x0:=by
 refine(Mo (fun x=>0≤ix x∧ix x≤n) (fun x=>(n-ix x).toNat) (fun x hI=>⟨hp x hI.1 hI.2,fun hcc=>?_⟩) ⟨h0,h1⟩).1;have:=hc x hI.1 hI.2 hcc;obtain⟨k1,k2⟩:=hI;have e:=hf x;rw[CJ (by unfold Cg;omega)] at e;refine⟨by omega,by omega⟩
theorem aR{c:Int→Bool}{f:Int→Int}{n:Nat}(h:¬ Aq c f 0<(n:Int))(hn:(n:Int)≤9223372036854775806)(hc:∀ i:Nat,i≤n→c i=true→i<n)(hf:∀ i:Nat,i<n→f i=iAdd .i64 i 1):∀ i:Nat,i<n→c i=true:=by
 have hv:=yh (c:=c) (f:=f) n (fun i=>!c i) hn (fun i hi=>by
  by_cases h1:i<n
  · simp[h1]
  · cases h2:c i with
    |false=>simp[h1]
    |true=>exact absurd (hc i hi h2) h1) hf
 rw[hv] at h;have hle:=L6 (fun i=>!c i) n 0
 have e:Cv (fun i=>!c i) n 0=n:=by omega
 intro i hi;have:=UG.1 e i hi;simpa using this
section
set_option maxRecDepth 8000
def ql:DCode:=(.seq [2,1,0] (.region [oa 0 6 (.mv (.c (.bool false)))]) (.seq [6] (.region [om 0 7 0,om 1 8 1,oa 2 9 (.bin .geq (.t 7) (.t 8)),om 3 10 9,og 4 11 (.mv (.t 0)) 10 true,og 5 12 (.mv (.t 2)) 10 true,og 6 13 (.bin .leq (.t 11) (.t 12)) 10 true,oa 7 14 (.pick (.t 10) (.t 13) (.c (.bool false))),om 8 6 14]) .ret))
def AO:Fn:=⟨⟨3,15,0,true,[.tmp 6],ql⟩,[.one .frz (.int .i64),.one .frz (.int .i64),.one .frz (.int .i64)],.one (.one .own (.bool))⟩
theorem CR:AO.A:=AF trivial
def AP:Int×Int×Int→Bool:=AO.V
def Cp:Int×Int×Int→Prop:=AO.O
theorem CS:AO.B:=AG trivial (by kernel_rfl) (fun x=>by kernel_rfl)
def kz:DCode:=(.seq [1] (.region [oa 0 1 (.boxB 0 4 (.t 0)),oa 1 2 (.mv (.c (.bool false)))]) (.seq [3,1] (.region [oa 0 6 (.fieldA 1 (.t 1)),oa 1 7 (.loadB 0 none (.t 6)),oF 2 8 AO [(.t 7),(.c (.int .i64 1)),(.c (.int .i64 56))],om 3 3 8]) (.seq [4,3,1] (.region [oa 0 9 (.fieldA 2 (.t 1)),oa 1 10 (.loadB 0 none (.t 9)),oF 2 11 AO [(.t 10),(.c (.int .i64 1)),(.c (.int .i64 15))],om 3 4 11]) (.seq [5,4,3,1] (.region [oa 0 12 (.fieldA 3 (.t 1)),oa 1 13 (.loadB 0 none (.t 12)),oF 2 14 AO [(.t 13),(.c (.int .i64 1)),(.c (.int .i64 3))],om 3 5 14]) (.seq [] (.seq [16,5,4,3,1] (.region [oa 0 15 (.fieldA 0 (.t 1)),oa 1 16 (.loadB 0 none (.t 15))]) (.block 0 (.seq [17,16,5,4,3,1] (.seq [17,16,5,4,3,1] (.region [oa 0 18 (.bin .eql (.t 16) (.c (.int .i64 0))),om 1 17 18]) (.cond (.t 17) .skip (.seq [17,16,5,4,3,1] (.region [oa 0 19 (.bin .eql (.t 16) (.c (.int .i64 1))),om 1 17 19]) (.cond (.t 17) .skip (.region [oa 0 20 (.bin .eql (.t 16) (.c (.int .i64 10))),om 1 17 20]))))) (.cond (.t 17) (.seq [2] (.region [oa 0 21 (.fieldA 1 (.t 1)),oa 1 22 (.loadB 0 none (.t 21)),oa 2 23 (.bin .eql (.t 22) (.c (.int .i64 0))),om 3 24 23,og 4 25 (.fieldA 2 (.t 1)) 24 true,og 5 26 (.loadB 0 none (.t 25)) 24 true,og 6 27 (.bin .eql (.t 26) (.c (.int .i64 0))) 24 true,oa 7 28 (.pick (.t 24) (.t 27) (.c (.bool false))),om 8 29 28,og 9 30 (.fieldA 3 (.t 1)) 29 true,og 10 31 (.loadB 0 none (.t 30)) 29 true,og 11 32 (.bin .eql (.t 31) (.c (.int .i64 0))) 29 true,oa 12 33 (.pick (.t 29) (.t 32) (.c (.bool false))),om 13 2 33]) .ret) (.seq [34,16,5,4,3,1] (.region [oa 0 35 (.bin .eql (.t 16) (.c (.int .i64 2))),om 1 34 35]) (.cond (.t 34) (.seq [2] (.region [oa 0 36 (.fieldA 3 (.t 1)),oa 1 37 (.loadB 0 none (.t 36)),oa 2 38 (.bin .eql (.t 37) (.c (.int .i64 0))),om 3 39 38,og 4 40 (.mv (.t 3)) 39 true,og 5 41 (.mv (.t 40)) 39 true,og 6 42 (.fieldA 1 (.t 1)) 41 false,og 7 43 (.loadB 0 none (.t 42)) 41 false,og 8 44 (.bin .eql (.t 43) (.c (.int .i64 0))) 41 false,og 9 45 (.mv (.t 44)) 41 false,og 10 46 (.mv (.t 4)) 45 true,og 11 47 (.pick (.t 45) (.t 46) (.c (.bool false))) 41 false,og 12 48 (.pick (.t 41) (.c (.bool true)) (.t 47)) 39 true,oa 13 49 (.pick (.t 39) (.t 48) (.c (.bool false))),om 14 50 49,og 15 51 (.mv (.t 4)) 50 true,og 16 52 (.mv (.t 51)) 50 true,og 17 53 (.fieldA 2 (.t 1)) 52 false,og 18 54 (.loadB 0 none (.t 53)) 52 false,og 19 55 (.bin .eql (.t 54) (.c (.int .i64 0))) 52 false,og 20 56 (.pick (.t 52) (.c (.bool true)) (.t 55)) 50 true,oa 21 57 (.pick (.t 50) (.t 56) (.c (.bool false))),om 22 2 57]) .ret) (.seq [58,16,5,4,3,1] (.seq [58,16,5,4,3,1] (.region [oa 0 59 (.bin .eql (.t 16) (.c (.int .i64 3))),om 1 58 59]) (.cond (.t 58) .skip (.region [oa 0 60 (.bin .eql (.t 16) (.c (.int .i64 4))),om 1 58 60]))) (.cond (.t 58) (.seq [2] (.region [om 0 61 5,om 1 62 61,og 2 63 (.fieldA 1 (.t 1)) 62 true,og 3 64 (.loadB 0 none (.t 63)) 62 true,og 4 65 (.bin .eql (.t 64) (.c (.int .i64 0))) 62 true,oa 5 66 (.pick (.t 62) (.t 65) (.c (.bool false))),om 6 67 66,og 7 68 (.fieldA 2 (.t 1)) 67 true,og 8 69 (.loadB 0 none (.t 68)) 67 true,og 9 70 (.bin .eql (.t 69) (.c (.int .i64 0))) 67 true,oa 10 71 (.pick (.t 67) (.t 70) (.c (.bool false))),om 11 2 71]) .ret) (.seq [72,16,5,4,3,1] (.seq [72,16,5,4,3,1] (.region [oa 0 73 (.bin .eql (.t 16) (.c (.int .i64 5))),om 1 72 73]) (.cond (.t 72) .skip (.region [oa 0 74 (.bin .eql (.t 16) (.c (.int .i64 9))),om 1 72 74]))) (.cond (.t 72) (.seq [2] (.region [oa 0 75 (.fieldA 3 (.t 1)),oa 1 76 (.loadB 0 none (.t 75)),oF 2 77 AO [(.t 76),(.c (.int .i64 0)),(.c (.int .i64 3))],om 3 78 77,og 4 79 (.fieldA 1 (.t 1)) 78 true,og 5 80 (.loadB 0 none (.t 79)) 78 true,og 6 81 (.bin .eql (.t 80) (.c (.int .i64 0))) 78 true,oa 7 82 (.pick (.t 78) (.t 81) (.c (.bool false))),om 8 83 82,og 9 84 (.fieldA 2 (.t 1)) 83 true,og 10 85 (.loadB 0 none (.t 84)) 83 true,og 11 86 (.bin .eql (.t 85) (.c (.int .i64 0))) 83 true,oa 12 87 (.pick (.t 83) (.t 86) (.c (.bool false))),om 13 2 87]) .ret) (.seq [88,16,5,4,3,1] (.region [oa 0 89 (.bin .eql (.t 16) (.c (.int .i64 6))),om 1 88 89]) (.cond (.t 88) (.seq [2] (.region [om 0 90 3,om 1 91 90,og 2 92 (.mv (.t 4)) 91 true,oa 3 93 (.pick (.t 91) (.t 92) (.c (.bool false))),om 4 94 93,og 5 95 (.fieldA 3 (.t 1)) 94 true,og 6 96 (.loadB 0 none (.t 95)) 94 true,og 7 97 (.bin .eql (.t 96) (.c (.int .i64 0))) 94 true,oa 8 98 (.pick (.t 94) (.t 97) (.c (.bool false))),om 9 2 98]) .ret) (.seq [99,16,5,4,3,1] (.region [oa 0 100 (.bin .eql (.t 16) (.c (.int .i64 7))),om 1 99 100]) (.cond (.t 99) (.seq [2] (.region [om 0 101 3,om 1 102 101,og 2 103 (.mv (.t 5)) 102 true,oa 3 104 (.pick (.t 102) (.t 103) (.c (.bool false))),om 4 105 104,og 5 106 (.fieldA 2 (.t 1)) 105 true,og 6 107 (.loadB 0 none (.t 106)) 105 true,og 7 108 (.bin .eql (.t 107) (.c (.int .i64 0))) 105 true,oa 8 109 (.pick (.t 105) (.t 108) (.c (.bool false))),om 9 2 109]) .ret) (.seq [110,4,1] (.region [oa 0 111 (.bin .eql (.t 16) (.c (.int .i64 8))),om 1 110 111]) (.cond (.t 110) (.seq [2] (.region [om 0 112 4,om 1 113 112,og 2 114 (.fieldA 1 (.t 1)) 113 true,og 3 115 (.loadB 0 none (.t 114)) 113 true,og 4 116 (.bin .eql (.t 115) (.c (.int .i64 0))) 113 true,oa 5 117 (.pick (.t 113) (.t 116) (.c (.bool false))),om 6 118 117,og 7 119 (.fieldA 3 (.t 1)) 118 true,og 8 120 (.loadB 0 none (.t 119)) 118 true,og 9 121 (.bin .eql (.t 120) (.c (.int .i64 0))) 118 true,oa 10 122 (.pick (.t 118) (.t 121) (.c (.bool false))),om 11 2 122]) .ret) .skip)))))))))))))))) (.seq [2] (.region [oa 0 2 (.mv (.c (.bool false)))]) .ret))))))
def C3:Fn:=⟨⟨1,123,1,true,[.tmp 2],kz⟩,[.agg [(.frz,.int .i64),(.frz,.int .i64),(.frz,.int .i64),(.frz,.int .i64)]],.one (.one .own (.bool))⟩
theorem Q7:C3.A:=AF ⟨CR,CR,CR,CR,trivial⟩
def CP:Int×Int×Int×Int→Bool:=C3.V
def Kq:Int×Int×Int×Int→Prop:=C3.O
theorem QK:C3.B:=AG ⟨CS,CS,CS,CS,trivial⟩ (by kernel_rfl) (fun x=>by kernel_rfl)
def nV:DCode:=(.seq [0] (.region [oa 0 2 (.mv (.c (.bool false)))]) (.seq [2] (.region [om 0 3 0,oa 1 4 (.bin .geq (.t 3) (.c (.int .i64 1))),om 2 5 4,og 3 6 (.mv (.t 0)) 5 true,og 4 7 (.bin .leq (.t 6) (.c (.int .i64 56))) 5 true,oa 5 8 (.pick (.t 5) (.t 7) (.c (.bool false))),om 6 2 8]) .ret))
def D9:Fn:=⟨⟨1,9,0,true,[.tmp 2],nV⟩,[.one .frz (.int .i64)],.one (.one .own (.bool))⟩
theorem Uv:D9.A:=AF trivial
def Gd:Int→Bool:=D9.V
def LW:Int→Prop:=D9.O
theorem Uu:D9.B:=AG trivial (by kernel_rfl) (fun x=>by kernel_rfl)
def nW:DCode:=(.seq [0] (.region [oa 0 2 (.mv (.c (.bool false)))]) (.seq [2] (.region [om 0 3 0,oa 1 4 (.bin .geq (.t 3) (.c (.int .i64 1))),om 2 5 4,og 3 6 (.mv (.t 0)) 5 true,og 4 7 (.bin .leq (.t 6) (.c (.int .i64 15))) 5 true,oa 5 8 (.pick (.t 5) (.t 7) (.c (.bool false))),om 6 2 8]) .ret))
def C4:Fn:=⟨⟨1,9,0,true,[.tmp 2],nW⟩,[.one .frz (.int .i64)],.one (.one .own (.bool))⟩
theorem Ux:C4.A:=AF trivial
def LZ:Int→Bool:=C4.V
def Ks:Int→Prop:=C4.O
theorem Uw:C4.B:=AG trivial (by kernel_rfl) (fun x=>by kernel_rfl)
def mz:DCode:=(.seq [0] (.region [oa 0 2 (.mv (.c (.bool false)))]) (.seq [2] (.region [om 0 3 0,oa 1 4 (.bin .geq (.t 3) (.c (.int .i64 1))),om 2 5 4,og 3 6 (.mv (.t 0)) 5 true,og 4 7 (.bin .leq (.t 6) (.c (.int .i64 3))) 5 true,oa 5 8 (.pick (.t 5) (.t 7) (.c (.bool false))),om 6 2 8]) .ret))
def D8:Fn:=⟨⟨1,9,0,true,[.tmp 2],mz⟩,[.one .frz (.int .i64)],.one (.one .own (.bool))⟩
theorem Yg:D8.A:=AF trivial
def Rq:Int→Bool:=D8.V
def NQ:Int→Prop:=D8.O
theorem Yb:D8.B:=AG trivial (by kernel_rfl) (fun x=>by kernel_rfl)
def lD:DCode:=(.seq [1] (.region [oa 0 1 (.boxB 0 4 (.t 0)),oa 1 2 (.mv (.c (.bool false)))]) (.seq [] (.seq [4,1] (.region [oa 0 3 (.fieldA 0 (.t 1)),oa 1 4 (.loadB 0 none (.t 3))]) (.block 0 (.seq [5,4,1] (.seq [5,4,1] (.region [oa 0 6 (.bin .eql (.t 4) (.c (.int .i64 0))),om 1 5 6]) (.cond (.t 5) .skip (.seq [5,4,1] (.region [oa 0 7 (.bin .eql (.t 4) (.c (.int .i64 1))),om 1 5 7]) (.cond (.t 5) .skip (.region [oa 0 8 (.bin .eql (.t 4) (.c (.int .i64 10))),om 1 5 8]))))) (.cond (.t 5) (.seq [2] (.region [oa 0 9 (.fieldA 1 (.t 1)),oa 1 10 (.loadB 0 none (.t 9)),oa 2 11 (.bin .eql (.t 10) (.c (.int .i64 0))),om 3 12 11,og 4 13 (.fieldA 2 (.t 1)) 12 true,og 5 14 (.loadB 0 none (.t 13)) 12 true,og 6 15 (.bin .eql (.t 14) (.c (.int .i64 0))) 12 true,oa 7 16 (.pick (.t 12) (.t 15) (.c (.bool false))),om 8 17 16,og 9 18 (.fieldA 3 (.t 1)) 17 true,og 10 19 (.loadB 0 none (.t 18)) 17 true,og 11 20 (.bin .eql (.t 19) (.c (.int .i64 0))) 17 true,oa 12 21 (.pick (.t 17) (.t 20) (.c (.bool false))),om 13 2 21]) .ret) (.seq [22,4,1] (.region [oa 0 23 (.bin .eql (.t 4) (.c (.int .i64 2))),om 1 22 23]) (.cond (.t 22) (.seq [2] (.region [oa 0 24 (.fieldA 3 (.t 1)),oa 1 25 (.loadB 0 none (.t 24)),oa 2 26 (.bin .eql (.t 25) (.c (.int .i64 0))),om 3 27 26,og 4 28 (.fieldA 1 (.t 1)) 27 true,og 5 29 (.loadB 0 none (.t 28)) 27 true,og 6 30 (.bin .eql (.t 29) (.c (.int .i64 0))) 27 true,og 7 31 (.mv (.t 30)) 27 true,og 8 32 (.fieldA 1 (.t 1)) 31 false,og 9 33 (.loadB 0 none (.t 32)) 31 false,⟨10,some 34,.call false D9.S D9.P D9.D [(.t 33)],(some (31,false)),[]⟩,og 11 35 (.pick (.t 31) (.c (.bool true)) (.t 34)) 27 true,oa 12 36 (.pick (.t 27) (.t 35) (.c (.bool false))),om 13 37 36,og 14 38 (.fieldA 2 (.t 1)) 37 true,og 15 39 (.loadB 0 none (.t 38)) 37 true,og 16 40 (.bin .eql (.t 39) (.c (.int .i64 0))) 37 true,og 17 41 (.mv (.t 40)) 37 true,og 18 42 (.fieldA 2 (.t 1)) 41 false,og 19 43 (.loadB 0 none (.t 42)) 41 false,⟨20,some 44,.call false C4.S C4.P C4.D [(.t 43)],(some (41,false)),[]⟩,og 21 45 (.pick (.t 41) (.c (.bool true)) (.t 44)) 37 true,oa 22 46 (.pick (.t 37) (.t 45) (.c (.bool false))),om 23 47 46,og 24 48 (.fieldA 1 (.t 1)) 47 true,og 25 49 (.loadB 0 none (.t 48)) 47 true,og 26 50 (.bin .neq (.t 49) (.c (.int .i64 0))) 47 true,og 27 51 (.mv (.t 50)) 47 true,og 28 52 (.fieldA 2 (.t 1)) 51 false,og 29 53 (.loadB 0 none (.t 52)) 51 false,og 30 54 (.bin .neq (.t 53) (.c (.int .i64 0))) 51 false,og 31 55 (.pick (.t 51) (.c (.bool true)) (.t 54)) 47 true,oa 32 56 (.pick (.t 47) (.t 55) (.c (.bool false))),om 33 2 56]) .ret) (.seq [57,4,1] (.seq [57,4,1] (.region [oa 0 58 (.bin .eql (.t 4) (.c (.int .i64 3))),om 1 57 58]) (.cond (.t 57) .skip (.region [oa 0 59 (.bin .eql (.t 4) (.c (.int .i64 4))),om 1 57 59]))) (.cond (.t 57) (.seq [2] (.region [oa 0 60 (.fieldA 1 (.t 1)),oa 1 61 (.loadB 0 none (.t 60)),oa 2 62 (.bin .eql (.t 61) (.c (.int .i64 0))),om 3 63 62,og 4 64 (.fieldA 2 (.t 1)) 63 true,og 5 65 (.loadB 0 none (.t 64)) 63 true,og 6 66 (.bin .eql (.t 65) (.c (.int .i64 0))) 63 true,oa 7 67 (.pick (.t 63) (.t 66) (.c (.bool false))),om 8 68 67,og 9 69 (.fieldA 3 (.t 1)) 68 true,og 10 70 (.loadB 0 none (.t 69)) 68 true,⟨11,some 71,.call false D8.S D8.P D8.D [(.t 70)],(some (68,true)),[]⟩,oa 12 72 (.pick (.t 68) (.t 71) (.c (.bool false))),om 13 2 72]) .ret) (.seq [73,4,1] (.region [oa 0 74 (.bin .eql (.t 4) (.c (.int .i64 5))),om 1 73 74]) (.cond (.t 73) (.seq [2] (.region [oa 0 75 (.fieldA 1 (.t 1)),oa 1 76 (.loadB 0 none (.t 75)),oa 2 77 (.bin .eql (.t 76) (.c (.int .i64 0))),om 3 78 77,og 4 79 (.fieldA 2 (.t 1)) 78 true,og 5 80 (.loadB 0 none (.t 79)) 78 true,og 6 81 (.bin .eql (.t 80) (.c (.int .i64 0))) 78 true,oa 7 82 (.pick (.t 78) (.t 81) (.c (.bool false))),om 8 83 82,og 9 84 (.fieldA 3 (.t 1)) 83 true,og 10 85 (.loadB 0 none (.t 84)) 83 true,og 11 86 (.bin .geq (.t 85) (.c (.int .i64 0))) 83 true,oa 12 87 (.pick (.t 83) (.t 86) (.c (.bool false))),om 13 88 87,og 14 89 (.fieldA 3 (.t 1)) 88 true,og 15 90 (.loadB 0 none (.t 89)) 88 true,og 16 91 (.bin .leq (.t 90) (.c (.int .i64 3))) 88 true,oa 17 92 (.pick (.t 88) (.t 91) (.c (.bool false))),om 18 2 92]) .ret) (.seq [93,4,1] (.region [oa 0 94 (.bin .eql (.t 4) (.c (.int .i64 9))),om 1 93 94]) (.cond (.t 93) (.seq [2] (.region [oa 0 95 (.fieldA 1 (.t 1)),oa 1 96 (.loadB 0 none (.t 95)),oa 2 97 (.bin .eql (.t 96) (.c (.int .i64 0))),om 3 98 97,og 4 99 (.fieldA 2 (.t 1)) 98 true,og 5 100 (.loadB 0 none (.t 99)) 98 true,og 6 101 (.bin .eql (.t 100) (.c (.int .i64 0))) 98 true,oa 7 102 (.pick (.t 98) (.t 101) (.c (.bool false))),om 8 103 102,og 9 104 (.fieldA 3 (.t 1)) 103 true,og 10 105 (.loadB 0 none (.t 104)) 103 true,og 11 106 (.bin .geq (.t 105) (.c (.int .i64 0))) 103 true,oa 12 107 (.pick (.t 103) (.t 106) (.c (.bool false))),om 13 108 107,og 14 109 (.fieldA 3 (.t 1)) 108 true,og 15 110 (.loadB 0 none (.t 109)) 108 true,og 16 111 (.bin .leq (.t 110) (.c (.int .i64 3))) 108 true,oa 17 112 (.pick (.t 108) (.t 111) (.c (.bool false))),om 18 2 112]) .ret) (.seq [113,4,1] (.region [oa 0 114 (.bin .eql (.t 4) (.c (.int .i64 6))),om 1 113 114]) (.cond (.t 113) (.seq [2] (.region [oa 0 115 (.fieldA 1 (.t 1)),oa 1 116 (.loadB 0 none (.t 115)),oF 2 117 D9 [(.t 116)],om 3 118 117,og 4 119 (.fieldA 2 (.t 1)) 118 true,og 5 120 (.loadB 0 none (.t 119)) 118 true,⟨6,some 121,.call false C4.S C4.P C4.D [(.t 120)],(some (118,true)),[]⟩,oa 7 122 (.pick (.t 118) (.t 121) (.c (.bool false))),om 8 123 122,og 9 124 (.fieldA 3 (.t 1)) 123 true,og 10 125 (.loadB 0 none (.t 124)) 123 true,og 11 126 (.bin .eql (.t 125) (.c (.int .i64 0))) 123 true,oa 12 127 (.pick (.t 123) (.t 126) (.c (.bool false))),om 13 2 127]) .ret) (.seq [128,4,1] (.region [oa 0 129 (.bin .eql (.t 4) (.c (.int .i64 7))),om 1 128 129]) (.cond (.t 128) (.seq [2] (.region [oa 0 130 (.fieldA 1 (.t 1)),oa 1 131 (.loadB 0 none (.t 130)),oF 2 132 D9 [(.t 131)],om 3 133 132,og 4 134 (.fieldA 2 (.t 1)) 133 true,og 5 135 (.loadB 0 none (.t 134)) 133 true,og 6 136 (.bin .eql (.t 135) (.c (.int .i64 0))) 133 true,oa 7 137 (.pick (.t 133) (.t 136) (.c (.bool false))),om 8 138 137,og 9 139 (.fieldA 3 (.t 1)) 138 true,og 10 140 (.loadB 0 none (.t 139)) 138 true,⟨11,some 141,.call false D8.S D8.P D8.D [(.t 140)],(some (138,true)),[]⟩,oa 12 142 (.pick (.t 138) (.t 141) (.c (.bool false))),om 13 2 142]) .ret) (.seq [143,1] (.region [oa 0 144 (.bin .eql (.t 4) (.c (.int .i64 8))),om 1 143 144]) (.cond (.t 143) (.seq [2] (.region [oa 0 145 (.fieldA 1 (.t 1)),oa 1 146 (.loadB 0 none (.t 145)),oa 2 147 (.bin .eql (.t 146) (.c (.int .i64 0))),om 3 148 147,og 4 149 (.fieldA 2 (.t 1)) 148 true,og 5 150 (.loadB 0 none (.t 149)) 148 true,⟨6,some 151,.call false C4.S C4.P C4.D [(.t 150)],(some (148,true)),[]⟩,oa 7 152 (.pick (.t 148) (.t 151) (.c (.bool false))),om 8 153 152,og 9 154 (.fieldA 3 (.t 1)) 153 true,og 10 155 (.loadB 0 none (.t 154)) 153 true,og 11 156 (.bin .eql (.t 155) (.c (.int .i64 0))) 153 true,oa 12 157 (.pick (.t 153) (.t 156) (.c (.bool false))),om 13 2 157]) .ret) .skip)))))))))))))))))) (.seq [2] (.region [oa 0 2 (.mv (.c (.bool false)))]) .ret)))
def D5:Fn:=⟨⟨1,158,1,true,[.tmp 2],lD⟩,[.agg [(.frz,.int .i64),(.frz,.int .i64),(.frz,.int .i64),(.frz,.int .i64)]],.one (.one .own (.bool))⟩
theorem Uo:D5.A:=AF ⟨Uv,Ux,Yg,Uv,Ux,Uv,Yg,Ux,trivial⟩
def CQ:Int×Int×Int×Int→Bool:=D5.V
def LK:Int×Int×Int×Int→Prop:=D5.O
theorem Up:D5.B:=AG ⟨Uu,Uw,Yb,Uu,Uw,Uu,Yb,Uw,trivial⟩ (by kernel_rfl) (fun x=>by kernel_rfl)
def ki:DCode:=(.seq [3,2] (.region [oa 0 2 (.boxB 0 4 (.t 0)),oa 1 3 (.boxB 1 4 (.t 1)),oa 2 4 (.mv (.c (.bool false)))]) (.seq [3,2] (.seq [9,3,2] (.region [oa 0 5 (.fieldA 0 (.t 2)),oa 1 6 (.loadB 0 none (.t 5)),oa 2 7 (.fieldA 0 (.t 3)),oa 3 8 (.loadB 1 none (.t 7)),oa 4 9 (.bin .neq (.t 6) (.t 8))]) (.cond (.t 9) (.seq [4] (.region [oa 0 4 (.mv (.c (.bool false)))]) .ret) .skip)) (.seq [3,2] (.seq [14,3,2] (.region [oa 0 10 (.fieldA 1 (.t 2)),oa 1 11 (.loadB 0 none (.t 10)),oa 2 12 (.fieldA 1 (.t 3)),oa 3 13 (.loadB 1 none (.t 12)),oa 4 14 (.bin .neq (.t 11) (.t 13))]) (.cond (.t 14) (.seq [4] (.region [oa 0 4 (.mv (.c (.bool false)))]) .ret) .skip)) (.seq [3,2] (.seq [19,3,2] (.region [oa 0 15 (.fieldA 2 (.t 2)),oa 1 16 (.loadB 0 none (.t 15)),oa 2 17 (.fieldA 2 (.t 3)),oa 3 18 (.loadB 1 none (.t 17)),oa 4 19 (.bin .neq (.t 16) (.t 18))]) (.cond (.t 19) (.seq [4] (.region [oa 0 4 (.mv (.c (.bool false)))]) .ret) .skip)) (.seq [] (.seq [24] (.region [oa 0 20 (.fieldA 3 (.t 2)),oa 1 21 (.loadB 0 none (.t 20)),oa 2 22 (.fieldA 3 (.t 3)),oa 3 23 (.loadB 1 none (.t 22)),oa 4 24 (.bin .neq (.t 21) (.t 23))]) (.cond (.t 24) (.seq [4] (.region [oa 0 4 (.mv (.c (.bool false)))]) .ret) .skip)) (.seq [4] (.region [oa 0 4 (.mv (.c (.bool true)))]) .ret))))))
def F9:Fn:=⟨⟨2,25,2,true,[.tmp 4],ki⟩,[.agg [(.frz,.int .i64),(.frz,.int .i64),(.frz,.int .i64),(.frz,.int .i64)],.agg [(.frz,.int .i64),(.frz,.int .i64),(.frz,.int .i64),(.frz,.int .i64)]],.one (.one .own (.bool))⟩
theorem X5:F9.A:=AF trivial
def GL:(Int×Int×Int×Int)×(Int×Int×Int×Int)→Bool:=F9.V
def LL:(Int×Int×Int×Int)×(Int×Int×Int×Int)→Prop:=F9.O
theorem XZ:F9.B:=AG trivial (by kernel_rfl) (fun x=>by kernel_rfl)
end
section
set_option maxRecDepth 100000
theorem NY (x):AP x=(bAnd (iGe x.1 x.2.1) (iLe x.1 x.2.2)):=(AO.v x).trans (by kernel_rfl)
theorem N3 (x):Cp x=True:=(AO.o x).trans (by kernel_rfl)
theorem jH (x):CP x=(bSel (bOr (iEq x.1 0) (bOr (iEq x.1 1) (iEq x.1 10))) (bAnd (iEq x.2.1 0) (bAnd (iEq x.2.2.1 0) (iEq x.2.2.2 0))) (bSel (iEq x.1 2) (bAnd (iEq x.2.2.2 0) (bSel (AP (x.2.1,1,56)) (bOr (AP (x.2.2.1,1,15)) (iEq x.2.2.1 0)) (bAnd (iEq x.2.1 0) (bAnd (AP (x.2.2.1,1,15)) (bOr (AP (x.2.2.1,1,15)) (iEq x.2.2.1 0)))))) (bSel (bOr (iEq x.1 3) (iEq x.1 4)) (bAnd (AP (x.2.2.2,1,3)) (bAnd (iEq x.2.1 0) (iEq x.2.2.1 0))) (bSel (bOr (iEq x.1 5) (iEq x.1 9)) (bAnd (AP (x.2.2.2,0,3)) (bAnd (iEq x.2.1 0) (iEq x.2.2.1 0))) (bSel (iEq x.1 6) (bAnd (AP (x.2.1,1,56)) (bAnd (AP (x.2.2.1,1,15)) (iEq x.2.2.2 0))) (bSel (iEq x.1 7) (bAnd (AP (x.2.1,1,56)) (bAnd (AP (x.2.2.2,1,3)) (iEq x.2.2.1 0))) (bAnd (iEq x.1 8) (bAnd (AP (x.2.2.1,1,15)) (bAnd (iEq x.2.1 0) (iEq x.2.2.2 0)))))))))):=(C3.v x).trans (by kernel_rfl)
theorem j5 (x):Kq x=((Cp (x.2.1,1,56))∧((Cp (x.2.2.1,1,15))∧((Cp (x.2.2.2,1,3))∧(((bOr (iEq x.1 0) (bOr (iEq x.1 1) (iEq x.1 10)))=true→True)∧((bOr (iEq x.1 0) (bOr (iEq x.1 1) (iEq x.1 10)))=false→(((iEq x.1 2)=true→True)∧((iEq x.1 2)=false→(((bOr (iEq x.1 3) (iEq x.1 4))=true→True)∧((bOr (iEq x.1 3) (iEq x.1 4))=false→(((bOr (iEq x.1 5) (iEq x.1 9))=true→(Cp (x.2.2.2,0,3)))∧((bOr (iEq x.1 5) (iEq x.1 9))=false→True))))))))))):=(C3.o x).trans (by kernel_rfl)
theorem oZ (x):Gd x=(bAnd (iGe x 1) (iLe x 56)):=(D9.v x).trans (by kernel_rfl)
theorem o6 (x):LW x=True:=(D9.o x).trans (by kernel_rfl)
theorem nO (x):LZ x=(bAnd (iGe x 1) (iLe x 15)):=(C4.v x).trans (by kernel_rfl)
theorem oG (x):Ks x=True:=(C4.o x).trans (by kernel_rfl)
theorem l8 (x):Rq x=(bAnd (iGe x 1) (iLe x 3)):=(D8.v x).trans (by kernel_rfl)
theorem lU (x):NQ x=True:=(D8.o x).trans (by kernel_rfl)
theorem kU (x):CQ x=(bSel (bOr (iEq x.1 0) (bOr (iEq x.1 1) (iEq x.1 10))) (bAnd (iEq x.2.1 0) (bAnd (iEq x.2.2.1 0) (iEq x.2.2.2 0))) (bSel (iEq x.1 2) (bAnd (iEq x.2.2.2 0) (bSel (iEq x.2.1 0) (bSel (iEq x.2.2.1 0) (bOr (iNe x.2.1 0) (iNe x.2.2.1 0)) (bAnd (LZ x.2.2.1) (bOr (iNe x.2.1 0) (iNe x.2.2.1 0)))) (bAnd (Gd x.2.1) (bSel (iEq x.2.2.1 0) (bOr (iNe x.2.1 0) (iNe x.2.2.1 0)) (bAnd (LZ x.2.2.1) (bOr (iNe x.2.1 0) (iNe x.2.2.1 0))))))) (bSel (bOr (iEq x.1 3) (iEq x.1 4)) (bAnd (iEq x.2.1 0) (bAnd (iEq x.2.2.1 0) (Rq x.2.2.2))) (bSel (iEq x.1 5) (bAnd (iEq x.2.1 0) (bAnd (iEq x.2.2.1 0) (bAnd (iGe x.2.2.2 0) (iLe x.2.2.2 3)))) (bSel (iEq x.1 9) (bAnd (iEq x.2.1 0) (bAnd (iEq x.2.2.1 0) (bAnd (iGe x.2.2.2 0) (iLe x.2.2.2 3)))) (bSel (iEq x.1 6) (bAnd (Gd x.2.1) (bAnd (LZ x.2.2.1) (iEq x.2.2.2 0))) (bSel (iEq x.1 7) (bAnd (Gd x.2.1) (bAnd (iEq x.2.2.1 0) (Rq x.2.2.2))) (bAnd (iEq x.1 8) (bAnd (iEq x.2.1 0) (bAnd (LZ x.2.2.1) (iEq x.2.2.2 0))))))))))):=(D5.v x).trans (by kernel_rfl)
theorem kB (x):LK x=(((bOr (iEq x.1 0) (bOr (iEq x.1 1) (iEq x.1 10)))=true→True)∧((bOr (iEq x.1 0) (bOr (iEq x.1 1) (iEq x.1 10)))=false→(((iEq x.1 2)=true→(((iEq x.2.2.2 0)=true→(((iEq x.2.1 0)=true→(((iEq x.2.2.1 0)=true→True)∧((iEq x.2.2.1 0)=false→(Ks x.2.2.1))))∧((iEq x.2.1 0)=false→((LW x.2.1)∧(((Gd x.2.1)=true→(((iEq x.2.2.1 0)=true→True)∧((iEq x.2.2.1 0)=false→(Ks x.2.2.1))))∧((Gd x.2.1)=false→True))))))∧((iEq x.2.2.2 0)=false→True)))∧((iEq x.1 2)=false→(((bOr (iEq x.1 3) (iEq x.1 4))=true→(((iEq x.2.1 0)=true→(((iEq x.2.2.1 0)=true→(NQ x.2.2.2))∧((iEq x.2.2.1 0)=false→True)))∧((iEq x.2.1 0)=false→True)))∧((bOr (iEq x.1 3) (iEq x.1 4))=false→(((iEq x.1 5)=true→True)∧((iEq x.1 5)=false→(((iEq x.1 9)=true→True)∧((iEq x.1 9)=false→(((iEq x.1 6)=true→((LW x.2.1)∧(((Gd x.2.1)=true→(Ks x.2.2.1))∧((Gd x.2.1)=false→True))))∧((iEq x.1 6)=false→(((iEq x.1 7)=true→((LW x.2.1)∧(((Gd x.2.1)=true→(((iEq x.2.2.1 0)=true→(NQ x.2.2.2))∧((iEq x.2.2.1 0)=false→True)))∧((Gd x.2.1)=false→True))))∧((iEq x.1 7)=false→(((iEq x.1 8)=true→(((iEq x.2.1 0)=true→(Ks x.2.2.1))∧((iEq x.2.1 0)=false→True)))∧((iEq x.1 8)=false→True)))))))))))))))):=(D5.o x).trans (by kernel_rfl)
theorem j9 (x):GL x=(bAnd (bNot (iNe x.1.1 x.2.1)) (bAnd (bNot (iNe x.1.2.1 x.2.2.1)) (bAnd (bNot (iNe x.1.2.2.1 x.2.2.2.1)) (bNot (iNe x.1.2.2.2 x.2.2.2.2))))):=(F9.v x).trans (by kernel_rfl)
theorem ke (x):LL x=True:=(F9.o x).trans (by kernel_rfl)
attribute [irreducible] AP Cp CP Kq Gd LW LZ Ks Rq NQ CQ LK GL LL
end
theorem RG(x:Int×Int×Int×Int):CP x=CQ x:=by
 simp only[jH,kU,NY,oZ,nO,l8,Ay,AA,Ck,C9,Ce,Db,B0,Ar,KZ,EF,Gv,ym,yP,Ao,Ps,AL,Gk,OY,aB,G0,bK,Ax,wU];rw[Na]
 repeat' split
 all_goals simp only[Af,Cj,BL,B7,J7,Ct,AD,B6,JN,Ng,AQ,Mx] at *
 all_goals omega
theorem Qs(x:Int×Int×Int×Int):Kq x:=by
 have h:∀ y,Cp y:=fun y=>by rw[N3];trivial
 rw[j5];simp[h]
theorem TV(x:Int×Int×Int×Int):LK x:=by
 have h1:∀ y,LW y:=fun y=>by rw[o6];trivial
 have h2:∀ y,Ks y:=fun y=>by rw[oG];trivial
 have h3:∀ y,NQ y:=fun y=>by rw[lU];trivial
 rw[kB];simp[h1,h2,h3]
theorem JF(a b c:Int):AP (a,b,c)=(decide (b≤a)&&decide (a≤c)):=by rw[NY];simp only[AA,Gv,KZ]
theorem Mz (x):Cp x:=by rw[N3];trivial
section
set_option maxRecDepth 8000
def mr:DCode:=(.seq [1,0] (.region [oi 0 4 0]) (.seq [1] (.region [om 0 5 1,on 1 6 0,oa 2 7 (.len (.t 6)),oa 3 8 (.bin .sub (.t 5) (.t 7)),om 4 1 8]) (.seq [1] (.seq [10,1] (.region [om 0 9 1,oa 1 10 (.bin .lss (.t 9) (.c (.int .i64 0)))]) (.cond (.t 10) (.seq [4] (.region [oi 0 4 (-1)]) .ret) .skip)) (.seq [4] (.region [om 0 11 1,om 1 4 11]) .ret))))
def Im:Fn:=⟨⟨2,12,0,true,[.tmp 4],mr⟩,[.one .frz (.sl Av),.one .frz (.int .i64)],.one (.one .own (.int .i64))⟩
theorem nj:Im.A:=AF trivial
def Jr:(List (Int×Int×Int×Int×Int))×Int→Int:=Im.V
def Ri:(List (Int×Int×Int×Int×Int))×Int→Prop:=Im.O
theorem mN:Im.B:=AG trivial (by kernel_rfl) (fun x=>by kernel_rfl)
def kH:DCode:=(.seq [2,1] (.region [oa 0 1 (.boxB 0 4 (.t 0)),oa 1 2 (.allocB 1 [(.int .i64 0),(.int .i64 0),(.int .i64 0),(.int .i64 0)])]) (.seq [3,2,1] (.region [oa 0 3 (.allocB 2 [(.int .i64 0),(.int .i64 0),(.int .i64 0),(.int .i64 0)])]) (.seq [3,2,1] (.region [oa 0 4 (.fieldA 0 (.t 1)),ob 1 5 (.loadB 0 none (.t 4)),oa 2 6 (.fieldA 0 (.t 3)),os 3 (.storeB 2 1 (.t 6) (.t 5))]) (.seq [3,2,1] (.region [oa 0 7 (.fieldA 1 (.t 1)),ob 1 8 (.loadB 0 none (.t 7)),oa 2 9 (.fieldA 1 (.t 3)),os 3 (.storeB 2 1 (.t 9) (.t 8))]) (.seq [3,2,1] (.region [oa 0 10 (.fieldA 2 (.t 1)),ob 1 11 (.loadB 0 none (.t 10)),oa 2 12 (.fieldA 2 (.t 3)),os 3 (.storeB 2 1 (.t 12) (.t 11))]) (.seq [3,2] (.region [oa 0 13 (.fieldA 3 (.t 1)),ob 1 14 (.loadB 0 none (.t 13)),oa 2 15 (.fieldA 3 (.t 3)),os 3 (.storeB 2 1 (.t 15) (.t 14))]) (.seq [2] (.region [ob 0 16 (.loadB 2 (some 4) (.t 3)),os 1 (.storeB 1 4 (.t 2) (.t 16))]) .ret)))))))
def F8:Fn:=⟨⟨1,17,3,true,[.cell 2 (some 4)],kH⟩,[.agg [(.frz,.int .i64),(.frz,.int .i64),(.frz,.int .i64),(.frz,.int .i64)]],.one (.agg [(.own,.int .i64),(.own,.int .i64),(.own,.int .i64),(.own,.int .i64)])⟩
theorem X6:F8.A:=AF trivial
def DH:Int×Int×Int×Int→Int×Int×Int×Int:=F8.V
def LJ:Int×Int×Int×Int→Prop:=F8.O
theorem XY:F8.B:=AG trivial (by kernel_rfl) (fun x=>by kernel_rfl)
def oI:DCode:=(.seq [2,1] (.region [oa 0 1 (.boxB 0 5 (.t 0)),oa 1 2 (.allocB 1 [(.int .i64 0),(.int .i64 0),(.int .i64 0),(.int .i64 0),(.int .i64 0)])]) (.seq [3,2,1] (.region [oa 0 3 (.allocB 2 [(.int .i64 0),(.int .i64 0),(.int .i64 0),(.int .i64 0),(.int .i64 0)])]) (.seq [3,2,1] (.region [oa 0 4 (.fieldA 0 (.t 1)),ob 1 5 (.loadB 0 none (.t 4)),oa 2 6 (.fieldA 0 (.t 3)),os 3 (.storeB 2 1 (.t 6) (.t 5))]) (.seq [3,2] (.region [oa 0 7 (.fieldA 1 (.t 1)),oa 1 8 (.loadB 0 (some 4) (.t 7)),oF 2 9 F8 [(.t 8)],oa 3 10 (.fieldA 1 (.t 3)),os 4 (.storeB 2 4 (.t 10) (.t 9))]) (.seq [2] (.region [ob 0 11 (.loadB 2 (some 5) (.t 3)),os 1 (.storeB 1 5 (.t 2) (.t 11))]) .ret)))))
def ID:Fn:=⟨⟨1,12,3,true,[.cell 2 (some 5)],oI⟩,[.agg [(.frz,.int .i64),(.frz,.int .i64),(.frz,.int .i64),(.frz,.int .i64),(.frz,.int .i64)]],.one (.agg [(.own,.int .i64),(.own,.int .i64),(.own,.int .i64),(.own,.int .i64),(.own,.int .i64)])⟩
theorem nA:ID.A:=AF ⟨X6,trivial⟩
def Et:Int×Int×Int×Int×Int→Int×Int×Int×Int×Int:=ID.V
def NR:Int×Int×Int×Int×Int→Prop:=ID.O
theorem oT:ID.B:=AG ⟨XY,trivial⟩ (by kernel_rfl) (fun x=>by kernel_rfl)
def nt:DCode:=(.seq [0] (.region [oa 0 2 (.mv (.c .nils))]) (.seq [3,0] (.region [on 0 5 0,oa 1 6 (.len (.t 5)),⟨2,some 7,.a false (.mkSlice 5 [(.int .i64 0),(.int .i64 0),(.int .i64 0),(.int .i64 0),(.int .i64 0)] (.t 6)) (some Av),none,[]⟩,om 3 3 7]) (.seq [3] (.seq [4,3,0] (.region [oi 0 4 0]) (.block 0 (.loop [0,3,4] 1 (.seq [4,3,0] (.seq [11,4,3,0] (.region [om 0 8 4,on 1 9 0,oa 2 10 (.len (.t 9)),oa 3 11 (.bin .lss (.t 8) (.t 10))]) (.cond (.t 11) .skip (.exit 0))) (.seq [4,3,0] (.block 1 (.region [on 0 14 3,om 1 15 4,on 2 16 0,om 3 17 4,oa 4 18 (.indexA 5 (.t 16) (.t 17)),oa 5 19 (.loadH (some 5) (.t 18)),oF 6 20 ID [(.t 19)],oa 7 21 (.indexA 5 (.t 14) (.t 15)),os 8 (.storeH 5 (.t 21) (.t 20))])) (.region [om 0 12 4,oa 1 13 (.bin .add (.t 12) (.c (.int .i64 1))),om 2 4 13])))))) (.seq [2] (.region [om 0 22 3,om 1 2 22]) .ret))))
def Ip:Fn:=⟨⟨1,23,0,false,[.tmp 2],nt⟩,[.one .frz (.sl Av)],.one (.one .own (.sl Av))⟩
theorem mw:Ip.A:=AF ⟨nA,trivial⟩
def Ro:List (Int×Int×Int×Int×Int)→List (Int×Int×Int×Int×Int):=Ip.V
def Rb:List (Int×Int×Int×Int×Int)→Prop:=Ip.O
theorem mR:Ip.B:=AG ⟨oT,trivial⟩ (by kernel_rfl) (fun x=>by kernel_rfl)
def ig:DCode:=(.seq [1] (.region [oa 0 1 (.boxB 0 4 (.t 0)),oa 1 2 (.mv (.c (.bool false)))]) (.seq [2] (.region [oa 0 3 (.loadB 0 (some 4) (.t 1)),oF 1 4 C3 [(.t 3)],om 2 5 4,og 3 6 (.fieldA 0 (.t 1)) 5 true,og 4 7 (.loadB 0 none (.t 6)) 5 true,og 5 8 (.bin .eql (.t 7) (.c (.int .i64 6))) 5 true,og 6 9 (.mv (.t 8)) 5 true,og 7 10 (.fieldA 0 (.t 1)) 9 false,og 8 11 (.loadB 0 none (.t 10)) 9 false,og 9 12 (.bin .eql (.t 11) (.c (.int .i64 7))) 9 false,og 10 13 (.pick (.t 9) (.c (.bool true)) (.t 12)) 5 true,oa 11 14 (.pick (.t 5) (.t 13) (.c (.bool false))),om 12 2 14]) .ret))
def F4:Fn:=⟨⟨1,15,1,true,[.tmp 2],ig⟩,[.agg [(.frz,.int .i64),(.frz,.int .i64),(.frz,.int .i64),(.frz,.int .i64)]],.one (.one .own (.bool))⟩
theorem iD:F4.A:=AF ⟨Q7,trivial⟩
def LO:Int×Int×Int×Int→Bool:=F4.V
def Qy:Int×Int×Int×Int→Prop:=F4.O
theorem iG:F4.B:=AG ⟨QK,trivial⟩ (by kernel_rfl) (fun x=>by kernel_rfl)
def ph:DCode:=(.seq [0] (.region [oa 0 2 (.mv (.c (.bool false)))]) (.seq [3,0] (.region [oi 0 3 0]) (.seq [] (.seq [4,3,0] (.region [oi 0 4 0]) (.block 0 (.loop [0,3,4] 1 (.seq [4,3,0] (.seq [9,4,3,0] (.region [om 0 6 4,on 1 7 0,oa 2 8 (.len (.t 7)),oa 3 9 (.bin .lss (.t 6) (.t 8))]) (.cond (.t 9) .skip (.exit 0))) (.seq [4,3,0] (.block 1 (.seq [5,4,3,0] (.region [on 0 12 0,om 1 13 4,oa 2 14 (.indexA 5 (.t 12) (.t 13)),oa 3 15 (.fieldA 1 (.t 14)),ob 4 16 (.loadH (some 4) (.t 15)),oa 5 5 (.allocB 0 [(.int .i64 0),(.int .i64 0),(.int .i64 0),(.int .i64 0)]),os 6 (.storeB 0 4 (.t 5) (.t 16))]) (.seq [4,3,0] (.seq [48,4,3,0] (.region [on 0 17 0,om 1 18 4,oa 2 19 (.indexA 5 (.t 17) (.t 18)),oa 3 20 (.fieldA 0 (.t 19)),oa 4 21 (.loadH none (.t 20)),oF 5 22 AO [(.t 21),(.c (.int .i64 0)),(.c (.int .i64 31))],oa 6 23 (.un .not (.t 22)),om 7 24 23,og 8 25 (.mv (.t 3)) 24 false,⟨9,some 26,.a true (.mv (.t 0)) none,(some (24,false)),[]⟩,og 10 27 (.mv (.t 4)) 24 false,og 11 28 (.indexA 5 (.t 26) (.t 27)) 24 false,og 12 29 (.fieldA 0 (.t 28)) 24 false,og 13 30 (.loadH none (.t 29)) 24 false,og 14 31 (.bin .shr (.t 25) (.t 30)) 24 false,og 15 32 (.bin .and (.t 31) (.c (.int .i64 1))) 24 false,og 16 33 (.bin .eql (.t 32) (.c (.int .i64 1))) 24 false,oa 17 34 (.pick (.t 24) (.c (.bool true)) (.t 33)),om 18 35 34,og 19 36 (.loadB 0 (some 4) (.t 5)) 35 false,⟨20,some 37,.call false C3.S C3.P C3.D [(.t 36)],(some (35,false)),[]⟩,og 21 38 (.un .not (.t 37)) 35 false,oa 22 39 (.pick (.t 35) (.c (.bool true)) (.t 38)),om 23 40 39,og 24 41 (.fieldA 0 (.t 5)) 40 false,og 25 42 (.loadB 0 none (.t 41)) 40 false,og 26 43 (.bin .eql (.t 42) (.c (.int .i64 1))) 40 false,oa 27 44 (.pick (.t 40) (.c (.bool true)) (.t 43)),om 28 45 44,og 29 46 (.loadB 0 (some 4) (.t 5)) 45 false,⟨30,some 47,.call false F4.S F4.P F4.D [(.t 46)],(some (45,false)),[]⟩,oa 31 48 (.pick (.t 45) (.c (.bool true)) (.t 47))]) (.cond (.t 48) (.seq [2] (.region [oa 0 2 (.mv (.c (.bool false)))]) .ret) .skip)) (.region [om 0 49 3,on 1 50 0,om 2 51 4,oa 3 52 (.indexA 5 (.t 50) (.t 51)),oa 4 53 (.fieldA 0 (.t 52)),oa 5 54 (.loadH none (.t 53)),oa 6 55 (.bin .shl (.c (.int .i64 1)) (.t 54)),oa 7 56 (.bin .or (.t 49) (.t 55)),om 8 3 56])))) (.region [om 0 10 4,oa 1 11 (.bin .add (.t 10) (.c (.int .i64 1))),om 2 4 11])))))) (.seq [2] (.region [oa 0 2 (.mv (.c (.bool true)))]) .ret))))
def Gb:Fn:=⟨⟨1,57,1,true,[.tmp 2],ph⟩,[.one .frz (.sl Av)],.one (.one .own (.bool))⟩
theorem oD:Gb.A:=AF ⟨CR,Q7,iD,trivial⟩
def L0:List (Int×Int×Int×Int×Int)→Bool:=Gb.V
def Rp:List (Int×Int×Int×Int×Int)→Prop:=Gb.O
theorem nH:Gb.B:=AG ⟨CS,QK,iG,trivial⟩ (by kernel_rfl) (fun x=>by kernel_rfl)
def rp:DCode:=(.seq [1,0] (.region [oi 0 4 0]) (.seq [4] (.region [om 0 5 0,om 1 6 1,oa 2 7 (.bin .shr (.t 5) (.t 6)),oa 3 8 (.bin .and (.t 7) (.c (.int .i64 1))),om 4 4 8]) .ret))
def Ea:Fn:=⟨⟨2,9,0,true,[.tmp 4],rp⟩,[.one .frz (.int .i64),.one .frz (.int .i64)],.one (.one .own (.int .i64))⟩
theorem YI:Ea.A:=AF trivial
def Eb:Int×Int→Int:=Ea.V
def N4:Int×Int→Prop:=Ea.O
theorem YJ:Ea.B:=AG trivial (by kernel_rfl) (fun x=>by kernel_rfl)
def oj:DCode:=(.seq [0] (.region [oa 0 2 (.mv (.c (.bool false)))]) (.seq [3,0] (.region [oi 0 3 0]) (.seq [] (.seq [8,7,6,3] (.region [on 0 6 0,oa 1 7 (.len (.t 6)),oi 2 8 0]) (.block 0 (.loop [3,6,7,8] 1 (.seq [9,8,7,6,3] (.region [oa 0 9 (.bin .lss (.t 8) (.t 7))]) (.seq [8,7,6,3] (.cond (.t 9) .skip (.exit 0)) (.seq [8,7,6,3] (.block 1 (.seq [8,7,6,5,3] (.region [oa 0 10 (.indexA 5 (.t 6) (.t 8)),ob 1 11 (.loadH (some 5) (.t 10)),oa 2 5 (.allocB 0 [(.int .i64 0),(.int .i64 0),(.int .i64 0),(.int .i64 0),(.int .i64 0)]),os 3 (.storeB 0 5 (.t 5) (.t 11))]) (.seq [8,7,6,5,3] (.seq [32,8,7,6,5,3] (.region [oa 0 12 (.fieldA 0 (.t 5)),oa 1 13 (.loadB 0 none (.t 12)),oa 2 14 (.bin .lss (.t 13) (.c (.int .i64 0))),om 3 15 14,og 4 16 (.fieldA 0 (.t 5)) 15 false,og 5 17 (.loadB 0 none (.t 16)) 15 false,og 6 18 (.bin .gtr (.t 17) (.c (.int .i64 31))) 15 false,oa 7 19 (.pick (.t 15) (.c (.bool true)) (.t 18)),om 8 20 19,og 9 21 (.mv (.t 3)) 20 false,og 10 22 (.fieldA 0 (.t 5)) 20 false,og 11 23 (.loadB 0 none (.t 22)) 20 false,⟨12,some 24,.call false Ea.S Ea.P Ea.D [(.t 21),(.t 23)],(some (20,false)),[]⟩,og 13 25 (.bin .eql (.t 24) (.c (.int .i64 1))) 20 false,oa 14 26 (.pick (.t 20) (.c (.bool true)) (.t 25)),om 15 27 26,og 16 28 (.fieldA 1 (.t 5)) 27 false,og 17 29 (.loadB 0 (some 4) (.t 28)) 27 false,⟨18,some 30,.call false D5.S D5.P D5.D [(.t 29)],(some (27,false)),[]⟩,og 19 31 (.un .not (.t 30)) 27 false,oa 20 32 (.pick (.t 27) (.c (.bool true)) (.t 31))]) (.cond (.t 32) (.seq [2] (.region [oa 0 2 (.mv (.c (.bool false)))]) .ret) .skip)) (.seq [8,7,6,5,3] (.seq [35,8,7,6,5,3] (.region [oa 0 33 (.fieldA 1 (.t 5)),oa 1 34 (.fieldA 0 (.t 33)),oa 2 35 (.loadB 0 none (.t 34))]) (.block 2 (.seq [36,8,7,6,5,3] (.seq [36,35,8,7,6,5,3] (.region [oa 0 37 (.bin .eql (.t 35) (.c (.int .i64 1))),om 1 36 37]) (.cond (.t 36) .skip (.seq [36,35,8,7,6,5,3] (.region [oa 0 38 (.bin .eql (.t 35) (.c (.int .i64 6))),om 1 36 38]) (.cond (.t 36) .skip (.region [oa 0 39 (.bin .eql (.t 35) (.c (.int .i64 7))),om 1 36 39]))))) (.cond (.t 36) (.seq [2] (.region [oa 0 2 (.mv (.c (.bool false)))]) .ret) .skip)))) (.region [om 0 40 3,oa 1 41 (.fieldA 0 (.t 5)),oa 2 42 (.loadB 0 none (.t 41)),oa 3 43 (.bin .shl (.c (.int .i64 1)) (.t 42)),oa 4 44 (.bin .or (.t 40) (.t 43)),om 5 3 44]))))) (.region [oa 0 45 (.bin .add (.t 8) (.c (.int .i64 1))),om 1 8 45]))))))) (.seq [2] (.region [oa 0 2 (.mv (.c (.bool true)))]) .ret))))
def Gc:Fn:=⟨⟨1,46,1,true,[.tmp 2],oj⟩,[.one .frz (.sl Av)],.one (.one .own (.bool))⟩
theorem oJ:Gc.A:=AF ⟨YI,Uo,trivial⟩
def Ku:List (Int×Int×Int×Int×Int)→Bool:=Gc.V
def Rm:List (Int×Int×Int×Int×Int)→Prop:=Gc.O
theorem n6:Gc.B:=AG ⟨YJ,Up,trivial⟩ (by kernel_rfl) (fun x=>by kernel_rfl)
def oh:DCode:=(.seq [3,2] (.region [oa 0 2 (.boxB 0 5 (.t 0)),oa 1 3 (.boxB 1 5 (.t 1)),oa 2 4 (.mv (.c (.bool false)))]) (.seq [3,2] (.seq [9,3,2] (.region [oa 0 5 (.fieldA 0 (.t 2)),oa 1 6 (.loadB 0 none (.t 5)),oa 2 7 (.fieldA 0 (.t 3)),oa 3 8 (.loadB 1 none (.t 7)),oa 4 9 (.bin .neq (.t 6) (.t 8))]) (.cond (.t 9) (.seq [4] (.region [oa 0 4 (.mv (.c (.bool false)))]) .ret) .skip)) (.seq [] (.seq [15] (.region [oa 0 10 (.fieldA 1 (.t 2)),oa 1 11 (.loadB 0 (some 4) (.t 10)),oa 2 12 (.fieldA 1 (.t 3)),oa 3 13 (.loadB 1 (some 4) (.t 12)),oF 4 14 F9 [(.t 11),(.t 13)],oa 5 15 (.un .not (.t 14))]) (.cond (.t 15) (.seq [4] (.region [oa 0 4 (.mv (.c (.bool false)))]) .ret) .skip)) (.seq [4] (.region [oa 0 4 (.mv (.c (.bool true)))]) .ret))))
def Iz:Fn:=⟨⟨2,16,2,true,[.tmp 4],oh⟩,[.agg [(.frz,.int .i64),(.frz,.int .i64),(.frz,.int .i64),(.frz,.int .i64),(.frz,.int .i64)],.agg [(.frz,.int .i64),(.frz,.int .i64),(.frz,.int .i64),(.frz,.int .i64),(.frz,.int .i64)]],.one (.one .own (.bool))⟩
theorem nK:Iz.A:=AF ⟨X5,trivial⟩
def IE:(Int×Int×Int×Int×Int)×(Int×Int×Int×Int×Int)→Bool:=Iz.V
def NT:(Int×Int×Int×Int×Int)×(Int×Int×Int×Int×Int)→Prop:=Iz.O
theorem oW:Iz.B:=AG ⟨XZ,trivial⟩ (by kernel_rfl) (fun x=>by kernel_rfl)
def mQ:DCode:=(.seq [1,0] (.region [oa 0 4 (.mv (.c (.bool false)))]) (.seq [1,0] (.seq [10,1,0] (.region [on 0 6 0,oa 1 7 (.len (.t 6)),on 2 8 1,oa 3 9 (.len (.t 8)),oa 4 10 (.bin .neq (.t 7) (.t 9))]) (.cond (.t 10) (.seq [4] (.region [oa 0 4 (.mv (.c (.bool false)))]) .ret) .skip)) (.seq [] (.seq [5,1,0] (.region [oi 0 5 0]) (.block 0 (.loop [0,1,5] 1 (.seq [5,1,0] (.seq [14,5,1,0] (.region [om 0 11 5,on 1 12 0,oa 2 13 (.len (.t 12)),oa 3 14 (.bin .lss (.t 11) (.t 13))]) (.cond (.t 14) .skip (.exit 0))) (.seq [5,1,0] (.block 1 (.seq [26,5,1,0] (.region [on 0 17 0,om 1 18 5,xA 2 19 (.indexA 5 (.t 17) (.t 18)) (rg 2),xA 3 20 (.loadH (some 5) (.t 19)) (rg 3),on 4 21 1,om 5 22 5,xA 6 23 (.indexA 5 (.t 21) (.t 22)) [4,5],xA 7 24 (.loadH (some 5) (.t 23)) [4,5,6],xF 8 25 Iz [(.t 20),(.t 24)] (rg 8),xA 9 26 (.un .not (.t 25)) (rg 9)]) (.cond (.t 26) (.seq [4] (.region [oa 0 4 (.mv (.c (.bool false)))]) .ret) .skip))) (.region [om 0 15 5,oa 1 16 (.bin .add (.t 15) (.c (.int .i64 1))),om 2 5 16])))))) (.seq [4] (.region [oa 0 4 (.mv (.c (.bool true)))]) .ret))))
def Iu:Fn:=⟨⟨2,27,0,true,[.tmp 4],mQ⟩,[.one .frz (.sl Av),.one .frz (.sl Av)],.one (.one .own (.bool))⟩
theorem lX:Iu.A:=AF ⟨nK,trivial⟩
def Rx:(List (Int×Int×Int×Int×Int))×(List (Int×Int×Int×Int×Int))→Bool:=Iu.V
def Re:(List (Int×Int×Int×Int×Int))×(List (Int×Int×Int×Int×Int))→Prop:=Iu.O
theorem mh:Iu.B:=AG ⟨oW,trivial⟩ (by kernel_rfl) (fun x=>by kernel_rfl)
end
section
set_option maxRecDepth 100000
theorem mT (x):Jr x=(bSel (iLt (iSub .i64 x.2 (lLen x.1)) 0) (-1) (iSub .i64 x.2 (lLen x.1))):=(Im.v x).trans (by kernel_rfl)
theorem my (x):Ri x=True:=(Im.o x).trans (by kernel_rfl)
theorem kP (x):DH x=(x.1,x.2.1,x.2.2.1,x.2.2.2):=(F8.v x).trans (by kernel_rfl)
theorem ky (x):LJ x=True:=(F8.o x).trans (by kernel_rfl)
theorem oO (x):Et x=(x.1,(DH (x.2.1,x.2.2.1,x.2.2.2.1,x.2.2.2.2)).1,(DH (x.2.1,x.2.2.1,x.2.2.2.1,x.2.2.2.2)).2.1,(DH (x.2.1,x.2.2.1,x.2.2.2.1,x.2.2.2.2)).2.2.1,(DH (x.2.1,x.2.2.1,x.2.2.2.1,x.2.2.2.2)).2.2.2):=(ID.v x).trans (by kernel_rfl)
theorem oR (x):NR x=(LJ (x.2.1,x.2.2.1,x.2.2.2.1,x.2.2.2.2)):=(ID.o x).trans (by kernel_rfl)
theorem mB (x):Ro x=(Aq (fun(x0:((List (Int×(Int×(Int×(Int×Int)))))×Int))=>(iLt x0.2 (lLen x))) (fun(x0:((List (Int×(Int×(Int×(Int×Int)))))×Int))=>((lSet x0.1 (iNat x0.2) ((Et ((lGet x (iNat x0.2) (0,0,0,0,0)).1,(lGet x (iNat x0.2) (0,0,0,0,0)).2.1,(lGet x (iNat x0.2) (0,0,0,0,0)).2.2.1,(lGet x (iNat x0.2) (0,0,0,0,0)).2.2.2.1,(lGet x (iNat x0.2) (0,0,0,0,0)).2.2.2.2)).1,(Et ((lGet x (iNat x0.2) (0,0,0,0,0)).1,(lGet x (iNat x0.2) (0,0,0,0,0)).2.1,(lGet x (iNat x0.2) (0,0,0,0,0)).2.2.1,(lGet x (iNat x0.2) (0,0,0,0,0)).2.2.2.1,(lGet x (iNat x0.2) (0,0,0,0,0)).2.2.2.2)).2.1,(Et ((lGet x (iNat x0.2) (0,0,0,0,0)).1,(lGet x (iNat x0.2) (0,0,0,0,0)).2.1,(lGet x (iNat x0.2) (0,0,0,0,0)).2.2.1,(lGet x (iNat x0.2) (0,0,0,0,0)).2.2.2.1,(lGet x (iNat x0.2) (0,0,0,0,0)).2.2.2.2)).2.2.1,(Et ((lGet x (iNat x0.2) (0,0,0,0,0)).1,(lGet x (iNat x0.2) (0,0,0,0,0)).2.1,(lGet x (iNat x0.2) (0,0,0,0,0)).2.2.1,(lGet x (iNat x0.2) (0,0,0,0,0)).2.2.2.1,(lGet x (iNat x0.2) (0,0,0,0,0)).2.2.2.2)).2.2.2.1,(Et ((lGet x (iNat x0.2) (0,0,0,0,0)).1,(lGet x (iNat x0.2) (0,0,0,0,0)).2.1,(lGet x (iNat x0.2) (0,0,0,0,0)).2.2.1,(lGet x (iNat x0.2) (0,0,0,0,0)).2.2.2.1,(lGet x (iNat x0.2) (0,0,0,0,0)).2.2.2.2)).2.2.2.2)),(iAdd .i64 x0.2 1))) ((lRep (lLen x) (0,0,0,0,0)),0)).1:=(Ip.v x).trans (by kernel_rfl)
theorem mj (x):Rb x=((((0:Int)≤(lLen x))∧(AN ((Int.toNat (lLen x))*5)))∧(LoopOk (fun(x0:((List (Int×(Int×(Int×(Int×Int)))))×Int))=>(iLt x0.2 (lLen x))) (fun(x0:((List (Int×(Int×(Int×(Int×Int)))))×Int))=>((lSet x0.1 (iNat x0.2) ((Et ((lGet x (iNat x0.2) (0,0,0,0,0)).1,(lGet x (iNat x0.2) (0,0,0,0,0)).2.1,(lGet x (iNat x0.2) (0,0,0,0,0)).2.2.1,(lGet x (iNat x0.2) (0,0,0,0,0)).2.2.2.1,(lGet x (iNat x0.2) (0,0,0,0,0)).2.2.2.2)).1,(Et ((lGet x (iNat x0.2) (0,0,0,0,0)).1,(lGet x (iNat x0.2) (0,0,0,0,0)).2.1,(lGet x (iNat x0.2) (0,0,0,0,0)).2.2.1,(lGet x (iNat x0.2) (0,0,0,0,0)).2.2.2.1,(lGet x (iNat x0.2) (0,0,0,0,0)).2.2.2.2)).2.1,(Et ((lGet x (iNat x0.2) (0,0,0,0,0)).1,(lGet x (iNat x0.2) (0,0,0,0,0)).2.1,(lGet x (iNat x0.2) (0,0,0,0,0)).2.2.1,(lGet x (iNat x0.2) (0,0,0,0,0)).2.2.2.1,(lGet x (iNat x0.2) (0,0,0,0,0)).2.2.2.2)).2.2.1,(Et ((lGet x (iNat x0.2) (0,0,0,0,0)).1,(lGet x (iNat x0.2) (0,0,0,0,0)).2.1,(lGet x (iNat x0.2) (0,0,0,0,0)).2.2.1,(lGet x (iNat x0.2) (0,0,0,0,0)).2.2.2.1,(lGet x (iNat x0.2) (0,0,0,0,0)).2.2.2.2)).2.2.2.1,(Et ((lGet x (iNat x0.2) (0,0,0,0,0)).1,(lGet x (iNat x0.2) (0,0,0,0,0)).2.1,(lGet x (iNat x0.2) (0,0,0,0,0)).2.2.1,(lGet x (iNat x0.2) (0,0,0,0,0)).2.2.2.1,(lGet x (iNat x0.2) (0,0,0,0,0)).2.2.2.2)).2.2.2.2)),(iAdd .i64 x0.2 1))) (fun(x0:((List (Int×(Int×(Int×(Int×Int)))))×Int))=>(((iLt x0.2 (lLen x))=true→((((0:Int)≤x0.2)∧(x0.2<(((List.length x):Int))))∧(((iNat x0.2)<(List.length x))∧((NR ((lGet x (iNat x0.2) (0,0,0,0,0)).1,(lGet x (iNat x0.2) (0,0,0,0,0)).2.1,(lGet x (iNat x0.2) (0,0,0,0,0)).2.2.1,(lGet x (iNat x0.2) (0,0,0,0,0)).2.2.2.1,(lGet x (iNat x0.2) (0,0,0,0,0)).2.2.2.2))∧((((0:Int)≤x0.2)∧(x0.2<(((List.length x0.1):Int))))∧((iNat x0.2)<(List.length x0.1)))))))∧((iLt x0.2 (lLen x))=false→True))) ((lRep (lLen x) (0,0,0,0,0)),0))):=(Ip.o x).trans (by kernel_rfl)
theorem iS (x):LO x=(bAnd (CP (x.1,x.2.1,x.2.2.1,x.2.2.2)) (bOr (iEq x.1 6) (iEq x.1 7))):=(F4.v x).trans (by kernel_rfl)
theorem iY (x):Qy x=(Kq (x.1,x.2.1,x.2.2.1,x.2.2.2)):=(F4.o x).trans (by kernel_rfl)
theorem ox (x):L0 x=(bNot (iLt (Aq (fun(x0:(Int×Int))=>(bAnd (iLt x0.2 (lLen x)) (bNot (bOr (bNot (AP ((lGet x (iNat x0.2) (0,0,0,0,0)).1,0,31))) (bOr (iEq (iAnd .i64 (iShr .i64 x0.1 (lGet x (iNat x0.2) (0,0,0,0,0)).1) 1) 1) (bOr (bNot (CP ((lGet x (iNat x0.2) (0,0,0,0,0)).2.1,(lGet x (iNat x0.2) (0,0,0,0,0)).2.2.1,(lGet x (iNat x0.2) (0,0,0,0,0)).2.2.2.1,(lGet x (iNat x0.2) (0,0,0,0,0)).2.2.2.2))) (bOr (iEq (lGet x (iNat x0.2) (0,0,0,0,0)).2.1 1) (LO ((lGet x (iNat x0.2) (0,0,0,0,0)).2.1,(lGet x (iNat x0.2) (0,0,0,0,0)).2.2.1,(lGet x (iNat x0.2) (0,0,0,0,0)).2.2.2.1,(lGet x (iNat x0.2) (0,0,0,0,0)).2.2.2.2))))))))) (fun(x0:(Int×Int))=>((iOr .i64 x0.1 (iShl .i64 1 (lGet x (iNat x0.2) (0,0,0,0,0)).1)),(iAdd .i64 x0.2 1))) (0,0)).2 (lLen x))):=(Gb.v x).trans (by kernel_rfl)
theorem nM (x):Rp x=(LoopOk (fun(x0:(Int×Int))=>(bAnd (iLt x0.2 (lLen x)) (bNot (bOr (bNot (AP ((lGet x (iNat x0.2) (0,0,0,0,0)).1,0,31))) (bOr (iEq (iAnd .i64 (iShr .i64 x0.1 (lGet x (iNat x0.2) (0,0,0,0,0)).1) 1) 1) (bOr (bNot (CP ((lGet x (iNat x0.2) (0,0,0,0,0)).2.1,(lGet x (iNat x0.2) (0,0,0,0,0)).2.2.1,(lGet x (iNat x0.2) (0,0,0,0,0)).2.2.2.1,(lGet x (iNat x0.2) (0,0,0,0,0)).2.2.2.2))) (bOr (iEq (lGet x (iNat x0.2) (0,0,0,0,0)).2.1 1) (LO ((lGet x (iNat x0.2) (0,0,0,0,0)).2.1,(lGet x (iNat x0.2) (0,0,0,0,0)).2.2.1,(lGet x (iNat x0.2) (0,0,0,0,0)).2.2.2.1,(lGet x (iNat x0.2) (0,0,0,0,0)).2.2.2.2))))))))) (fun(x0:(Int×Int))=>((iOr .i64 x0.1 (iShl .i64 1 (lGet x (iNat x0.2) (0,0,0,0,0)).1)),(iAdd .i64 x0.2 1))) (fun(x0:(Int×Int))=>(((iLt x0.2 (lLen x))=true→((((0:Int)≤x0.2)∧(x0.2<(((List.length x):Int))))∧(((iNat x0.2)<(List.length x))∧(((((0:Int)≤x0.2)∧(x0.2<(((List.length x):Int))))∧(((iNat x0.2)<(List.length x))∧((Cp ((lGet x (iNat x0.2) (0,0,0,0,0)).1,0,31))∧(((bNot (AP ((lGet x (iNat x0.2) (0,0,0,0,0)).1,0,31)))=true→True)∧((bNot (AP ((lGet x (iNat x0.2) (0,0,0,0,0)).1,0,31)))=false→((((0:Int)≤x0.2)∧(x0.2<(((List.length x):Int))))∧(((iNat x0.2)<(List.length x))∧(((0:Int)≤(lGet x (iNat x0.2) (0,0,0,0,0)).1)∧(((iEq (iAnd .i64 (iShr .i64 x0.1 (lGet x (iNat x0.2) (0,0,0,0,0)).1) 1) 1)=true→True)∧((iEq (iAnd .i64 (iShr .i64 x0.1 (lGet x (iNat x0.2) (0,0,0,0,0)).1) 1) 1)=false→((Kq ((lGet x (iNat x0.2) (0,0,0,0,0)).2.1,(lGet x (iNat x0.2) (0,0,0,0,0)).2.2.1,(lGet x (iNat x0.2) (0,0,0,0,0)).2.2.2.1,(lGet x (iNat x0.2) (0,0,0,0,0)).2.2.2.2))∧(((bNot (CP ((lGet x (iNat x0.2) (0,0,0,0,0)).2.1,(lGet x (iNat x0.2) (0,0,0,0,0)).2.2.1,(lGet x (iNat x0.2) (0,0,0,0,0)).2.2.2.1,(lGet x (iNat x0.2) (0,0,0,0,0)).2.2.2.2)))=true→True)∧((bNot (CP ((lGet x (iNat x0.2) (0,0,0,0,0)).2.1,(lGet x (iNat x0.2) (0,0,0,0,0)).2.2.1,(lGet x (iNat x0.2) (0,0,0,0,0)).2.2.2.1,(lGet x (iNat x0.2) (0,0,0,0,0)).2.2.2.2)))=false→(((iEq (lGet x (iNat x0.2) (0,0,0,0,0)).2.1 1)=true→True)∧((iEq (lGet x (iNat x0.2) (0,0,0,0,0)).2.1 1)=false→(Qy ((lGet x (iNat x0.2) (0,0,0,0,0)).2.1,(lGet x (iNat x0.2) (0,0,0,0,0)).2.2.1,(lGet x (iNat x0.2) (0,0,0,0,0)).2.2.2.1,(lGet x (iNat x0.2) (0,0,0,0,0)).2.2.2.2)))))))))))))))))∧(((bOr (bNot (AP ((lGet x (iNat x0.2) (0,0,0,0,0)).1,0,31))) (bOr (iEq (iAnd .i64 (iShr .i64 x0.1 (lGet x (iNat x0.2) (0,0,0,0,0)).1) 1) 1) (bOr (bNot (CP ((lGet x (iNat x0.2) (0,0,0,0,0)).2.1,(lGet x (iNat x0.2) (0,0,0,0,0)).2.2.1,(lGet x (iNat x0.2) (0,0,0,0,0)).2.2.2.1,(lGet x (iNat x0.2) (0,0,0,0,0)).2.2.2.2))) (bOr (iEq (lGet x (iNat x0.2) (0,0,0,0,0)).2.1 1) (LO ((lGet x (iNat x0.2) (0,0,0,0,0)).2.1,(lGet x (iNat x0.2) (0,0,0,0,0)).2.2.1,(lGet x (iNat x0.2) (0,0,0,0,0)).2.2.2.1,(lGet x (iNat x0.2) (0,0,0,0,0)).2.2.2.2))))))=true→True)∧((bOr (bNot (AP ((lGet x (iNat x0.2) (0,0,0,0,0)).1,0,31))) (bOr (iEq (iAnd .i64 (iShr .i64 x0.1 (lGet x (iNat x0.2) (0,0,0,0,0)).1) 1) 1) (bOr (bNot (CP ((lGet x (iNat x0.2) (0,0,0,0,0)).2.1,(lGet x (iNat x0.2) (0,0,0,0,0)).2.2.1,(lGet x (iNat x0.2) (0,0,0,0,0)).2.2.2.1,(lGet x (iNat x0.2) (0,0,0,0,0)).2.2.2.2))) (bOr (iEq (lGet x (iNat x0.2) (0,0,0,0,0)).2.1 1) (LO ((lGet x (iNat x0.2) (0,0,0,0,0)).2.1,(lGet x (iNat x0.2) (0,0,0,0,0)).2.2.1,(lGet x (iNat x0.2) (0,0,0,0,0)).2.2.2.1,(lGet x (iNat x0.2) (0,0,0,0,0)).2.2.2.2))))))=false→((((0:Int)≤x0.2)∧(x0.2<(((List.length x):Int))))∧(((iNat x0.2)<(List.length x))∧((0:Int)≤(lGet x (iNat x0.2) (0,0,0,0,0)).1)))))))))∧((iLt x0.2 (lLen x))=false→True))) (0,0)):=(Gb.o x).trans (by kernel_rfl)
theorem YE (x):Eb x=(iAnd .i64 (iShr .i64 x.1 x.2) 1):=(Ea.v x).trans (by kernel_rfl)
theorem YK (x):N4 x=((0:Int)≤x.2):=(Ea.o x).trans (by kernel_rfl)
theorem Yk (x):Ku x=(bNot (iLt (Aq (fun(x0:(Int×Int))=>(bAnd (iLt x0.2 (lLen x)) (bAnd (bNot (bOr (iLt (lGet x (iNat x0.2) (0,0,0,0,0)).1 0) (bOr (iGt (lGet x (iNat x0.2) (0,0,0,0,0)).1 31) (bOr (iEq (Eb (x0.1,(lGet x (iNat x0.2) (0,0,0,0,0)).1)) 1) (bNot (CQ ((lGet x (iNat x0.2) (0,0,0,0,0)).2.1,(lGet x (iNat x0.2) (0,0,0,0,0)).2.2.1,(lGet x (iNat x0.2) (0,0,0,0,0)).2.2.2.1,(lGet x (iNat x0.2) (0,0,0,0,0)).2.2.2.2))))))) (bNot (bOr (iEq (lGet x (iNat x0.2) (0,0,0,0,0)).2.1 1) (bOr (iEq (lGet x (iNat x0.2) (0,0,0,0,0)).2.1 6) (iEq (lGet x (iNat x0.2) (0,0,0,0,0)).2.1 7))))))) (fun(x0:(Int×Int))=>((iOr .i64 x0.1 (iShl .i64 1 (lGet x (iNat x0.2) (0,0,0,0,0)).1)),(iAdd .i64 x0.2 1))) (0,0)).2 (lLen x))):=(Gc.v x).trans (by kernel_rfl)
theorem nU (x):Rm x=(LoopOk (fun(x0:(Int×Int))=>(bAnd (iLt x0.2 (lLen x)) (bAnd (bNot (bOr (iLt (lGet x (iNat x0.2) (0,0,0,0,0)).1 0) (bOr (iGt (lGet x (iNat x0.2) (0,0,0,0,0)).1 31) (bOr (iEq (Eb (x0.1,(lGet x (iNat x0.2) (0,0,0,0,0)).1)) 1) (bNot (CQ ((lGet x (iNat x0.2) (0,0,0,0,0)).2.1,(lGet x (iNat x0.2) (0,0,0,0,0)).2.2.1,(lGet x (iNat x0.2) (0,0,0,0,0)).2.2.2.1,(lGet x (iNat x0.2) (0,0,0,0,0)).2.2.2.2))))))) (bNot (bOr (iEq (lGet x (iNat x0.2) (0,0,0,0,0)).2.1 1) (bOr (iEq (lGet x (iNat x0.2) (0,0,0,0,0)).2.1 6) (iEq (lGet x (iNat x0.2) (0,0,0,0,0)).2.1 7))))))) (fun(x0:(Int×Int))=>((iOr .i64 x0.1 (iShl .i64 1 (lGet x (iNat x0.2) (0,0,0,0,0)).1)),(iAdd .i64 x0.2 1))) (fun(x0:(Int×Int))=>(((iLt x0.2 (lLen x))=true→((((0:Int)≤x0.2)∧(x0.2<(((List.length x):Int))))∧(((iNat x0.2)<(List.length x))∧((((iLt (lGet x (iNat x0.2) (0,0,0,0,0)).1 0)=true→True)∧((iLt (lGet x (iNat x0.2) (0,0,0,0,0)).1 0)=false→(((iGt (lGet x (iNat x0.2) (0,0,0,0,0)).1 31)=true→True)∧((iGt (lGet x (iNat x0.2) (0,0,0,0,0)).1 31)=false→((N4 (x0.1,(lGet x (iNat x0.2) (0,0,0,0,0)).1))∧(((iEq (Eb (x0.1,(lGet x (iNat x0.2) (0,0,0,0,0)).1)) 1)=true→True)∧((iEq (Eb (x0.1,(lGet x (iNat x0.2) (0,0,0,0,0)).1)) 1)=false→(LK ((lGet x (iNat x0.2) (0,0,0,0,0)).2.1,(lGet x (iNat x0.2) (0,0,0,0,0)).2.2.1,(lGet x (iNat x0.2) (0,0,0,0,0)).2.2.2.1,(lGet x (iNat x0.2) (0,0,0,0,0)).2.2.2.2)))))))))∧(((bOr (iLt (lGet x (iNat x0.2) (0,0,0,0,0)).1 0) (bOr (iGt (lGet x (iNat x0.2) (0,0,0,0,0)).1 31) (bOr (iEq (Eb (x0.1,(lGet x (iNat x0.2) (0,0,0,0,0)).1)) 1) (bNot (CQ ((lGet x (iNat x0.2) (0,0,0,0,0)).2.1,(lGet x (iNat x0.2) (0,0,0,0,0)).2.2.1,(lGet x (iNat x0.2) (0,0,0,0,0)).2.2.2.1,(lGet x (iNat x0.2) (0,0,0,0,0)).2.2.2.2))))))=true→True)∧((bOr (iLt (lGet x (iNat x0.2) (0,0,0,0,0)).1 0) (bOr (iGt (lGet x (iNat x0.2) (0,0,0,0,0)).1 31) (bOr (iEq (Eb (x0.1,(lGet x (iNat x0.2) (0,0,0,0,0)).1)) 1) (bNot (CQ ((lGet x (iNat x0.2) (0,0,0,0,0)).2.1,(lGet x (iNat x0.2) (0,0,0,0,0)).2.2.1,(lGet x (iNat x0.2) (0,0,0,0,0)).2.2.2.1,(lGet x (iNat x0.2) (0,0,0,0,0)).2.2.2.2))))))=false→(((bOr (iEq (lGet x (iNat x0.2) (0,0,0,0,0)).2.1 1) (bOr (iEq (lGet x (iNat x0.2) (0,0,0,0,0)).2.1 6) (iEq (lGet x (iNat x0.2) (0,0,0,0,0)).2.1 7)))=true→True)∧((bOr (iEq (lGet x (iNat x0.2) (0,0,0,0,0)).2.1 1) (bOr (iEq (lGet x (iNat x0.2) (0,0,0,0,0)).2.1 6) (iEq (lGet x (iNat x0.2) (0,0,0,0,0)).2.1 7)))=false→((0:Int)≤(lGet x (iNat x0.2) (0,0,0,0,0)).1)))))))))∧((iLt x0.2 (lLen x))=false→True))) (0,0)):=(Gc.o x).trans (by kernel_rfl)
theorem pn (x):IE x=(bAnd (bNot (iNe x.1.1 x.2.1)) (bNot (bNot (GL ((x.1.2.1,x.1.2.2.1,x.1.2.2.2.1,x.1.2.2.2.2),x.2.2.1,x.2.2.2.1,x.2.2.2.2.1,x.2.2.2.2.2))))):=(Iz.v x).trans (by kernel_rfl)
theorem o7 (x):NT x=(((iNe x.1.1 x.2.1)=true→True)∧((iNe x.1.1 x.2.1)=false→(LL ((x.1.2.1,x.1.2.2.1,x.1.2.2.2.1,x.1.2.2.2.2),x.2.2.1,x.2.2.2.1,x.2.2.2.2.1,x.2.2.2.2.2)))):=(Iz.o x).trans (by kernel_rfl)
theorem mg (x):Rx x=(bAnd (bNot (iNe (lLen x.1) (lLen x.2))) (bNot (iLt (Aq (fun(x0:Int)=>(bAnd (iLt x0 (lLen x.1)) (bNot (bNot (IE (((lGet x.1 (iNat x0) (0,0,0,0,0)).1,(lGet x.1 (iNat x0) (0,0,0,0,0)).2.1,(lGet x.1 (iNat x0) (0,0,0,0,0)).2.2.1,(lGet x.1 (iNat x0) (0,0,0,0,0)).2.2.2.1,(lGet x.1 (iNat x0) (0,0,0,0,0)).2.2.2.2),(lGet x.2 (iNat x0) (0,0,0,0,0)).1,(lGet x.2 (iNat x0) (0,0,0,0,0)).2.1,(lGet x.2 (iNat x0) (0,0,0,0,0)).2.2.1,(lGet x.2 (iNat x0) (0,0,0,0,0)).2.2.2.1,(lGet x.2 (iNat x0) (0,0,0,0,0)).2.2.2.2)))))) (fun(x0:Int)=>(iAdd .i64 x0 1)) 0) (lLen x.1)))):=(Iu.v x).trans (by kernel_rfl)
theorem mX (x):Re x=(((iNe (lLen x.1) (lLen x.2))=true→True)∧((iNe (lLen x.1) (lLen x.2))=false→(LoopOk (fun(x0:Int)=>(bAnd (iLt x0 (lLen x.1)) (bNot (bNot (IE (((lGet x.1 (iNat x0) (0,0,0,0,0)).1,(lGet x.1 (iNat x0) (0,0,0,0,0)).2.1,(lGet x.1 (iNat x0) (0,0,0,0,0)).2.2.1,(lGet x.1 (iNat x0) (0,0,0,0,0)).2.2.2.1,(lGet x.1 (iNat x0) (0,0,0,0,0)).2.2.2.2),(lGet x.2 (iNat x0) (0,0,0,0,0)).1,(lGet x.2 (iNat x0) (0,0,0,0,0)).2.1,(lGet x.2 (iNat x0) (0,0,0,0,0)).2.2.1,(lGet x.2 (iNat x0) (0,0,0,0,0)).2.2.2.1,(lGet x.2 (iNat x0) (0,0,0,0,0)).2.2.2.2)))))) (fun(x0:Int)=>(iAdd .i64 x0 1)) (fun(x0:Int)=>(((iLt x0 (lLen x.1))=true→((((0:Int)≤x0)∧(x0<(((List.length x.1):Int))))∧(((iNat x0)<(List.length x.1))∧((((0:Int)≤x0)∧(x0<(((List.length x.2):Int))))∧(((iNat x0)<(List.length x.2))∧(NT (((lGet x.1 (iNat x0) (0,0,0,0,0)).1,(lGet x.1 (iNat x0) (0,0,0,0,0)).2.1,(lGet x.1 (iNat x0) (0,0,0,0,0)).2.2.1,(lGet x.1 (iNat x0) (0,0,0,0,0)).2.2.2.1,(lGet x.1 (iNat x0) (0,0,0,0,0)).2.2.2.2),(lGet x.2 (iNat x0) (0,0,0,0,0)).1,(lGet x.2 (iNat x0) (0,0,0,0,0)).2.1,(lGet x.2 (iNat x0) (0,0,0,0,0)).2.2.1,(lGet x.2 (iNat x0) (0,0,0,0,0)).2.2.2.1,(lGet x.2 (iNat x0) (0,0,0,0,0)).2.2.2.2)))))))∧((iLt x0 (lLen x.1))=false→True))) 0))):=(Iu.o x).trans (by kernel_rfl)
attribute [irreducible] Jr Ri DH LJ Et NR Ro Rb LO Qy L0 Rp Eb N4 Ku Rm IE NT Rx Re
end
def Me(_:Int×Int×Int×Int):Prop:=True
def R9(_:Int×Int×Int×Int):Prop:=True
theorem Zu(a b:Int×Int×Int×Int)(h:Me a):LL (a,b)∧(GL (a,b)=true↔a=b):=by
 obtain⟨a0,a1,a2,a3⟩:=a;obtain⟨b0,b1,b2,b3⟩:=b;rw[ke,j9];refine⟨by simp,?_⟩;simp only[Ay,AA,C9,B0,Af,I6,AD,Am,AQ]
 try (constructor<;>intro h<;>simp_all)
def MA(x:Int×Int×Int×Int×Int):Prop:=Me (x.2.1,x.2.2.1,x.2.2.2.1,x.2.2.2.2)∧True
def bZ(x:Int×Int×Int×Int×Int):Prop:=R9 (x.2.1,x.2.2.1,x.2.2.2.1,x.2.2.2.2)∧True
def JB(x:List (Int×Int×Int×Int×Int)):Prop:=x.length≤1048576∧∀ a∈x,MA a
def aY(x:List (Int×Int×Int×Int×Int)):Prop:=x.length≤9223372036854775807∧∀ a∈x,bZ a
theorem vq(x:List (Int×Int×Int×Int×Int))(hw:aY x)(l:Int)(h0:0≤l)(h1:l≤1048576):Ri (x,l)∧(Jr (x,l)<0∨(0≤Jr (x,l)∧Jr (x,l)≤l∧JB x)):=by
 rw[my,mT];have hl:x.length≤9223372036854775807:=hw.1
 have hs:iSub .i64 l (lLen x)=l-x.length:=by rw[Ao];exact IZ (by unfold Cg;omega)
 refine⟨trivial,?_⟩;simp only[hs,Ar,Ce,AD];split
 · left;omega
 · right;exact⟨by omega,by omega,⟨by omega,fun a _=>by simp[MA,Me]⟩⟩
theorem Zy(x:Int×Int×Int×Int)(h:Me x):LJ x∧DH x=x:=by
 rw[ky,kP];exact⟨trivial,rfl⟩
theorem xH(x:Int×Int×Int×Int×Int)(h:MA x):NR x∧Et x=x:=by
 rw[oR,oO];have k0:=Zy (x.2.1,x.2.2.1,x.2.2.2.1,x.2.2.2.2) (by unfold MA at h;exact h.1);refine⟨k0.1,?_⟩;simp only[k0.2]
theorem vh(x:List (Int×Int×Int×Int×Int))(h:JB x):Rb x∧Ro x=x:=by
 rw[mj,mB];obtain⟨h1,h2⟩:=h
 have hY:∀ i:Nat,i<x.length→NR ((x.getD i (0,0,0,0,0)).1,(x.getD i (0,0,0,0,0)).2.1,(x.getD i (0,0,0,0,0)).2.2.1,(x.getD i (0,0,0,0,0)).2.2.2.1,(x.getD i (0,0,0,0,0)).2.2.2.2)∧Et ((x.getD i (0,0,0,0,0)).1,(x.getD i (0,0,0,0,0)).2.1,(x.getD i (0,0,0,0,0)).2.2.1,(x.getD i (0,0,0,0,0)).2.2.2.1,(x.getD i (0,0,0,0,0)).2.2.2.2)=x.getD i (0,0,0,0,0):=fun i hi=>xH _ (h2 _ (BW x i (0,0,0,0,0) hi))
 refine⟨⟨⟨by rw[Ao];omega,OB (by rw[Ao];omega) (by rw[Ao];omega) (by omega)⟩,OH x (0,0,0,0,0) (0,0,0,0,0) h1 (fun _=>rfl) (fun l i hi=>by simp only[Gk,AL,Ax,AK];rw[(hY i hi).2]) (fun l i hl hi=>?_)⟩,OW x (0,0,0,0,0) (0,0,0,0,0) h1 (fun _=>rfl) (fun l i hi=>by simp only[Gk,AL,Ax,AK];rw[(hY i hi).2])⟩;simp only[Ar,Ao,Ax,AL,AD,AK];exact⟨fun hh=>⟨by omega,by omega,(hY i (by omega)).1,by omega,by omega⟩,fun _=>trivial⟩
theorem xL(a b:Int×Int×Int×Int×Int)(h:MA a):NT (a,b)∧(IE (a,b)=true↔a=b):=by
 obtain⟨a0,a1,a2,a3,a4⟩:=a;obtain⟨b0,b1,b2,b3,b4⟩:=b;have k0:=Zu (a1,a2,a3,a4) (b1,b2,b3,b4) (by unfold MA at h;exact h.1);rw[o7,pn];refine⟨by simp[k0.1,k0.2],?_⟩;simp only[k0.1,k0.2,Ay,AA,C9,B0,Af,I6,AD,Am,AQ]
 try (constructor<;>intro h<;>simp_all)
theorem vp(a b:List (Int×Int×Int×Int×Int))(h:JB a):Re (a,b)∧(Rx (a,b)=true↔a=b):=by
 rw[mX,mg];obtain⟨h1,h2⟩:=h
 have hY:∀ i:Nat,i<a.length→NT (((lGet a i (0,0,0,0,0)).1,(lGet a i (0,0,0,0,0)).2.1,(lGet a i (0,0,0,0,0)).2.2.1,(lGet a i (0,0,0,0,0)).2.2.2.1,(lGet a i (0,0,0,0,0)).2.2.2.2),((lGet b i (0,0,0,0,0)).1,(lGet b i (0,0,0,0,0)).2.1,(lGet b i (0,0,0,0,0)).2.2.1,(lGet b i (0,0,0,0,0)).2.2.2.1,(lGet b i (0,0,0,0,0)).2.2.2.2))∧(IE (((lGet a i (0,0,0,0,0)).1,(lGet a i (0,0,0,0,0)).2.1,(lGet a i (0,0,0,0,0)).2.2.1,(lGet a i (0,0,0,0,0)).2.2.2.1,(lGet a i (0,0,0,0,0)).2.2.2.2),((lGet b i (0,0,0,0,0)).1,(lGet b i (0,0,0,0,0)).2.1,(lGet b i (0,0,0,0,0)).2.2.1,(lGet b i (0,0,0,0,0)).2.2.2.1,(lGet b i (0,0,0,0,0)).2.2.2.2))=true↔a.getD i (0,0,0,0,0)=b.getD i (0,0,0,0,0)):=fun i hi=>by
  have:=xL (a.getD i (0,0,0,0,0)) (b.getD i (0,0,0,0,0)) (h2 _ (BW a i (0,0,0,0,0) hi));rw[AL,AL];exact this
 by_cases hl:a.length=b.length
 · refine⟨⟨fun _=>trivial,fun _=>M6 a b (0,0,0,0,0) (fun i=>bNot (IE (((lGet a i (0,0,0,0,0)).1,(lGet a i (0,0,0,0,0)).2.1,(lGet a i (0,0,0,0,0)).2.2.1,(lGet a i (0,0,0,0,0)).2.2.2.1,(lGet a i (0,0,0,0,0)).2.2.2.2),((lGet b i (0,0,0,0,0)).1,(lGet b i (0,0,0,0,0)).2.1,(lGet b i (0,0,0,0,0)).2.2.1,(lGet b i (0,0,0,0,0)).2.2.2.1,(lGet b i (0,0,0,0,0)).2.2.2.2)))) hl (fun i hi=>by simp only[Ay,B7,(hY i hi).2]) (by omega) (fun i hi=>by simp only[AA,Ar,Ao,Ax,Ay,AK,DU]) (fun i hi=>rfl) (fun i hi=>?_)⟩,?_⟩
   · simp only[Ar,Ao,Ax,AD,AK];exact⟨fun hh=>⟨by omega,by omega,by omega,by omega,(hY i (by omega)).1⟩,fun _=>trivial⟩
   · have hv:=Nn (c:=fun i:Int=>bAnd (iLt i (lLen a)) (bNot ((fun i=>bNot (IE (((lGet a i (0,0,0,0,0)).1,(lGet a i (0,0,0,0,0)).2.1,(lGet a i (0,0,0,0,0)).2.2.1,(lGet a i (0,0,0,0,0)).2.2.2.1,(lGet a i (0,0,0,0,0)).2.2.2.2),((lGet b i (0,0,0,0,0)).1,(lGet b i (0,0,0,0,0)).2.1,(lGet b i (0,0,0,0,0)).2.2.1,(lGet b i (0,0,0,0,0)).2.2.2.1,(lGet b i (0,0,0,0,0)).2.2.2.2)))) i.toNat))) (f:=fun i=>iAdd .i64 i 1) a b (0,0,0,0,0) (fun i=>bNot (IE (((lGet a i (0,0,0,0,0)).1,(lGet a i (0,0,0,0,0)).2.1,(lGet a i (0,0,0,0,0)).2.2.1,(lGet a i (0,0,0,0,0)).2.2.2.1,(lGet a i (0,0,0,0,0)).2.2.2.2),((lGet b i (0,0,0,0,0)).1,(lGet b i (0,0,0,0,0)).2.1,(lGet b i (0,0,0,0,0)).2.2.1,(lGet b i (0,0,0,0,0)).2.2.2.1,(lGet b i (0,0,0,0,0)).2.2.2.2)))) hl (fun i hi=>by simp only[Ay,B7,(hY i hi).2]) (by omega) (fun i hi=>by simp only[AA,Ar,Ao,Ay,AK,DU]) (fun i hi=>rfl)
     have e1:bNot (iNe (lLen a) (lLen b))=true:=by rw[Ay,B0,Ao,Ao,hl];simp
     rw[e1,AA true,JO,Ay (iLt _ (lLen a)),Ar _ (lLen a)];simp only[← Ax,Ao] at hv ⊢;simp only[BL,B6];rw[hv];simp
 · have e1:bNot (iNe (lLen a) (lLen b))=false:=by rw[Ay,B0,Ao,Ao];simp;omega
   refine⟨⟨fun _=>trivial,fun h=>?_⟩,?_⟩
   · rw[Ay] at e1;rw[h] at e1;cases e1
   · rw[e1,AA,J4];constructor
     · intro h;cases h
     · intro e;subst e;exact absurd rfl hl
theorem rR (x):Qy x:=by rw[iY];exact Qs _
theorem tK(x:List (Int×Int×Int×Int×Int)):L0 x=Ku x:=by
 rw[ox,Yk]
 have:∀ {c c':Int×Int→Bool} {f:Int×Int→Int×Int} {a:Int×Int} {n:Int},(∀ x,c x=c' x)→bNot (iLt (Aq c f a).2 n)=bNot (iLt (Aq c' f a).2 n):=by
  intro c c' f a n h;rw[funext h]
 apply this;intro st;rw[Na];simp only[iS,RG,JF,YE,Ay,AA,Ck,Db,Ar,EF,Af,Cj,BL,B7,J7,Ct,AD,B6,JN,Ng,AQ,Mx];generalize CQ _=A;cases A<;>simp<;>omega
theorem j2(x:List (Int×Int×Int×Int×Int))(h:x.length≤1048576):Rp x:=by
 rw[nM];refine MM (fun st=>st.2) x.length (by omega) (fun st _ _ hc=>?_) (fun st=>rfl) (fun st h0 h1=>?_) (by simp) (by simp)
 · simp only[AA,Ar,Ao,Af,AD] at hc;exact hc.1
 · refine⟨fun hlt=>?_,fun _=>trivial⟩;simp only[Ar,Ao,AD] at hlt
   have h3:st.2.toNat<x.length:=by omega
   simp only[JF,Ax,h3,h0,hlt,Mz,rR,Qs,G4,implies_true,KJ,Ay,Ck,Af,Cj,BL,B7,J7,Ct,AD,B6,JN,Ng,AQ,Mx,B7,Ct];exact⟨fun hh=>hh.1,fun hh=>hh.1.1⟩
theorem jV(x:List (Int×Int×Int×Int×Int))(h:x.length≤1048576):Rm x:=by
 rw[nU];refine MM (fun st=>st.2) x.length (by omega) (fun st _ _ hc=>?_) (fun st=>rfl) (fun st h0 h1=>?_) (by simp) (by simp)
 · simp only[AA,Ar,Ao,Af,AD] at hc;exact hc.1
 · refine⟨fun hlt=>?_,fun _=>trivial⟩;simp only[Ar,Ao,AD] at hlt
   have h3:st.2.toNat<x.length:=by omega
   simp only[YK,Ax,h3,h0,hlt,TV,G4,implies_true,KJ,Ar,EF,Ay,Ck,Af,Cj,BL,B7,J7,Ct,AD,B6,JN,Ng,AQ,Mx,B7,Ct];refine⟨fun h4 h5=>by omega,fun h4 h5=>by omega⟩
def SX(h:Int×Int×Int×Int×Int):Prop:=0≤h.1∧h.1≤31∧CQ h.2=true∧h.2.1≠1∧h.2.1≠6∧h.2.1≠7
theorem rK{x:List (Int×Int×Int×Int×Int)}(hl:x.length≤1048576)(h:Ku x=true):∀ a∈x,SX a:=by
 rw[Yk,Ay,BL,Ar _ (lLen x),B6] at h
 have key:=Zo (c:=fun x0:Int×Int=>(bAnd (iLt x0.2 (lLen x)) (bAnd (bNot (bOr (iLt (lGet x (iNat x0.2) (0,0,0,0,0)).1 0) (bOr (iGt (lGet x (iNat x0.2) (0,0,0,0,0)).1 31) (bOr (iEq (Eb (x0.1,(lGet x (iNat x0.2) (0,0,0,0,0)).1)) 1) (bNot (CQ ((lGet x (iNat x0.2) (0,0,0,0,0)).2.1,(lGet x (iNat x0.2) (0,0,0,0,0)).2.2.1,(lGet x (iNat x0.2) (0,0,0,0,0)).2.2.2.1,(lGet x (iNat x0.2) (0,0,0,0,0)).2.2.2.2))))))) (bNot (bOr (iEq (lGet x (iNat x0.2) (0,0,0,0,0)).2.1 1) (bOr (iEq (lGet x (iNat x0.2) (0,0,0,0,0)).2.1 6) (iEq (lGet x (iNat x0.2) (0,0,0,0,0)).2.1 7)))))))
  (f:=fun x0=>((iOr .i64 x0.1 (iShl .i64 1 (lGet x (iNat x0.2) (0,0,0,0,0)).1)),(iAdd .i64 x0.2 1)))
  (fun st=>∃ i:Nat,st.2=i∧i≤x.length∧∀ j,j<i→SX (x.getD j (0,0,0,0,0))) (fun st=>x.length-st.2.toNat) (fun st hI hc=>?_) (x0:=(0,0)) ⟨0,rfl,Gl _,fun j hj=>by omega⟩
 · obtain⟨⟨i,k1,k2,k3⟩,_⟩:=key;rw[k1,Ao] at h
   have:i=x.length:=by omega
   subst this;intro a ha;obtain⟨j,hj,rfl⟩:=KR ha;have:=k3 j hj;rw[Dn,A3 hj] at this;exact this
 · obtain⟨i,k1,k2,k3⟩:=hI;obtain⟨s,j⟩:=st;simp only at k1;subst k1;simp only[AA,Ay,Ck,Ar,EF,Db,Ao,AL,Ax,AK,Af,BL,Ct,AD,B6,B7] at hc;obtain⟨c1,⟨c2,c3,_,c5⟩,c6,c7,c8⟩:=hc;refine⟨⟨i+1,?_,by omega,fun j hj=>?_⟩,?_⟩
   · simp only;rw[CJ (by unfold Cg;omega)];omega
   · by_cases hji:j=i
     · subst hji;exact⟨by omega,by omega,c5,c6,c7,c8⟩
     · exact k3 j (by omega)
   · simp only;rw[CJ (by unfold Cg;omega)];omega
section
set_option maxRecDepth 8000
def gU:DCode:=(.seq [1,0] (.region [oi 0 4 0]) (.seq [1] (.region [om 0 5 1,on 1 6 0,oa 2 7 (.len (.t 6)),oa 3 8 (.bin .sub (.t 5) (.t 7)),om 4 1 8]) (.seq [1] (.seq [10,1] (.region [om 0 9 1,oa 1 10 (.bin .lss (.t 9) (.c (.int .i64 0)))]) (.cond (.t 10) (.seq [4] (.region [oi 0 4 (-1)]) .ret) .skip)) (.seq [4] (.region [om 0 11 1,om 1 4 11]) .ret))))
def HO:Fn:=⟨⟨2,12,0,true,[.tmp 4],gU⟩,[.one .frz (.sl An),.one .frz (.int .i64)],.one (.one .own (.int .i64))⟩
theorem gX:HO.A:=AF trivial
def Di:(List (Int×Int×Int×Int))×Int→Int:=HO.V
def Ny:(List (Int×Int×Int×Int))×Int→Prop:=HO.O
theorem im:HO.B:=AG trivial (by kernel_rfl) (fun x=>by kernel_rfl)
def fX:DCode:=(.seq [1,0] (.region [oi 0 4 0]) (.seq [1,0] (.region [om 0 6 1,on 1 7 0,oa 2 8 (.len (.t 7)),oa 3 9 (.bin .sub (.t 6) (.t 8)),om 4 1 9]) (.seq [1,0] (.seq [11,1,0] (.region [om 0 10 1,oa 1 11 (.bin .lss (.t 10) (.c (.int .i64 0)))]) (.cond (.t 11) (.seq [4] (.region [oi 0 4 (-1)]) .ret) .skip)) (.seq [1] (.seq [5,1,0] (.region [oi 0 5 0]) (.block 0 (.loop [0,1,5] 1 (.seq [5,1,0] (.seq [15,5,1,0] (.region [om 0 12 5,on 1 13 0,oa 2 14 (.len (.t 13)),oa 3 15 (.bin .lss (.t 12) (.t 14))]) (.cond (.t 15) .skip (.exit 0))) (.seq [5,1,0] (.block 1 (.seq [5,1,0] (.region [on 0 18 0,om 1 19 5,oa 2 20 (.indexA 1 (.t 18) (.t 19)),oa 3 21 (.loadH none (.t 20)),om 4 22 1,oF 5 23 HO [(.t 21),(.t 22)],om 6 1 23]) (.seq [25,5,1,0] (.region [om 0 24 1,oa 1 25 (.bin .lss (.t 24) (.c (.int .i64 0)))]) (.cond (.t 25) (.seq [4] (.region [oi 0 4 (-1)]) .ret) .skip)))) (.region [om 0 16 5,oa 1 17 (.bin .add (.t 16) (.c (.int .i64 1))),om 2 5 17])))))) (.seq [4] (.region [om 0 26 1,om 1 4 26]) .ret)))))
def HK:Fn:=⟨⟨2,27,0,true,[.tmp 4],fX⟩,[.one .frz (.sl (.one (.sl An))),.one .frz (.int .i64)],.one (.one .own (.int .i64))⟩
theorem fI:HK.A:=AF ⟨gX,trivial⟩
def Jl:(List (List (Int×Int×Int×Int)))×Int→Int:=HK.V
def Qj:(List (List (Int×Int×Int×Int)))×Int→Prop:=HK.O
theorem fQ:HK.B:=AG ⟨im,trivial⟩ (by kernel_rfl) (fun x=>by kernel_rfl)
def kE:DCode:=(.seq [2,1] (.region [oa 0 2 (.boxB 0 2 (.t 0)),oi 1 4 0]) (.seq [1] (.region [oa 0 5 (.fieldA 1 (.t 2)),oa 1 6 (.loadB 0 none (.t 5)),om 2 7 1,oF 3 8 HK [(.t 6),(.t 7)],om 4 1 8]) (.seq [1] (.seq [10,1] (.region [om 0 9 1,oa 1 10 (.bin .lss (.t 9) (.c (.int .i64 0)))]) (.cond (.t 10) (.seq [4] (.region [oi 0 4 (-1)]) .ret) .skip)) (.seq [4] (.region [om 0 11 1,om 1 4 11]) .ret))))
def HZ:Fn:=⟨⟨2,12,1,true,[.tmp 4],kE⟩,[.agg [(.frz,.int .i64),(.frz,.sl (.one (.sl An)))],.one .frz (.int .i64)],.one (.one .own (.int .i64))⟩
theorem kM:HZ.A:=AF ⟨fI,trivial⟩
def DI:(Int×(List (List (Int×Int×Int×Int))))×Int→Int:=HZ.V
def QJ:(Int×(List (List (Int×Int×Int×Int))))×Int→Prop:=HZ.O
theorem jt:HZ.B:=AG ⟨fQ,trivial⟩ (by kernel_rfl) (fun x=>by kernel_rfl)
def iv:DCode:=(.seq [0] (.region [oa 0 2 (.mv (.c .nils))]) (.seq [3,0] (.region [on 0 5 0,oa 1 6 (.len (.t 5)),⟨2,some 7,.a false (.mkSlice 4 [(.int .i64 0),(.int .i64 0),(.int .i64 0),(.int .i64 0)] (.t 6)) (some An),none,[]⟩,om 3 3 7]) (.seq [3] (.seq [4,3,0] (.region [oi 0 4 0]) (.block 0 (.loop [0,3,4] 1 (.seq [4,3,0] (.seq [11,4,3,0] (.region [om 0 8 4,on 1 9 0,oa 2 10 (.len (.t 9)),oa 3 11 (.bin .lss (.t 8) (.t 10))]) (.cond (.t 11) .skip (.exit 0))) (.seq [4,3,0] (.block 1 (.region [on 0 14 3,om 1 15 4,on 2 16 0,om 3 17 4,oa 4 18 (.indexA 4 (.t 16) (.t 17)),oa 5 19 (.loadH (some 4) (.t 18)),oF 6 20 F8 [(.t 19)],oa 7 21 (.indexA 4 (.t 14) (.t 15)),os 8 (.storeH 4 (.t 21) (.t 20))])) (.region [om 0 12 4,oa 1 13 (.bin .add (.t 12) (.c (.int .i64 1))),om 2 4 13])))))) (.seq [2] (.region [om 0 22 3,om 1 2 22]) .ret))))
def HP:Fn:=⟨⟨1,23,0,false,[.tmp 2],iv⟩,[.one .frz (.sl An)],.one (.one .own (.sl An))⟩
theorem iF:HP.A:=AF ⟨X6,trivial⟩
def LQ:List (Int×Int×Int×Int)→List (Int×Int×Int×Int):=HP.V
def NB:List (Int×Int×Int×Int)→Prop:=HP.O
theorem je:HP.B:=AG ⟨XY,trivial⟩ (by kernel_rfl) (fun x=>by kernel_rfl)
def gj:DCode:=(.seq [0] (.region [oa 0 2 (.mv (.c .nils))]) (.seq [3,0] (.region [on 0 5 0,oa 1 6 (.len (.t 5)),⟨2,some 7,.a false (.mkSlice 1 [.nils] (.t 6)) (some (.one (.sl An))),none,[]⟩,om 3 3 7]) (.seq [3] (.seq [4,3,0] (.region [oi 0 4 0]) (.block 0 (.loop [0,3,4] 1 (.seq [4,3,0] (.seq [11,4,3,0] (.region [om 0 8 4,on 1 9 0,oa 2 10 (.len (.t 9)),oa 3 11 (.bin .lss (.t 8) (.t 10))]) (.cond (.t 11) .skip (.exit 0))) (.seq [4,3,0] (.block 1 (.region [on 0 14 3,om 1 15 4,on 2 16 0,om 3 17 4,oa 4 18 (.indexA 1 (.t 16) (.t 17)),oa 5 19 (.loadH none (.t 18)),oF 6 20 HP [(.t 19)],oa 7 21 (.indexA 1 (.t 14) (.t 15)),os 8 (.storeH 1 (.t 21) (.t 20))])) (.region [om 0 12 4,oa 1 13 (.bin .add (.t 12) (.c (.int .i64 1))),om 2 4 13])))))) (.seq [2] (.region [om 0 22 3,om 1 2 22]) .ret))))
def HB:Fn:=⟨⟨1,23,0,false,[.tmp 2],gj⟩,[.one .frz (.sl (.one (.sl An)))],.one (.one .own (.sl (.one (.sl An))))⟩
theorem fF:HB.A:=AF ⟨iF,trivial⟩
def QD:List (List (Int×Int×Int×Int))→List (List (Int×Int×Int×Int)):=HB.V
def Qq:List (List (Int×Int×Int×Int))→Prop:=HB.O
theorem fE:HB.B:=AG ⟨je,trivial⟩ (by kernel_rfl) (fun x=>by kernel_rfl)
def km:DCode:=(.seq [2,1] (.region [oa 0 1 (.boxB 0 2 (.t 0)),oa 1 2 (.allocB 1 [(.int .i64 0),.nils])]) (.seq [3,2,1] (.region [oa 0 3 (.allocB 2 [(.int .i64 0),.nils])]) (.seq [3,2,1] (.region [oa 0 4 (.fieldA 0 (.t 1)),ob 1 5 (.loadB 0 none (.t 4)),oa 2 6 (.fieldA 0 (.t 3)),os 3 (.storeB 2 1 (.t 6) (.t 5))]) (.seq [3,2] (.region [oa 0 7 (.fieldA 1 (.t 1)),oa 1 8 (.loadB 0 none (.t 7)),oF 2 9 HB [(.t 8)],oa 3 10 (.fieldA 1 (.t 3)),os 4 (.storeB 2 1 (.t 10) (.t 9))]) (.seq [2] (.region [ob 0 11 (.loadB 2 (some 2) (.t 3)),os 1 (.storeB 1 2 (.t 2) (.t 11))]) .ret)))))
def H9:Fn:=⟨⟨1,12,3,false,[.cell 2 (some 2)],km⟩,[.agg [(.frz,.int .i64),(.frz,.sl (.one (.sl An)))]],.one (.agg [(.own,.int .i64),(.own,.sl (.one (.sl An)))])⟩
theorem jm:H9.A:=AF ⟨fF,trivial⟩
def NM:Int×(List (List (Int×Int×Int×Int)))→Int×(List (List (Int×Int×Int×Int))):=H9.V
def QV:Int×(List (List (Int×Int×Int×Int)))→Prop:=H9.O
theorem jF:H9.B:=AG ⟨fE,trivial⟩ (by kernel_rfl) (fun x=>by kernel_rfl)
def lE:DCode:=(.seq [1] (.region [oa 0 1 (.boxB 0 2 (.t 0)),oa 1 2 (.mv (.c (.bool false)))]) (.seq [1] (.seq [3,1] (.region [oi 0 3 0]) (.block 0 (.loop [1,3] 1 (.seq [3,1] (.seq [10,3,1] (.region [om 0 6 3,oa 1 7 (.fieldA 1 (.t 1)),oa 2 8 (.loadB 0 none (.t 7)),oa 3 9 (.len (.t 8)),oa 4 10 (.bin .lss (.t 6) (.t 9))]) (.cond (.t 10) .skip (.exit 0))) (.seq [3,1] (.block 1 (.seq [3,1] (.seq [21,3,1] (.region [oa 0 13 (.fieldA 1 (.t 1)),xA 1 14 (.loadB 0 none (.t 13)) (rg 1),om 2 15 3,xA 3 16 (.indexA 1 (.t 14) (.t 15)) (rg 3),xA 4 17 (.loadH none (.t 16)) (rg 4),xA 5 18 (.len (.t 17)) (rg 5),oa 6 19 (.fieldA 0 (.t 1)),xA 7 20 (.loadB 0 none (.t 19)) [6],xA 8 21 (.bin .neq (.t 18) (.t 20)) (rg 8)]) (.cond (.t 21) (.seq [2] (.region [oa 0 2 (.mv (.c (.bool false)))]) .ret) .skip)) (.seq [4,3,1] (.region [oi 0 4 0]) (.block 2 (.loop [1,3,4] 1 (.seq [4,3,1] (.seq [29,4,3,1] (.region [om 0 22 4,oa 1 23 (.fieldA 1 (.t 1)),oa 2 24 (.loadB 0 none (.t 23)),om 3 25 3,oa 4 26 (.indexA 1 (.t 24) (.t 25)),oa 5 27 (.loadH none (.t 26)),oa 6 28 (.len (.t 27)),oa 7 29 (.bin .lss (.t 22) (.t 28))]) (.cond (.t 29) .skip (.exit 2))) (.seq [4,3,1] (.block 3 (.seq [5,4,3,1] (.region [oa 0 32 (.fieldA 1 (.t 1)),oa 1 33 (.loadB 0 none (.t 32)),om 2 34 3,oa 3 35 (.indexA 1 (.t 33) (.t 34)),oa 4 36 (.loadH none (.t 35)),om 5 37 4,oa 6 38 (.indexA 4 (.t 36) (.t 37)),ob 7 39 (.loadH (some 4) (.t 38)),oa 8 5 (.allocB 1 [(.int .i64 0),(.int .i64 0),(.int .i64 0),(.int .i64 0)]),os 9 (.storeB 1 4 (.t 5) (.t 39))]) (.seq [64,4,3,1] (.region [oa 0 40 (.loadB 1 (some 4) (.t 5)),oF 1 41 C3 [(.t 40)],oa 2 42 (.un .not (.t 41)),om 3 43 42,og 4 44 (.fieldA 0 (.t 5)) 43 false,og 5 45 (.loadB 1 none (.t 44)) 43 false,og 6 46 (.bin .eql (.t 45) (.c (.int .i64 1))) 43 false,og 7 47 (.mv (.t 46)) 43 false,og 8 48 (.mv (.t 3)) 47 true,og 9 49 (.bin .eql (.t 48) (.c (.int .i64 0))) 47 true,og 10 50 (.pick (.t 47) (.t 49) (.c (.bool false))) 43 false,oa 11 51 (.pick (.t 43) (.c (.bool true)) (.t 50)),om 12 52 51,og 13 53 (.fieldA 0 (.t 5)) 52 false,og 14 54 (.loadB 1 none (.t 53)) 52 false,og 15 55 (.bin .neq (.t 54) (.c (.int .i64 9))) 52 false,og 16 56 (.mv (.t 55)) 52 false,og 17 57 (.fieldA 3 (.t 5)) 56 true,og 18 58 (.loadB 1 none (.t 57)) 56 true,og 19 59 (.fieldA 1 (.t 1)) 56 true,og 20 60 (.loadB 0 none (.t 59)) 56 true,og 21 61 (.len (.t 60)) 56 true,og 22 62 (.bin .geq (.t 58) (.t 61)) 56 true,og 23 63 (.pick (.t 56) (.t 62) (.c (.bool false))) 52 false,oa 24 64 (.pick (.t 52) (.c (.bool true)) (.t 63))]) (.cond (.t 64) (.seq [2] (.region [oa 0 2 (.mv (.c (.bool false)))]) .ret) .skip)))) (.region [om 0 30 4,oa 1 31 (.bin .add (.t 30) (.c (.int .i64 1))),om 2 4 31])))))))) (.region [om 0 11 3,oa 1 12 (.bin .add (.t 11) (.c (.int .i64 1))),om 2 3 12])))))) (.seq [2] (.region [oa 0 65 (.fieldA 0 (.t 1)),oa 1 66 (.loadB 0 none (.t 65)),oF 2 67 AO [(.t 66),(.c (.int .i64 1)),(.c (.int .i64 32))],om 3 68 67,og 4 69 (.fieldA 1 (.t 1)) 68 true,og 5 70 (.loadB 0 none (.t 69)) 68 true,og 6 71 (.len (.t 70)) 68 true,⟨7,some 72,.call false AO.S AO.P AO.D [(.t 71),(.c (.int .i64 1)),(.c (.int .i64 4))],(some (68,true)),[]⟩,oa 8 73 (.pick (.t 68) (.t 72) (.c (.bool false))),om 9 2 73]) .ret)))
def Ia:Fn:=⟨⟨1,74,2,true,[.tmp 2],lE⟩,[.agg [(.frz,.int .i64),(.frz,.sl (.one (.sl An)))]],.one (.one .own (.bool))⟩
theorem jn:Ia.A:=AF ⟨Q7,CR,CR,trivial⟩
def Jp:Int×(List (List (Int×Int×Int×Int)))→Bool:=Ia.V
def Q5:Int×(List (List (Int×Int×Int×Int)))→Prop:=Ia.O
theorem ko:Ia.B:=AG ⟨QK,CS,CS,trivial⟩ (by kernel_rfl) (fun x=>by kernel_rfl)
def k8:DCode:=(.seq [1] (.region [oa 0 1 (.boxB 0 2 (.t 0)),oa 1 2 (.mv (.c (.bool false)))]) (.seq [1] (.seq [26,1] (.region [oa 0 7 (.fieldA 0 (.t 1)),oa 1 8 (.loadB 0 none (.t 7)),oa 2 9 (.bin .lss (.t 8) (.c (.int .i64 1))),om 3 10 9,og 4 11 (.fieldA 0 (.t 1)) 10 false,og 5 12 (.loadB 0 none (.t 11)) 10 false,og 6 13 (.bin .gtr (.t 12) (.c (.int .i64 32))) 10 false,oa 7 14 (.pick (.t 10) (.c (.bool true)) (.t 13)),om 8 15 14,og 9 16 (.fieldA 1 (.t 1)) 15 false,og 10 17 (.loadB 0 none (.t 16)) 15 false,og 11 18 (.len (.t 17)) 15 false,og 12 19 (.bin .lss (.t 18) (.c (.int .i64 1))) 15 false,oa 13 20 (.pick (.t 15) (.c (.bool true)) (.t 19)),om 14 21 20,og 15 22 (.fieldA 1 (.t 1)) 21 false,og 16 23 (.loadB 0 none (.t 22)) 21 false,og 17 24 (.len (.t 23)) 21 false,og 18 25 (.bin .gtr (.t 24) (.c (.int .i64 4))) 21 false,oa 19 26 (.pick (.t 21) (.c (.bool true)) (.t 25))]) (.cond (.t 26) (.seq [2] (.region [oa 0 2 (.mv (.c (.bool false)))]) .ret) .skip)) (.seq [] (.seq [30,29,28,1] (.region [oa 0 27 (.fieldA 1 (.t 1)),oa 1 28 (.loadB 0 none (.t 27)),oa 2 29 (.len (.t 28)),oi 3 30 0]) (.block 0 (.loop [1,28,29,30] 1 (.seq [31,30,29,28,1] (.region [oa 0 31 (.bin .lss (.t 30) (.t 29))]) (.seq [30,29,28,1] (.cond (.t 31) .skip (.exit 0)) (.seq [30,29,28,1] (.block 1 (.seq [30,29,28,4,3,1] (.region [om 0 32 30,oa 1 33 (.indexA 1 (.t 28) (.t 30)),oa 2 34 (.loadH none (.t 33)),om 3 3 32,on 4 4 34]) (.seq [30,29,28,4,3,1] (.seq [39,30,29,28,4,3,1] (.region [on 0 35 4,oa 1 36 (.len (.t 35)),oa 2 37 (.fieldA 0 (.t 1)),oa 3 38 (.loadB 0 none (.t 37)),oa 4 39 (.bin .neq (.t 36) (.t 38))]) (.cond (.t 39) (.seq [2] (.region [oa 0 2 (.mv (.c (.bool false)))]) .ret) .skip)) (.seq [42,41,40,30,29,28,3,1] (.region [on 0 40 4,oa 1 41 (.len (.t 40)),oi 2 42 0]) (.block 2 (.loop [1,3,28,29,30,40,41,42] 1 (.seq [43,42,41,40,30,29,28,3,1] (.region [oa 0 43 (.bin .lss (.t 42) (.t 41))]) (.seq [42,41,40,30,29,28,3,1] (.cond (.t 43) .skip (.exit 2)) (.seq [42,41,40,30,29,28,3,1] (.block 3 (.seq [42,41,40,30,29,28,6,3,1] (.region [oa 0 44 (.indexA 4 (.t 40) (.t 42)),ob 1 45 (.loadH (some 4) (.t 44)),oa 2 6 (.allocB 1 [(.int .i64 0),(.int .i64 0),(.int .i64 0),(.int .i64 0)]),os 3 (.storeB 1 4 (.t 6) (.t 45))]) (.seq [70,42,41,40,30,29,28,3,1] (.region [oa 0 46 (.loadB 1 (some 4) (.t 6)),oF 1 47 D5 [(.t 46)],oa 2 48 (.un .not (.t 47)),om 3 49 48,og 4 50 (.mv (.t 3)) 49 false,og 5 51 (.bin .eql (.t 50) (.c (.int .i64 0))) 49 false,og 6 52 (.mv (.t 51)) 49 false,og 7 53 (.fieldA 0 (.t 6)) 52 true,og 8 54 (.loadB 1 none (.t 53)) 52 true,og 9 55 (.bin .eql (.t 54) (.c (.int .i64 1))) 52 true,og 10 56 (.pick (.t 52) (.t 55) (.c (.bool false))) 49 false,oa 11 57 (.pick (.t 49) (.c (.bool true)) (.t 56)),om 12 58 57,og 13 59 (.fieldA 0 (.t 6)) 58 false,og 14 60 (.loadB 1 none (.t 59)) 58 false,og 15 61 (.bin .neq (.t 60) (.c (.int .i64 9))) 58 false,og 16 62 (.mv (.t 61)) 58 false,og 17 63 (.fieldA 3 (.t 6)) 62 true,og 18 64 (.loadB 1 none (.t 63)) 62 true,og 19 65 (.fieldA 1 (.t 1)) 62 true,og 20 66 (.loadB 0 none (.t 65)) 62 true,og 21 67 (.len (.t 66)) 62 true,og 22 68 (.bin .geq (.t 64) (.t 67)) 62 true,og 23 69 (.pick (.t 62) (.t 68) (.c (.bool false))) 58 false,oa 24 70 (.pick (.t 58) (.c (.bool true)) (.t 69))]) (.cond (.t 70) (.seq [2] (.region [oa 0 2 (.mv (.c (.bool false)))]) .ret) .skip)))) (.region [oa 0 71 (.bin .add (.t 42) (.c (.int .i64 1))),om 1 42 71])))))))))) (.region [oa 0 72 (.bin .add (.t 30) (.c (.int .i64 1))),om 1 30 72]))))))) (.seq [2] (.region [oa 0 2 (.mv (.c (.bool true)))]) .ret))))
def Ic:Fn:=⟨⟨1,73,2,true,[.tmp 2],k8⟩,[.agg [(.frz,.int .i64),(.frz,.sl (.one (.sl An)))]],.one (.one .own (.bool))⟩
theorem lG:Ic.A:=AF ⟨Uo,trivial⟩
def GM:Int×(List (List (Int×Int×Int×Int)))→Bool:=Ic.V
def QU:Int×(List (List (Int×Int×Int×Int)))→Prop:=Ic.O
theorem kZ:Ic.B:=AG ⟨Up,trivial⟩ (by kernel_rfl) (fun x=>by kernel_rfl)
def iX:DCode:=(.seq [1,0] (.region [oa 0 4 (.mv (.c (.bool false)))]) (.seq [1,0] (.seq [10,1,0] (.region [on 0 6 0,oa 1 7 (.len (.t 6)),on 2 8 1,oa 3 9 (.len (.t 8)),oa 4 10 (.bin .neq (.t 7) (.t 9))]) (.cond (.t 10) (.seq [4] (.region [oa 0 4 (.mv (.c (.bool false)))]) .ret) .skip)) (.seq [] (.seq [5,1,0] (.region [oi 0 5 0]) (.block 0 (.loop [0,1,5] 1 (.seq [5,1,0] (.seq [14,5,1,0] (.region [om 0 11 5,on 1 12 0,oa 2 13 (.len (.t 12)),oa 3 14 (.bin .lss (.t 11) (.t 13))]) (.cond (.t 14) .skip (.exit 0))) (.seq [5,1,0] (.block 1 (.seq [26,5,1,0] (.region [on 0 17 0,om 1 18 5,xA 2 19 (.indexA 4 (.t 17) (.t 18)) (rg 2),xA 3 20 (.loadH (some 4) (.t 19)) (rg 3),on 4 21 1,om 5 22 5,xA 6 23 (.indexA 4 (.t 21) (.t 22)) [4,5],xA 7 24 (.loadH (some 4) (.t 23)) [4,5,6],xF 8 25 F9 [(.t 20),(.t 24)] (rg 8),xA 9 26 (.un .not (.t 25)) (rg 9)]) (.cond (.t 26) (.seq [4] (.region [oa 0 4 (.mv (.c (.bool false)))]) .ret) .skip))) (.region [om 0 15 5,oa 1 16 (.bin .add (.t 15) (.c (.int .i64 1))),om 2 5 16])))))) (.seq [4] (.region [oa 0 4 (.mv (.c (.bool true)))]) .ret))))
def HV:Fn:=⟨⟨2,27,0,true,[.tmp 4],iX⟩,[.one .frz (.sl An),.one .frz (.sl An)],.one (.one .own (.bool))⟩
theorem hZ:HV.A:=AF ⟨X5,trivial⟩
def HN:(List (Int×Int×Int×Int))×(List (Int×Int×Int×Int))→Bool:=HV.V
def NA:(List (Int×Int×Int×Int))×(List (Int×Int×Int×Int))→Prop:=HV.O
theorem jg:HV.B:=AG ⟨XZ,trivial⟩ (by kernel_rfl) (fun x=>by kernel_rfl)
def fq:DCode:=(.seq [1,0] (.region [oa 0 4 (.mv (.c (.bool false)))]) (.seq [1,0] (.seq [10,1,0] (.region [on 0 6 0,oa 1 7 (.len (.t 6)),on 2 8 1,oa 3 9 (.len (.t 8)),oa 4 10 (.bin .neq (.t 7) (.t 9))]) (.cond (.t 10) (.seq [4] (.region [oa 0 4 (.mv (.c (.bool false)))]) .ret) .skip)) (.seq [] (.seq [5,1,0] (.region [oi 0 5 0]) (.block 0 (.loop [0,1,5] 1 (.seq [5,1,0] (.seq [14,5,1,0] (.region [om 0 11 5,on 1 12 0,oa 2 13 (.len (.t 12)),oa 3 14 (.bin .lss (.t 11) (.t 13))]) (.cond (.t 14) .skip (.exit 0))) (.seq [5,1,0] (.block 1 (.seq [26,5,1,0] (.region [on 0 17 0,om 1 18 5,xA 2 19 (.indexA 1 (.t 17) (.t 18)) (rg 2),xA 3 20 (.loadH none (.t 19)) (rg 3),on 4 21 1,om 5 22 5,xA 6 23 (.indexA 1 (.t 21) (.t 22)) [4,5],xA 7 24 (.loadH none (.t 23)) [4,5,6],xF 8 25 HV [(.t 20),(.t 24)] (rg 8),xA 9 26 (.un .not (.t 25)) (rg 9)]) (.cond (.t 26) (.seq [4] (.region [oa 0 4 (.mv (.c (.bool false)))]) .ret) .skip))) (.region [om 0 15 5,oa 1 16 (.bin .add (.t 15) (.c (.int .i64 1))),om 2 5 16])))))) (.seq [4] (.region [oa 0 4 (.mv (.c (.bool true)))]) .ret))))
def HA:Fn:=⟨⟨2,27,0,true,[.tmp 4],fq⟩,[.one .frz (.sl (.one (.sl An))),.one .frz (.sl (.one (.sl An)))],.one (.one .own (.bool))⟩
theorem gb:HA.A:=AF ⟨hZ,trivial⟩
def QC:(List (List (Int×Int×Int×Int)))×(List (List (Int×Int×Int×Int)))→Bool:=HA.V
def Qw:(List (List (Int×Int×Int×Int)))×(List (List (Int×Int×Int×Int)))→Prop:=HA.O
theorem fU:HA.B:=AG ⟨jg,trivial⟩ (by kernel_rfl) (fun x=>by kernel_rfl)
def kj:DCode:=(.seq [3,2] (.region [oa 0 2 (.boxB 0 2 (.t 0)),oa 1 3 (.boxB 1 2 (.t 1)),oa 2 4 (.mv (.c (.bool false)))]) (.seq [3,2] (.seq [9,3,2] (.region [oa 0 5 (.fieldA 0 (.t 2)),oa 1 6 (.loadB 0 none (.t 5)),oa 2 7 (.fieldA 0 (.t 3)),oa 3 8 (.loadB 1 none (.t 7)),oa 4 9 (.bin .neq (.t 6) (.t 8))]) (.cond (.t 9) (.seq [4] (.region [oa 0 4 (.mv (.c (.bool false)))]) .ret) .skip)) (.seq [] (.seq [15] (.region [oa 0 10 (.fieldA 1 (.t 2)),oa 1 11 (.loadB 0 none (.t 10)),oa 2 12 (.fieldA 1 (.t 3)),oa 3 13 (.loadB 1 none (.t 12)),oF 4 14 HA [(.t 11),(.t 13)],oa 5 15 (.un .not (.t 14))]) (.cond (.t 15) (.seq [4] (.region [oa 0 4 (.mv (.c (.bool false)))]) .ret) .skip)) (.seq [4] (.region [oa 0 4 (.mv (.c (.bool true)))]) .ret))))
def H4:Fn:=⟨⟨2,16,2,true,[.tmp 4],kj⟩,[.agg [(.frz,.int .i64),(.frz,.sl (.one (.sl An)))],.agg [(.frz,.int .i64),(.frz,.sl (.one (.sl An)))]],.one (.one .own (.bool))⟩
theorem kv:H4.A:=AF ⟨gb,trivial⟩
def LS:(Int×(List (List (Int×Int×Int×Int))))×(Int×(List (List (Int×Int×Int×Int))))→Bool:=H4.V
def Q6:(Int×(List (List (Int×Int×Int×Int))))×(Int×(List (List (Int×Int×Int×Int))))→Prop:=H4.O
theorem jQ:H4.B:=AG ⟨fU,trivial⟩ (by kernel_rfl) (fun x=>by kernel_rfl)
end
section
set_option maxRecDepth 100000
theorem iT (x):Di x=(bSel (iLt (iSub .i64 x.2 (lLen x.1)) 0) (-1) (iSub .i64 x.2 (lLen x.1))):=(HO.v x).trans (by kernel_rfl)
theorem iZ (x):Ny x=True:=(HO.o x).trans (by kernel_rfl)
theorem fM (x):Jl x=(bSel (iLt (iSub .i64 x.2 (lLen x.1)) 0) (-1) (bSel (iLt (Aq (fun(x0:(Int×Int))=>(bAnd (iLt x0.2 (lLen x.1)) (bNot (iLt (Di ((lGet x.1 (iNat x0.2) []),x0.1)) 0)))) (fun(x0:(Int×Int))=>((Di ((lGet x.1 (iNat x0.2) []),x0.1)),(iAdd .i64 x0.2 1))) ((iSub .i64 x.2 (lLen x.1)),0)).2 (lLen x.1)) (-1) (Aq (fun(x0:(Int×Int))=>(bAnd (iLt x0.2 (lLen x.1)) (bNot (iLt (Di ((lGet x.1 (iNat x0.2) []),x0.1)) 0)))) (fun(x0:(Int×Int))=>((Di ((lGet x.1 (iNat x0.2) []),x0.1)),(iAdd .i64 x0.2 1))) ((iSub .i64 x.2 (lLen x.1)),0)).1)):=(HK.v x).trans (by kernel_rfl)
theorem gl (x):Qj x=(((iLt (iSub .i64 x.2 (lLen x.1)) 0)=true→True)∧((iLt (iSub .i64 x.2 (lLen x.1)) 0)=false→(LoopOk (fun(x0:(Int×Int))=>(bAnd (iLt x0.2 (lLen x.1)) (bNot (iLt (Di ((lGet x.1 (iNat x0.2) []),x0.1)) 0)))) (fun(x0:(Int×Int))=>((Di ((lGet x.1 (iNat x0.2) []),x0.1)),(iAdd .i64 x0.2 1))) (fun(x0:(Int×Int))=>(((iLt x0.2 (lLen x.1))=true→((((0:Int)≤x0.2)∧(x0.2<(((List.length x.1):Int))))∧(((iNat x0.2)<(List.length x.1))∧(Ny ((lGet x.1 (iNat x0.2) []),x0.1)))))∧((iLt x0.2 (lLen x.1))=false→True))) ((iSub .i64 x.2 (lLen x.1)),0)))):=(HK.o x).trans (by kernel_rfl)
theorem kJ (x):DI x=(bSel (iLt (Jl (x.1.2,x.2)) 0) (-1) (Jl (x.1.2,x.2))):=(HZ.v x).trans (by kernel_rfl)
theorem lA (x):QJ x=(Qj (x.1.2,x.2)):=(HZ.o x).trans (by kernel_rfl)
theorem ia (x):LQ x=(Aq (fun(x0:((List (Int×(Int×(Int×Int))))×Int))=>(iLt x0.2 (lLen x))) (fun(x0:((List (Int×(Int×(Int×Int))))×Int))=>((lSet x0.1 (iNat x0.2) ((DH ((lGet x (iNat x0.2) (0,0,0,0)).1,(lGet x (iNat x0.2) (0,0,0,0)).2.1,(lGet x (iNat x0.2) (0,0,0,0)).2.2.1,(lGet x (iNat x0.2) (0,0,0,0)).2.2.2)).1,(DH ((lGet x (iNat x0.2) (0,0,0,0)).1,(lGet x (iNat x0.2) (0,0,0,0)).2.1,(lGet x (iNat x0.2) (0,0,0,0)).2.2.1,(lGet x (iNat x0.2) (0,0,0,0)).2.2.2)).2.1,(DH ((lGet x (iNat x0.2) (0,0,0,0)).1,(lGet x (iNat x0.2) (0,0,0,0)).2.1,(lGet x (iNat x0.2) (0,0,0,0)).2.2.1,(lGet x (iNat x0.2) (0,0,0,0)).2.2.2)).2.2.1,(DH ((lGet x (iNat x0.2) (0,0,0,0)).1,(lGet x (iNat x0.2) (0,0,0,0)).2.1,(lGet x (iNat x0.2) (0,0,0,0)).2.2.1,(lGet x (iNat x0.2) (0,0,0,0)).2.2.2)).2.2.2)),(iAdd .i64 x0.2 1))) ((lRep (lLen x) (0,0,0,0)),0)).1:=(HP.v x).trans (by kernel_rfl)
theorem gY (x):NB x=((((0:Int)≤(lLen x))∧(AN ((Int.toNat (lLen x))*4)))∧(LoopOk (fun(x0:((List (Int×(Int×(Int×Int))))×Int))=>(iLt x0.2 (lLen x))) (fun(x0:((List (Int×(Int×(Int×Int))))×Int))=>((lSet x0.1 (iNat x0.2) ((DH ((lGet x (iNat x0.2) (0,0,0,0)).1,(lGet x (iNat x0.2) (0,0,0,0)).2.1,(lGet x (iNat x0.2) (0,0,0,0)).2.2.1,(lGet x (iNat x0.2) (0,0,0,0)).2.2.2)).1,(DH ((lGet x (iNat x0.2) (0,0,0,0)).1,(lGet x (iNat x0.2) (0,0,0,0)).2.1,(lGet x (iNat x0.2) (0,0,0,0)).2.2.1,(lGet x (iNat x0.2) (0,0,0,0)).2.2.2)).2.1,(DH ((lGet x (iNat x0.2) (0,0,0,0)).1,(lGet x (iNat x0.2) (0,0,0,0)).2.1,(lGet x (iNat x0.2) (0,0,0,0)).2.2.1,(lGet x (iNat x0.2) (0,0,0,0)).2.2.2)).2.2.1,(DH ((lGet x (iNat x0.2) (0,0,0,0)).1,(lGet x (iNat x0.2) (0,0,0,0)).2.1,(lGet x (iNat x0.2) (0,0,0,0)).2.2.1,(lGet x (iNat x0.2) (0,0,0,0)).2.2.2)).2.2.2)),(iAdd .i64 x0.2 1))) (fun(x0:((List (Int×(Int×(Int×Int))))×Int))=>(((iLt x0.2 (lLen x))=true→((((0:Int)≤x0.2)∧(x0.2<(((List.length x):Int))))∧(((iNat x0.2)<(List.length x))∧((LJ ((lGet x (iNat x0.2) (0,0,0,0)).1,(lGet x (iNat x0.2) (0,0,0,0)).2.1,(lGet x (iNat x0.2) (0,0,0,0)).2.2.1,(lGet x (iNat x0.2) (0,0,0,0)).2.2.2))∧((((0:Int)≤x0.2)∧(x0.2<(((List.length x0.1):Int))))∧((iNat x0.2)<(List.length x0.1)))))))∧((iLt x0.2 (lLen x))=false→True))) ((lRep (lLen x) (0,0,0,0)),0))):=(HP.o x).trans (by kernel_rfl)
theorem fP (x):QD x=(Aq (fun(x0:((List (List (Int×(Int×(Int×Int)))))×Int))=>(iLt x0.2 (lLen x))) (fun(x0:((List (List (Int×(Int×(Int×Int)))))×Int))=>((lSet x0.1 (iNat x0.2) (LQ (lGet x (iNat x0.2) []))),(iAdd .i64 x0.2 1))) ((lRep (lLen x) []),0)).1:=(HB.v x).trans (by kernel_rfl)
theorem ft (x):Qq x=((((0:Int)≤(lLen x))∧(AN ((Int.toNat (lLen x))*1)))∧(LoopOk (fun(x0:((List (List (Int×(Int×(Int×Int)))))×Int))=>(iLt x0.2 (lLen x))) (fun(x0:((List (List (Int×(Int×(Int×Int)))))×Int))=>((lSet x0.1 (iNat x0.2) (LQ (lGet x (iNat x0.2) []))),(iAdd .i64 x0.2 1))) (fun(x0:((List (List (Int×(Int×(Int×Int)))))×Int))=>(((iLt x0.2 (lLen x))=true→((((0:Int)≤x0.2)∧(x0.2<(((List.length x):Int))))∧(((iNat x0.2)<(List.length x))∧((NB (lGet x (iNat x0.2) []))∧((((0:Int)≤x0.2)∧(x0.2<(((List.length x0.1):Int))))∧((iNat x0.2)<(List.length x0.1)))))))∧((iLt x0.2 (lLen x))=false→True))) ((lRep (lLen x) []),0))):=(HB.o x).trans (by kernel_rfl)
theorem jE (x):NM x=(x.1,(QD x.2)):=(H9.v x).trans (by kernel_rfl)
theorem jN (x):QV x=(Qq x.2):=(H9.o x).trans (by kernel_rfl)
theorem jZ (x):Jp x=(bAnd (bNot (iLt (Aq (fun(x0:Int)=>(bAnd (iLt x0 (lLen x.2)) (bAnd (bNot (iNe (lLen (lGet x.2 (iNat x0) [])) x.1)) (bNot (iLt (Aq (fun(x1:Int)=>(bAnd (iLt x1 (lLen (lGet x.2 (iNat x0) []))) (bNot (bOr (bNot (CP ((lGet (lGet x.2 (iNat x0) []) (iNat x1) (0,0,0,0)).1,(lGet (lGet x.2 (iNat x0) []) (iNat x1) (0,0,0,0)).2.1,(lGet (lGet x.2 (iNat x0) []) (iNat x1) (0,0,0,0)).2.2.1,(lGet (lGet x.2 (iNat x0) []) (iNat x1) (0,0,0,0)).2.2.2))) (bSel (iEq (lGet (lGet x.2 (iNat x0) []) (iNat x1) (0,0,0,0)).1 1) (bOr (iEq x0 0) (bAnd (iNe (lGet (lGet x.2 (iNat x0) []) (iNat x1) (0,0,0,0)).1 9) (iGe (lGet (lGet x.2 (iNat x0) []) (iNat x1) (0,0,0,0)).2.2.2 (lLen x.2)))) (bAnd (iNe (lGet (lGet x.2 (iNat x0) []) (iNat x1) (0,0,0,0)).1 9) (iGe (lGet (lGet x.2 (iNat x0) []) (iNat x1) (0,0,0,0)).2.2.2 (lLen x.2)))))))) (fun(x1:Int)=>(iAdd .i64 x1 1)) 0) (lLen (lGet x.2 (iNat x0) []))))))) (fun(x0:Int)=>(iAdd .i64 x0 1)) 0) (lLen x.2))) (bAnd (AP (x.1,1,32)) (AP ((lLen x.2),1,4)))):=(Ia.v x).trans (by kernel_rfl)
theorem jK (x):Q5 x=((LoopOk (fun(x0:Int)=>(bAnd (iLt x0 (lLen x.2)) (bAnd (bNot (iNe (lLen (lGet x.2 (iNat x0) [])) x.1)) (bNot (iLt (Aq (fun(x1:Int)=>(bAnd (iLt x1 (lLen (lGet x.2 (iNat x0) []))) (bNot (bOr (bNot (CP ((lGet (lGet x.2 (iNat x0) []) (iNat x1) (0,0,0,0)).1,(lGet (lGet x.2 (iNat x0) []) (iNat x1) (0,0,0,0)).2.1,(lGet (lGet x.2 (iNat x0) []) (iNat x1) (0,0,0,0)).2.2.1,(lGet (lGet x.2 (iNat x0) []) (iNat x1) (0,0,0,0)).2.2.2))) (bSel (iEq (lGet (lGet x.2 (iNat x0) []) (iNat x1) (0,0,0,0)).1 1) (bOr (iEq x0 0) (bAnd (iNe (lGet (lGet x.2 (iNat x0) []) (iNat x1) (0,0,0,0)).1 9) (iGe (lGet (lGet x.2 (iNat x0) []) (iNat x1) (0,0,0,0)).2.2.2 (lLen x.2)))) (bAnd (iNe (lGet (lGet x.2 (iNat x0) []) (iNat x1) (0,0,0,0)).1 9) (iGe (lGet (lGet x.2 (iNat x0) []) (iNat x1) (0,0,0,0)).2.2.2 (lLen x.2)))))))) (fun(x1:Int)=>(iAdd .i64 x1 1)) 0) (lLen (lGet x.2 (iNat x0) []))))))) (fun(x0:Int)=>(iAdd .i64 x0 1)) (fun(x0:Int)=>(((iLt x0 (lLen x.2))=true→((((0:Int)≤x0)∧(x0<(((List.length x.2):Int))))∧(((iNat x0)<(List.length x.2))∧(((iNe (lLen (lGet x.2 (iNat x0) [])) x.1)=true→True)∧((iNe (lLen (lGet x.2 (iNat x0) [])) x.1)=false→(LoopOk (fun(x1:Int)=>(bAnd (iLt x1 (lLen (lGet x.2 (iNat x0) []))) (bNot (bOr (bNot (CP ((lGet (lGet x.2 (iNat x0) []) (iNat x1) (0,0,0,0)).1,(lGet (lGet x.2 (iNat x0) []) (iNat x1) (0,0,0,0)).2.1,(lGet (lGet x.2 (iNat x0) []) (iNat x1) (0,0,0,0)).2.2.1,(lGet (lGet x.2 (iNat x0) []) (iNat x1) (0,0,0,0)).2.2.2))) (bSel (iEq (lGet (lGet x.2 (iNat x0) []) (iNat x1) (0,0,0,0)).1 1) (bOr (iEq x0 0) (bAnd (iNe (lGet (lGet x.2 (iNat x0) []) (iNat x1) (0,0,0,0)).1 9) (iGe (lGet (lGet x.2 (iNat x0) []) (iNat x1) (0,0,0,0)).2.2.2 (lLen x.2)))) (bAnd (iNe (lGet (lGet x.2 (iNat x0) []) (iNat x1) (0,0,0,0)).1 9) (iGe (lGet (lGet x.2 (iNat x0) []) (iNat x1) (0,0,0,0)).2.2.2 (lLen x.2)))))))) (fun(x1:Int)=>(iAdd .i64 x1 1)) (fun(x1:Int)=>((((0:Int)≤x0)∧(x0<(((List.length x.2):Int))))∧(((iNat x0)<(List.length x.2))∧(((iLt x1 (lLen (lGet x.2 (iNat x0) [])))=true→((((0:Int)≤x0)∧(x0<(((List.length x.2):Int))))∧(((iNat x0)<(List.length x.2))∧((((0:Int)≤x1)∧(x1<(((List.length (lGet x.2 (iNat x0) [])):Int))))∧(((iNat x1)<(List.length (lGet x.2 (iNat x0) [])))∧(Kq ((lGet (lGet x.2 (iNat x0) []) (iNat x1) (0,0,0,0)).1,(lGet (lGet x.2 (iNat x0) []) (iNat x1) (0,0,0,0)).2.1,(lGet (lGet x.2 (iNat x0) []) (iNat x1) (0,0,0,0)).2.2.1,(lGet (lGet x.2 (iNat x0) []) (iNat x1) (0,0,0,0)).2.2.2)))))))∧((iLt x1 (lLen (lGet x.2 (iNat x0) [])))=false→True))))) 0))))))∧((iLt x0 (lLen x.2))=false→True))) 0)∧(((iLt (Aq (fun(x0:Int)=>(bAnd (iLt x0 (lLen x.2)) (bAnd (bNot (iNe (lLen (lGet x.2 (iNat x0) [])) x.1)) (bNot (iLt (Aq (fun(x1:Int)=>(bAnd (iLt x1 (lLen (lGet x.2 (iNat x0) []))) (bNot (bOr (bNot (CP ((lGet (lGet x.2 (iNat x0) []) (iNat x1) (0,0,0,0)).1,(lGet (lGet x.2 (iNat x0) []) (iNat x1) (0,0,0,0)).2.1,(lGet (lGet x.2 (iNat x0) []) (iNat x1) (0,0,0,0)).2.2.1,(lGet (lGet x.2 (iNat x0) []) (iNat x1) (0,0,0,0)).2.2.2))) (bSel (iEq (lGet (lGet x.2 (iNat x0) []) (iNat x1) (0,0,0,0)).1 1) (bOr (iEq x0 0) (bAnd (iNe (lGet (lGet x.2 (iNat x0) []) (iNat x1) (0,0,0,0)).1 9) (iGe (lGet (lGet x.2 (iNat x0) []) (iNat x1) (0,0,0,0)).2.2.2 (lLen x.2)))) (bAnd (iNe (lGet (lGet x.2 (iNat x0) []) (iNat x1) (0,0,0,0)).1 9) (iGe (lGet (lGet x.2 (iNat x0) []) (iNat x1) (0,0,0,0)).2.2.2 (lLen x.2)))))))) (fun(x1:Int)=>(iAdd .i64 x1 1)) 0) (lLen (lGet x.2 (iNat x0) []))))))) (fun(x0:Int)=>(iAdd .i64 x0 1)) 0) (lLen x.2))=true→True)∧((iLt (Aq (fun(x0:Int)=>(bAnd (iLt x0 (lLen x.2)) (bAnd (bNot (iNe (lLen (lGet x.2 (iNat x0) [])) x.1)) (bNot (iLt (Aq (fun(x1:Int)=>(bAnd (iLt x1 (lLen (lGet x.2 (iNat x0) []))) (bNot (bOr (bNot (CP ((lGet (lGet x.2 (iNat x0) []) (iNat x1) (0,0,0,0)).1,(lGet (lGet x.2 (iNat x0) []) (iNat x1) (0,0,0,0)).2.1,(lGet (lGet x.2 (iNat x0) []) (iNat x1) (0,0,0,0)).2.2.1,(lGet (lGet x.2 (iNat x0) []) (iNat x1) (0,0,0,0)).2.2.2))) (bSel (iEq (lGet (lGet x.2 (iNat x0) []) (iNat x1) (0,0,0,0)).1 1) (bOr (iEq x0 0) (bAnd (iNe (lGet (lGet x.2 (iNat x0) []) (iNat x1) (0,0,0,0)).1 9) (iGe (lGet (lGet x.2 (iNat x0) []) (iNat x1) (0,0,0,0)).2.2.2 (lLen x.2)))) (bAnd (iNe (lGet (lGet x.2 (iNat x0) []) (iNat x1) (0,0,0,0)).1 9) (iGe (lGet (lGet x.2 (iNat x0) []) (iNat x1) (0,0,0,0)).2.2.2 (lLen x.2)))))))) (fun(x1:Int)=>(iAdd .i64 x1 1)) 0) (lLen (lGet x.2 (iNat x0) []))))))) (fun(x0:Int)=>(iAdd .i64 x0 1)) 0) (lLen x.2))=false→((Cp (x.1,1,32))∧(((AP (x.1,1,32))=true→(Cp ((lLen x.2),1,4)))∧((AP (x.1,1,32))=false→True)))))):=(Ia.o x).trans (by kernel_rfl)
theorem X8 (x):GM x=(bAnd (bNot (bOr (iLt x.1 1) (bOr (iGt x.1 32) (bOr (iLt (lLen x.2) 1) (iGt (lLen x.2) 4))))) (bNot (iLt (Aq (fun(x0:Int)=>(bAnd (iLt x0 (lLen x.2)) (bAnd (bNot (iNe (lLen (lGet x.2 (iNat x0) [])) x.1)) (bNot (iLt (Aq (fun(x1:Int)=>(bAnd (iLt x1 (lLen (lGet x.2 (iNat x0) []))) (bNot (bOr (bNot (CQ ((lGet (lGet x.2 (iNat x0) []) (iNat x1) (0,0,0,0)).1,(lGet (lGet x.2 (iNat x0) []) (iNat x1) (0,0,0,0)).2.1,(lGet (lGet x.2 (iNat x0) []) (iNat x1) (0,0,0,0)).2.2.1,(lGet (lGet x.2 (iNat x0) []) (iNat x1) (0,0,0,0)).2.2.2))) (bSel (iEq x0 0) (bOr (iEq (lGet (lGet x.2 (iNat x0) []) (iNat x1) (0,0,0,0)).1 1) (bAnd (iNe (lGet (lGet x.2 (iNat x0) []) (iNat x1) (0,0,0,0)).1 9) (iGe (lGet (lGet x.2 (iNat x0) []) (iNat x1) (0,0,0,0)).2.2.2 (lLen x.2)))) (bAnd (iNe (lGet (lGet x.2 (iNat x0) []) (iNat x1) (0,0,0,0)).1 9) (iGe (lGet (lGet x.2 (iNat x0) []) (iNat x1) (0,0,0,0)).2.2.2 (lLen x.2)))))))) (fun(x1:Int)=>(iAdd .i64 x1 1)) 0) (lLen (lGet x.2 (iNat x0) []))))))) (fun(x0:Int)=>(iAdd .i64 x0 1)) 0) (lLen x.2)))):=(Ic.v x).trans (by kernel_rfl)
theorem lq (x):QU x=(((bOr (iLt x.1 1) (bOr (iGt x.1 32) (bOr (iLt (lLen x.2) 1) (iGt (lLen x.2) 4))))=true→True)∧((bOr (iLt x.1 1) (bOr (iGt x.1 32) (bOr (iLt (lLen x.2) 1) (iGt (lLen x.2) 4))))=false→(LoopOk (fun(x0:Int)=>(bAnd (iLt x0 (lLen x.2)) (bAnd (bNot (iNe (lLen (lGet x.2 (iNat x0) [])) x.1)) (bNot (iLt (Aq (fun(x1:Int)=>(bAnd (iLt x1 (lLen (lGet x.2 (iNat x0) []))) (bNot (bOr (bNot (CQ ((lGet (lGet x.2 (iNat x0) []) (iNat x1) (0,0,0,0)).1,(lGet (lGet x.2 (iNat x0) []) (iNat x1) (0,0,0,0)).2.1,(lGet (lGet x.2 (iNat x0) []) (iNat x1) (0,0,0,0)).2.2.1,(lGet (lGet x.2 (iNat x0) []) (iNat x1) (0,0,0,0)).2.2.2))) (bSel (iEq x0 0) (bOr (iEq (lGet (lGet x.2 (iNat x0) []) (iNat x1) (0,0,0,0)).1 1) (bAnd (iNe (lGet (lGet x.2 (iNat x0) []) (iNat x1) (0,0,0,0)).1 9) (iGe (lGet (lGet x.2 (iNat x0) []) (iNat x1) (0,0,0,0)).2.2.2 (lLen x.2)))) (bAnd (iNe (lGet (lGet x.2 (iNat x0) []) (iNat x1) (0,0,0,0)).1 9) (iGe (lGet (lGet x.2 (iNat x0) []) (iNat x1) (0,0,0,0)).2.2.2 (lLen x.2)))))))) (fun(x1:Int)=>(iAdd .i64 x1 1)) 0) (lLen (lGet x.2 (iNat x0) []))))))) (fun(x0:Int)=>(iAdd .i64 x0 1)) (fun(x0:Int)=>(((iLt x0 (lLen x.2))=true→((((0:Int)≤x0)∧(x0<(((List.length x.2):Int))))∧(((iNat x0)<(List.length x.2))∧(((iNe (lLen (lGet x.2 (iNat x0) [])) x.1)=true→True)∧((iNe (lLen (lGet x.2 (iNat x0) [])) x.1)=false→(LoopOk (fun(x1:Int)=>(bAnd (iLt x1 (lLen (lGet x.2 (iNat x0) []))) (bNot (bOr (bNot (CQ ((lGet (lGet x.2 (iNat x0) []) (iNat x1) (0,0,0,0)).1,(lGet (lGet x.2 (iNat x0) []) (iNat x1) (0,0,0,0)).2.1,(lGet (lGet x.2 (iNat x0) []) (iNat x1) (0,0,0,0)).2.2.1,(lGet (lGet x.2 (iNat x0) []) (iNat x1) (0,0,0,0)).2.2.2))) (bSel (iEq x0 0) (bOr (iEq (lGet (lGet x.2 (iNat x0) []) (iNat x1) (0,0,0,0)).1 1) (bAnd (iNe (lGet (lGet x.2 (iNat x0) []) (iNat x1) (0,0,0,0)).1 9) (iGe (lGet (lGet x.2 (iNat x0) []) (iNat x1) (0,0,0,0)).2.2.2 (lLen x.2)))) (bAnd (iNe (lGet (lGet x.2 (iNat x0) []) (iNat x1) (0,0,0,0)).1 9) (iGe (lGet (lGet x.2 (iNat x0) []) (iNat x1) (0,0,0,0)).2.2.2 (lLen x.2)))))))) (fun(x1:Int)=>(iAdd .i64 x1 1)) (fun(x1:Int)=>(((iLt x1 (lLen (lGet x.2 (iNat x0) [])))=true→((((0:Int)≤x1)∧(x1<(((List.length (lGet x.2 (iNat x0) [])):Int))))∧(((iNat x1)<(List.length (lGet x.2 (iNat x0) [])))∧(LK ((lGet (lGet x.2 (iNat x0) []) (iNat x1) (0,0,0,0)).1,(lGet (lGet x.2 (iNat x0) []) (iNat x1) (0,0,0,0)).2.1,(lGet (lGet x.2 (iNat x0) []) (iNat x1) (0,0,0,0)).2.2.1,(lGet (lGet x.2 (iNat x0) []) (iNat x1) (0,0,0,0)).2.2.2)))))∧((iLt x1 (lLen (lGet x.2 (iNat x0) [])))=false→True))) 0))))))∧((iLt x0 (lLen x.2))=false→True))) 0))):=(Ic.o x).trans (by kernel_rfl)
theorem gT (x):HN x=(bAnd (bNot (iNe (lLen x.1) (lLen x.2))) (bNot (iLt (Aq (fun(x0:Int)=>(bAnd (iLt x0 (lLen x.1)) (bNot (bNot (GL (((lGet x.1 (iNat x0) (0,0,0,0)).1,(lGet x.1 (iNat x0) (0,0,0,0)).2.1,(lGet x.1 (iNat x0) (0,0,0,0)).2.2.1,(lGet x.1 (iNat x0) (0,0,0,0)).2.2.2),(lGet x.2 (iNat x0) (0,0,0,0)).1,(lGet x.2 (iNat x0) (0,0,0,0)).2.1,(lGet x.2 (iNat x0) (0,0,0,0)).2.2.1,(lGet x.2 (iNat x0) (0,0,0,0)).2.2.2)))))) (fun(x0:Int)=>(iAdd .i64 x0 1)) 0) (lLen x.1)))):=(HV.v x).trans (by kernel_rfl)
theorem iy (x):NA x=(((iNe (lLen x.1) (lLen x.2))=true→True)∧((iNe (lLen x.1) (lLen x.2))=false→(LoopOk (fun(x0:Int)=>(bAnd (iLt x0 (lLen x.1)) (bNot (bNot (GL (((lGet x.1 (iNat x0) (0,0,0,0)).1,(lGet x.1 (iNat x0) (0,0,0,0)).2.1,(lGet x.1 (iNat x0) (0,0,0,0)).2.2.1,(lGet x.1 (iNat x0) (0,0,0,0)).2.2.2),(lGet x.2 (iNat x0) (0,0,0,0)).1,(lGet x.2 (iNat x0) (0,0,0,0)).2.1,(lGet x.2 (iNat x0) (0,0,0,0)).2.2.1,(lGet x.2 (iNat x0) (0,0,0,0)).2.2.2)))))) (fun(x0:Int)=>(iAdd .i64 x0 1)) (fun(x0:Int)=>(((iLt x0 (lLen x.1))=true→((((0:Int)≤x0)∧(x0<(((List.length x.1):Int))))∧(((iNat x0)<(List.length x.1))∧((((0:Int)≤x0)∧(x0<(((List.length x.2):Int))))∧(((iNat x0)<(List.length x.2))∧(LL (((lGet x.1 (iNat x0) (0,0,0,0)).1,(lGet x.1 (iNat x0) (0,0,0,0)).2.1,(lGet x.1 (iNat x0) (0,0,0,0)).2.2.1,(lGet x.1 (iNat x0) (0,0,0,0)).2.2.2),(lGet x.2 (iNat x0) (0,0,0,0)).1,(lGet x.2 (iNat x0) (0,0,0,0)).2.1,(lGet x.2 (iNat x0) (0,0,0,0)).2.2.1,(lGet x.2 (iNat x0) (0,0,0,0)).2.2.2)))))))∧((iLt x0 (lLen x.1))=false→True))) 0))):=(HV.o x).trans (by kernel_rfl)
theorem eY (x):QC x=(bAnd (bNot (iNe (lLen x.1) (lLen x.2))) (bNot (iLt (Aq (fun(x0:Int)=>(bAnd (iLt x0 (lLen x.1)) (bNot (bNot (HN ((lGet x.1 (iNat x0) []),(lGet x.2 (iNat x0) []))))))) (fun(x0:Int)=>(iAdd .i64 x0 1)) 0) (lLen x.1)))):=(HA.v x).trans (by kernel_rfl)
theorem gE (x):Qw x=(((iNe (lLen x.1) (lLen x.2))=true→True)∧((iNe (lLen x.1) (lLen x.2))=false→(LoopOk (fun(x0:Int)=>(bAnd (iLt x0 (lLen x.1)) (bNot (bNot (HN ((lGet x.1 (iNat x0) []),(lGet x.2 (iNat x0) []))))))) (fun(x0:Int)=>(iAdd .i64 x0 1)) (fun(x0:Int)=>(((iLt x0 (lLen x.1))=true→((((0:Int)≤x0)∧(x0<(((List.length x.1):Int))))∧(((iNat x0)<(List.length x.1))∧((((0:Int)≤x0)∧(x0<(((List.length x.2):Int))))∧(((iNat x0)<(List.length x.2))∧(NA ((lGet x.1 (iNat x0) []),(lGet x.2 (iNat x0) []))))))))∧((iLt x0 (lLen x.1))=false→True))) 0))):=(HA.o x).trans (by kernel_rfl)
theorem jO (x):LS x=(bAnd (bNot (iNe x.1.1 x.2.1)) (bNot (bNot (QC (x.1.2,x.2.2))))):=(H4.v x).trans (by kernel_rfl)
theorem jI (x):Q6 x=(((iNe x.1.1 x.2.1)=true→True)∧((iNe x.1.1 x.2.1)=false→(Qw (x.1.2,x.2.2)))):=(H4.o x).trans (by kernel_rfl)
attribute [irreducible] Di Ny Jl Qj DI QJ LQ NB QD Qq NM QV Jp Q5 GM QU HN NA QC Qw LS Q6
end
end
end Go.Ag
