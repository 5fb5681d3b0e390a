/- Part 5 of what FnExactParseReport needs. No conditions. -/
import Derived.WalkKit
import Derived.ProofKit
import Derived.OpenShut
import Derived.Carry
import Derived.ChangeSame
import Derived.Attr
import Derived.KernelRfl
import Derived.Below
import Derived.Lib.Join
import Derived.Lib.Split
import Derived.Lib.Bytealg
import Derived.Lib.ItoaNum
import Derived.Test.YthnglpojbfkpoaaDoorLibD
namespace Go.Ag
set_option linter.unusedSimpArgs false
set_option linter.unusedVariables false
noncomputable section
theorem Wx(d:DS)(c:Opnd)(t:Bool):ChgS d (setc d c t):=by
 cases c with
 |t g=>exact Rz d g t
 |c v=>exact ChgS.refl d
theorem WT{d:DS}{s:PS}{c:Opnd}{b:Bool}(hs:ES d s)(h:c.pev s.sl= .fl (.bool b)):ES (setc d c b) s:=by
 cases c with
 |t g=>exact WX hs h
 |c v=>exact hs
theorem Gg:∀ (c:DCode) (d:DS),(dev c d).All (ChgS d)
 |.skip,d=>ChgS.refl d
 |.region ops,d=>RB ops d (ChgS.refl d)
 | .regionU ops,d=>by
   simp only[dev]
   split
   · exact RB ops d (ChgS.refl d)
   · trivial
 | .seq l a b,d=>by
   refine DT.then_all (Gg a d.clean) (fun st h=>?_) (fun st h=>h.rem)
   have h1:ChgS d (Iw d (PF l st)):=(h.trans (fg l st)).rem
   exact DT.All.imp (fun _ h2=>h1.trans h2) (Gg b _)
 | .cond c a b,d=>by
   simp only[dev]
   cases hc:c.dev d.sl with
   | bool t=>
     cases t with
     |lit t=>cases t<;>first|exact Gg a d|exact Gg b d
     |dyn t=>exact⟨DT.All.imp (fun _ h=>(Wx d c true).trans h) (Gg a _),DT.All.imp (fun _ h=>(Wx d c false).trans h) (Gg b _)⟩
   |_=>trivial
 |.block i a,d=>DT.unexit_all i (Gg a d)
 |.loop live n a,d=>fB (fun d=>Gg a d.clean) d
 |.exit i,d=>ChgS.refl d
 |.ret,d=>ChgS.refl d
theorem FT:∀ (c:DCode),AllD c.obs→∀ {d d':DS} {s:PS} {e:AExit} {k:Eb},ES d s→(dev c d).ok.den→(dev c d).lf=some (e,d')→(∀ s',ES d' s'→k e s')→EM c.er k s
 | .skip,_,d,d',s,e,k,hs,hok,hl,hk=>by
   simp only[dev,DT.lf,Ah,Ak] at hl
   obtain⟨rfl,rfl⟩:=hl
   exact hk s hs
 | .region ops,ho,d,d',s,e,k,hs,hok,hl,hk=>by
   have he:=XI ops hl
   subst he
   exact Sw ops ho rfl hk d s hs hok hl
 | .regionU ops,ho,d,d',s,e,k,hs,hok,hl,hk=>by
   simp only[dev] at hok hl
   split at hok
   · rename_i hp
     rw[Ac hp] at hl
     have he:=XI ops hl
     subst he
     exact⟨hp,Sw ops ho rfl hk d s hs hok hl⟩
   · exact hok.elim
 | .seq l a b,ho,d,d',s,e,k,hs,hok,hl,hk=>by
   obtain⟨h1,h2⟩:=ho.app
   obtain⟨hoa,hc⟩:=DT.then_s (Gg a d.clean) hok hl
   simp only[DCode.er,EM]
   rcases hc with⟨st0,m,hla,hm,hch,hob,hlb⟩|⟨he,st0,hla,rfl⟩
   · refine FT a h1 hs.clean hoa hla fun s' hs'=>?_
     exact FT b h2 (((hm s' hs').trim l).rem) hob hlb hk
   · refine FT a h1 hs.clean hoa hla fun s' hs'=>?_
     cases e<;>first|(cases he;done)|exact hk s' hs'.rem
 | .cond c a b,ho,d,d',s,e,k,hs,hok,hl,hk=>by
   obtain⟨h1,h2⟩:=ho.app
   have hv:=c.dev_ev hs
   simp only[dev] at hok hl
   simp only[DCode.er,EM]
   cases hc:c.dev d.sl with
   | bool t=>
     rw[hc] at hok hl hv
     have hp:=hv.of (by simp)
     simp only[DV.enc] at hp
     rw[hp]
     simp only
     cases t with
     | lit t=>
       cases t with
       |true=>exact FT a h1 hs hok hl hk
       |false=>exact FT b h2 hs hok hl hk
     | dyn t=>
       have hok:=(PX.if_den _ _ _).mp hok
       cases t with
       |true=>exact FT a h1 (WT hs hp) (hok.1 rfl) hl hk
       |false=>exact FT b h2 (WT hs hp) (hok.2 rfl) hl hk
   |_=>rw[hc] at hok;exact hok.elim
 | .block i a,ho,d,d',s,e,k,hs,hok,hl,hk=>by
   simp only[dev,DT.unexit_ok,DT.unexit_lf] at hok hl
   obtain⟨e0,d0,h0⟩:=DT.ok_lf hok
   rw[h0] at hl
   simp only[BI,Ah,Ak] at hl
   obtain⟨rfl,rfl⟩:=hl
   refine FT a ho hs hok h0 fun s' hs'=>?_
   have:=hk s' hs'
   cases e0 with
   |normal=>exact this
   |ret=>exact this
   | exit j=>
     simp only[Sl]
     simp only[AExit.un] at this
     split
     · rename_i hj;rw[Ac hj] at this;exact this
     · rename_i hj;rw[Ad hj] at this;exact this
 | .loop live n a,ho,d,d',s,e,k,hs,hok,hl,hk=>by
   simp only[dev] at hok hl
   exact j0 (fun d=>Gg a d.clean) (fun d s e d' k hs hok hl hk=>FT a ho hs.clean hok hl hk) hs hok hl hk
 | .exit i,_,d,d',s,e,k,hs,hok,hl,hk=>by
   simp only[dev,DT.lf,Ah,Ak] at hl
   obtain⟨rfl,rfl⟩:=hl
   exact hk s hs
 | .ret,_,d,d',s,e,k,hs,hok,hl,hk=>by
   simp only[dev,DT.lf,Ah,Ak] at hl
   obtain⟨rfl,rfl⟩:=hl
   exact hk s hs
mutual
def DV.flt:DV→Bool
 |.bool _|.int _ _|.str _|.ifc _=>true
 |.agg cs=>DV.fltL cs
 |.tup vs=>DV.fltL vs
 |_=>false
def DV.fltL:List DV→Bool
 |[]=>true
 |v::r=>v.flt&&DV.fltL r
end
mutual
theorem RR:∀ (v:DV),v.flt=true→v.enc.flt=true
 |.bool _,_|.int _ _,_|.str _,_|.ifc _,_=>rfl
 |.agg cs,h=>RH cs h
 |.tup cs,h=>RH cs h
theorem RH:∀ (l:List DV),DV.fltL l=true→PV.fltL (DV.encL l)=true
 |[],_=>rfl
 | v::r,h=>by
   simp only[DV.fltL,Aj] at h
   simp only[DV.encL,PV.fltL,RR v h.1,RH r h.2,Cb]
end
theorem Rc:∀ (l:List DV),Gt l=true→DV.okL l=true
 |[],_=>rfl
 | v::r,h=>by
   simp only[Gt,Aj] at h
   have:v.ok=true:=by cases v<;>first|rfl|(have:=h.1;cases this)
   simp only[DV.okL,this,Rc r h.2,Cb]
theorem EBx.segm2{a:List DC}{b:List PV}{o n:Nat}(h:EBx a b)(hl:o+n≤a.length)(hk:DV.okL (Bj (Bm a) o n)=true):Go.Ag.segm b o n=DV.encL (Bj (Bm a) o n)∧o+n≤b.length:=by
 rcases h with rfl|h
 · simp only[Az,Nat.le_zero_eq,Nat.add_eq_zero_iff] at hl;obtain⟨rfl,rfl⟩:=hl;refine⟨?_,FL _⟩;cases b<;>rfl
 · exact⟨h.segm o n hk,by rw[← h.len];exact hl⟩
theorem Wg{st st':DS}{s:PS}{r:ARes}{v:DV}(hs:ES st s)(h:Mo st r=some (v,st'))(hv:v.ok=true):∃ s',Gr s r=some (v.enc,s')∧ES st' s':=by
 cases r with
 | tmp t=>
   simp only[Mo] at h;split at h
   · rename_i hc;simp only[Aj] at hc;simp only[Ah] at h
     have hk:(AK (.t t) st).1.ok=true:=by
      have:(AK (.t t) st).1=v:=by simp only[AK,h]
      rw[this];exact hv
     obtain⟨m1,m2⟩:=Dk (.t t) hs hk
     have hne:AV st.sl t≠.any:=by intro e;rw[e] at hc;cases hc.2
     have hp:=(hs.sl.get t).of hne;simp only[AK,h,mvOut] at m1 m2;refine⟨(Dz (Aa s.sl t) t s).2,?_,m2⟩;simp only[Gr];rw[Ac (by rw[hp];exact fq _ hc.1),← m1]
   · cases h
 | cell t n=>
   simp only[Mo] at h;have hp:=hs.sl.get t
   cases hv:AV st.sl t with
   | box i o=>
     rw[hv] at h hp;have hp:=hp.of (by simp);simp only at h;split at h
     · rename_i hc;simp only[Aj] at hc;simp only[Bg] at h;obtain⟨⟨g,r⟩,h1,h2⟩:=h;simp only at h2;subst h2;obtain⟨e1,e2⟩:=(hs.bx.get i).segm2 (Ca hc.1) (Rc _ hc.2)
       have hg:g= .tt:=by
        unfold Ji at h1;simp only[AE] at h1;split at h1
        · simp only[Bg,Ak] at h1;obtain⟨_,_,rfl,_⟩:=h1;rfl
        · cases h1
       subst hg;obtain⟨s',e3,e4⟩:=UJ (p:=.box i o) hs (.inr rfl) h1;refine⟨s',?_,e4⟩;simp only[Gr,hp,DV.enc];rw[Ac ⟨e2,by rw[e1];exact OM _ hc.2⟩];exact e3
     · cases h
   | ptr i o=>
     rw[hv] at h hp;have hp:=hp.of (by simp);simp only at h;split at h
     · rename_i hc;simp only[Aj] at hc;simp only[Bg] at h;obtain⟨⟨g,r⟩,h1,h2⟩:=h;simp only at h2;subst h2;obtain⟨e1,e2⟩:=(hs.hp.get i).segm2 (Ca hc.1) (Rc _ hc.2)
       have hg:g= .tt∧i<st.hp.length:=by
        unfold Ia at h1;simp only[AE] at h1;split at h1
        · rename_i hb;simp only[Aj] at hb;simp only[Bg,Ak] at h1;obtain⟨_,_,rfl,_⟩:=h1;exact⟨rfl,Ca hb.1.1⟩
        · cases h1
       obtain⟨rfl,hi⟩:=hg;obtain⟨s',e3,e4⟩:=UE (p:=.ptr i o) hs (.inr rfl) h1 trivial;refine⟨s',?_,e4⟩;simp only[Gr,hp,DV.enc];rw[Ac ⟨by rw[← hs.hp.len];exact hi,e2,by rw[e1];exact OM _ hc.2⟩];exact e3
     · cases h
   |_=>rw[hv] at h;cases h
theorem VM:∀ {res:List ARes} {st st':DS} {s:PS} {vs:List DV},ES st s→Kr st res=some (vs,st')→DV.okL vs=true→∃ s',Gj s res=some (DV.encL vs,s')∧ES st' s'
 | [],st,st',s,vs,hs,h,_=>by
   simp only[Kr,Ah,Ak] at h
   obtain⟨rfl,rfl⟩:=h
   exact⟨s,rfl,hs⟩
 | r :: rs,st,st',s,vs,hs,h,hk=>by
   simp only[Kr] at h
   split at h
   · rename_i v st1 h1
     split at h
     · rename_i vs1 st2 h2
       simp only[Ah,Ak] at h
       obtain⟨rfl,rfl⟩:=h
       simp only[DV.okL,Aj] at hk
       obtain⟨s1,e1,e2⟩:=Wg hs h1 hk.1
       obtain⟨s2,e3,e4⟩:=VM e2 h2 hk.2
       exact⟨s2,by simp only[Gj,e1,e3,DV.encL],e4⟩
     · cases h
   · cases h
theorem W0:∀ {res:List ARes} {st:DS} {s:PS} {v:DV},ES st s→Ey st res=some v→v.ok=true→∃ s',Jq s res=some (v.enc,s'):=by
 have gen:∀ {res:List ARes} {st:DS} {s:PS} {v:DV},ES st s→v.ok=true→(Kr st res).map (fun x=>DV.tup x.1)=some v→∃ s',(Gj s res).map (fun(vs,st)=>(PV.tup vs,st))=some (v.enc,s'):=fun hs hv h=>by
  simp only[Bg] at h;obtain⟨⟨vs,st'⟩,h1,rfl⟩:=h;obtain⟨s',e1,_⟩:=VM hs h1 hv;exact⟨s',by rw[e1];rfl⟩
 intro res st s v hs h hv
 cases res with
 |nil=>exact gen (res:=[]) hs hv h
 | cons r rs=>
   cases rs with
   | nil=>
     simp only[Ey,Bg] at h;obtain⟨⟨v',st'⟩,h1,rfl⟩:=h;obtain⟨s',e1,_⟩:=Wg hs h1 hv;exact⟨s',e1⟩
   |cons r2 rs=>exact gen (res:=r::r2::rs) hs hv h
theorem KK {res:List ARes}:∀ {t:DT} {g:PX} {v:DV},t.val res=(g,some v)→v≠.any→g.den →
 t.ok.den∧∃ e st v0,t.lf=some (e,st)∧(∀ i,e≠.exit i)∧Ey st res=some v0∧v0.ok=true∧v.enc=v0.enc
 | .leaf e st,g,v,h,hv,hg=>by
   have gen:(match Ey st res with|some v=>if (v.ok&&!v.hasPtr)=true then (PX.tt,some v) else (PX.ff,none)|none=>(PX.ff,none))=(g,some v)→Ey st res=some v∧v.ok=true:=fun h=>by
    split at h
    · split at h
      · rename_i h1 h2;simp only[Ak,Ah] at h;obtain⟨_,rfl⟩:=h;simp only[Aj] at h2;exact⟨h1,h2.1⟩
      · simp at h
    · simp at h
   cases e with
   |exit i=>simp[DT.val] at h
   |normal=>obtain⟨h1,h2⟩:=gen h;exact⟨trivial,.normal,st,v,rfl,by simp,h1,h2,rfl⟩
   |ret=>obtain⟨h1,h2⟩:=gen h;exact⟨trivial,.ret,st,v,rfl,by simp,h1,h2,rfl⟩
 | .node c a b,g,v,h,hv,hg=>by
   simp only[DT.val] at h
   have hno:∀ {t:DT} {g:PX},t.val res=(g,none)→¬ g.den:=by
    intro t
    induction t with
    | leaf e st=>
      intro g h;cases e<;>simp only[DT.val] at h<;>(repeat' split at h)<;>simp only[Ak,reduceCtorEq,and_false,and_true] at h<;>subst h<;>exact id
    | node c x y ih1 ih2=>
      intro g h hg;simp only[DT.val] at h
      cases h1:x.val res with
      | mk g1 v1=>
        cases h2:y.val res with
        | mk g2 v2=>
          rw[h1,h2] at h
          cases v1 with
          | none=>
            simp only[Ak] at h;obtain⟨rfl,rfl⟩:=h;have:=(PX.if_den _ _ _).mp hg
            cases c with
            |true=>exact ih1 h1 (this.1 rfl)
            |false=>exact ih2 h2 (this.2 rfl)
          |some v1=>cases v2<;>simp at h
    | chk g0 t ih=>
      intro g h hg;simp only[DT.val] at h
      cases h1:t.val res with
      | mk g1 v1=>
        rw[h1] at h;simp only[Ak] at h;obtain⟨rfl,rfl⟩:=h;exact ih h1 ((PX.land_den _ _).mp hg).2
    | bad=>
      intro g h;simp only[DT.val,Ak,and_true] at h;subst h;exact id
   cases h1:a.val res with
   | mk g1 v1=>
     cases h2:b.val res with
     | mk g2 v2=>
       rw[h1,h2] at h
       have fin:∀ (v1 v2:DV),g=PX.if' c g1 g2→a.val res=(g1,some v1)→b.val res=(g2,some v2)→v=Ch c v1 v2→(DT.node c a b).ok.den∧∃ e st v0,(DT.node c a b).lf=some (e,st)∧(∀ i,e≠.exit i)∧Ey st res=some v0∧v0.ok=true∧v.enc=v0.enc:=by
        intro v1 v2 hgg h1 h2 hvv;subst hgg;have hg:=(PX.if_den _ _ _).mp hg;have he:=(Pe c v1 v2).resolve_left (by rw[← hvv];exact hv);rw[← hvv] at he
        have n1:v1≠.any:=by rintro rfl;apply hv;rw[hvv];cases v2<;>rfl
        have n2:v2≠.any:=by rintro rfl;apply hv;rw[hvv];cases v1<;>rfl
        show (PX.if' c a.ok b.ok).den∧∃ e st v0,(DT.node c a b).lf=some (e,st)∧(∀ i,e≠.exit i)∧Ey st res=some v0∧v0.ok=true∧v.enc=v0.enc;rw[PX.if_den]
        cases c with
        | true=>
          obtain⟨k1,e,st,v0,k2,k3,k4,k5,k6⟩:=KK h1 n1 (hg.1 rfl);exact⟨⟨fun _=>k1,fun h=>by cases h⟩,e,st,v0,k2,k3,k4,k5,by rw[he];exact k6⟩
        | false=>
          obtain⟨k1,e,st,v0,k2,k3,k4,k5,k6⟩:=KK h2 n2 (hg.2 rfl);exact⟨⟨fun h=>(by cases h),fun _=>k1⟩,e,st,v0,k2,k3,k4,k5,by rw[he];exact k6⟩
       cases v1 with
       | none=>
         simp only[Ak] at h;obtain⟨rfl,rfl⟩:=h;have hg:=(PX.if_den _ _ _).mp hg;show (PX.if' c a.ok b.ok).den∧_;rw[PX.if_den]
         cases c with
         |true=>exact absurd (hg.1 rfl) (hno h1)
         | false=>
           obtain⟨k1,e,st,v0,k2,k3,k4,k5,k6⟩:=KK h2 hv (hg.2 rfl);exact⟨⟨fun h=>(by cases h),fun _=>k1⟩,e,st,v0,k2,k3,k4,k5,k6⟩
       | some v1=>
         cases v2 with
         | none=>
           simp only[Ak,Ah] at h;obtain⟨rfl,rfl⟩:=h;have hg:=(PX.if_den _ _ _).mp hg;show (PX.if' c a.ok b.ok).den∧_;rw[PX.if_den]
           cases c with
           |false=>exact absurd (hg.2 rfl) (hno h2)
           | true=>
             obtain⟨k1,e,st,v0,k2,k3,k4,k5,k6⟩:=KK h1 hv (hg.1 rfl);exact⟨⟨fun _=>k1,fun h=>by cases h⟩,e,st,v0,k2,k3,k4,k5,k6⟩
         | some v2=>
           simp only[Ak,Ah] at h;exact fin v1 v2 h.1.symm h1 h2 h.2.symm
 | .chk g0 t,g,v,h,hv,hg=>by
   simp only[DT.val] at h
   cases h1:t.val res with
   | mk g1 v1=>
     rw[h1] at h;simp only[Ak] at h;obtain⟨rfl,rfl⟩:=h;have hg:=(PX.land_den _ _).mp hg;obtain⟨k1,k2⟩:=KK h1 hv hg.2;exact⟨(PX.land_den _ _).mpr ⟨hg.1,k1⟩,k2⟩
 |.bad,g,v,h,hv,hg=>by simp[DT.val] at h
theorem EL.append:∀ {a:List DC} {b:List PV} {c:List DC} {d:List PV},EL a b→EL c d→EL (a++c) (b++d)
 |[],[],_,_,_,h=>h
 |_::_,_::_,_,_,h,h'=>⟨h.1,EL.append h.2 h'⟩
theorem Rq:∀ (n:Nat),EL (Jd n) (Gu n)
 |0=>trivial
 |n+1=>⟨.inl rfl,Rq n⟩
theorem Ro:∀ (n:Nat),EB (Jh n) (Ip n)
 |0=>trivial
 |n+1=>⟨.inl rfl,Ro n⟩
theorem dN {f:DFun} (ho:AllD f.body.obs) {args:List DV} {g:PX} {v:DV} (h:Nf f args=(g,some v)) (hg:g.den) (hv:v≠.any) (hl:args.length=f.nparams) (hp:f.pure=true→v.flt=true)
 {Q:PV→List (List PV)→Prop} (hQ:∀ H,Q v.enc H):I0 f.er (DV.encL args) [] Q:=by
 unfold Nf at h
 obtain⟨hok,e,st,v0,h1,h2,h3,h4,h5⟩:=KK h hv hg
 refine⟨by rw[D3];exact hl,fun _=>rfl,?_⟩
 refine FT f.body ho (d:=⟨news args++Jd (f.nslots-f.nparams),Jh f.nbox,[]⟩) ⟨(EL.news args).append (Rq _),Ro _,trivial⟩ hok h1 fun s' hs'=>?_
 obtain⟨s2,e2⟩:=W0 hs' h3 h4
 rw[← h5] at e2
 have fin:(match Jq s' f.res with|some (v,st)=>if f.pure=true then v.flt=true∧Q v [] else Q v st.hp|none=>False):=by
  rw[e2];simp only;split
  · rename_i hpu;exact⟨RR v (hp hpu),hQ _⟩
  · exact hQ _
 cases e with
 |normal=>exact fin
 |ret=>exact fin
 |exit i=>exact absurd rfl (h2 i)
def TuX:List HT→Type
 |[]=>Unit
 |[a]=>a.D
 |a::r=>a.D×TuX r
def Fh:(l:List HT)→List DV→Option (TuX l)
 |[],[]=>some ()
 |[a],[v]=>a.of v
 | a::b::r,v::vs=>(match a.of v,Fh (b::r) vs with
   |some x,some y=>some (x,y)
   |_,_=>none)
 |_,_=>none
def Dy:(l:List HT)→TuX l→List DV
 |[],_=>[]
 |[a],x=>[a.dv x]
 |a::b::r,x=>a.dv x.1::Dy (b::r) x.2
inductive QT where
 |one (h:HT)|tup (l:List HT)
def QT.D:QT→Type
 |.one h=>h.D
 |.tup l=>TuX l
def QT.of:(q:QT)→DV→Option q.D
 |.one h,v=>h.of v
 |.tup l,.tup vs=>Fh l vs
 |.tup _,_=>none
def QT.dv:(q:QT)→q.D→DV
 |.one h,x=>h.dv x
 |.tup l,x=>.tup (Dy l x)
def QT.ofO(q:QT):Option DV→Option q.D
 |some v=>q.of v
 |none=>none
def X3:(l:List (Ql×CT))→AgX l
 |[]=>()
 |[a]=>a.2.dflt
 |a::b::r=>(a.2.dflt,X3 (b::r))
def HT.dflt:(h:HT)→h.D
 |.one _ t=>t.dflt
 |.agg l=>X3 l
def Xv:(l:List HT)→TuX l
 |[]=>()
 |[a]=>a.dflt
 |a::b::r=>(a.dflt,Xv (b::r))
def QT.dflt:(q:QT)→q.D
 |.one h=>h.dflt
 |.tup l=>Xv l
def HT.flt:HT→Bool
 |.one _ t=>t.flat
 |.agg l=>l.all fun a=>a.2.flat
def QT.flt:QT→Bool
 |.one h=>h.flt
 |.tup l=>l.all HT.flt
theorem MK:∀ {l:List HT} {vs:List DV} {x:TuX l},Fh l vs=some x→DV.encL (Dy l x)=DV.encL vs
 |[],[],_,_=>rfl
 | [a],[v],x,h=>by
   show [(a.dv x).enc]=[v.enc]
   rw[(MQ (t:=a) h).1]
 | a :: b::r,v::vs,x,h=>by
   have h':(match a.of v,Fh (b::r) vs with|some x,some y=>some (x,y)|_,_=>none)=some x:=h
   clear h
   cases h1:a.of v with
   |none=>rw[h1] at h';cases h'
   | some p=>
     cases h2:Fh (b::r) vs with
     |none=>rw[h1,h2] at h';cases h'
     | some q=>
       rw[h1,h2] at h'
       have h':=Ce h'
       subst h'
       show (a.dv p).enc::DV.encL (Dy (b::r) q)=v.enc::DV.encL vs
       rw[(MQ h1).1,MK h2]
theorem Yt{q:QT}{v:DV}{x:q.D}(h:q.of v=some x):(q.dv x).enc=v.enc∧v≠.any:=by
 cases q with
 |one t=>exact MQ (t:=t) h
 | tup l=>
   cases v<;>try (cases h;done)
   rename_i cs;refine⟨?_,by simp⟩;show PV.tup _=PV.tup _;rw[MK (l:=l) h]
theorem OB:∀ (l:List HT) (x:TuX l),(Dy l x).length=l.length
 |[],_=>rfl
 |[_],_=>rfl
 | a::b::r,x=>by
   show (Dy (b::r) x.2).length+1=(b::r).length+1
   rw[OB (b::r) x.2]
theorem Sx{q:Ql}{t:CT}{v:DV}{x:t.D}(hf:t.flat=true)(h:t.ofQ q v=some x):v.flt=true:=by
 cases t<;>first|(cases hf;done)|skip
 all_goals (cases v<;>first|rfl|(cases h;done))
theorem X5:∀ {l:List (Ql×CT)} {vs:List DV} {x:AgX l},l.all (fun a=>a.2.flat)=true→Ir l vs=some x→DV.fltL vs=true
 |[],[],_,_,_=>rfl
 | [a],[v],x,hf,h=>by
   simp only[DI,PA,Jr] at hf
   simp only[DV.fltL,Sx (q:=a.1) hf h,Cb]
 | a :: b::r,v::vs,x,hf,h=>by
   have h':(match a.2.ofQ a.1 v,Ir (b::r) vs with|some x,some y=>some (x,y)|_,_=>none)=some x:=h
   clear h
   rw[DI,Aj] at hf
   cases h1:a.2.ofQ a.1 v with
   |none=>rw[h1] at h';cases h'
   | some p=>
     cases h2:Ir (b::r) vs with
     |none=>rw[h1,h2] at h';cases h'
     |some q=>simp only[DV.fltL,Sx hf.1 h1,X5 hf.2 h2,Cb]
theorem Sr{t:HT}{v:DV}{x:t.D}(hf:t.flt=true)(h:t.of v=some x):v.flt=true:=by
 cases t with
 |one q t=>exact Sx (q:=q) (t:=t) hf h
 | agg l=>
   cases v<;>try (cases h;done)
   exact X5 (l:=l) hf h
theorem XW:∀ {l:List HT} {vs:List DV} {x:TuX l},l.all HT.flt=true→Fh l vs=some x→DV.fltL vs=true
 |[],[],_,_,_=>rfl
 | [a],[v],x,hf,h=>by
   simp only[DI,PA,Jr] at hf
   simp only[DV.fltL,Sr (t:=a) hf h,Cb]
 | a :: b::r,v::vs,x,hf,h=>by
   have h':(match a.of v,Fh (b::r) vs with|some x,some y=>some (x,y)|_,_=>none)=some x:=h
   clear h
   rw[DI,Aj] at hf
   cases h1:a.of v with
   |none=>rw[h1] at h';cases h'
   | some p=>
     cases h2:Fh (b::r) vs with
     |none=>rw[h1,h2] at h';cases h'
     |some q=>simp only[DV.fltL,Sr hf.1 h1,XW hf.2 h2,Cb]
theorem XR{q:QT}{v:DV}{x:q.D}(hf:q.flt=true)(h:q.of v=some x):v.flt=true:=by
 cases q with
 |one t=>exact Sr (t:=t) hf h
 | tup l=>
   cases v<;>try (cases h;done)
   exact XW (l:=l) hf h
def Gp(hs:List HT)(q:QT)(ok:TuX hs→Prop)(v:TuX hs→q.D):Fg:=fun args=>match Fh hs args with
 |some x=>some (.p (ok x),q.dv (v x))
 |none=>none
def DT.valQ(q:QT)(res:List ARes):DT→PX×Option q.D
 |.leaf (.exit _) _=>(.ff,none)
 | .leaf _ st=>(match Ey st res with
   | some v=>if v.ok&&!v.hasPtr then (match q.of v with
     |some y=>(.tt,some y)
     |none=>(.ff,none)) else (.ff,none)
   |none=>(.ff,none))
 | .node c a b=>(match a.valQ q res,b.valQ q res with
   |(g,none),(g',y)=>(PX.if' c g g',y)
   |(g,x),(g',none)=>(PX.if' c g g',x)
   |(g,some x),(g',some y)=>(PX.if' c g g',some (bSel c x y)))
 | .chk g t=>(match t.valQ q res with
   |(g',v)=>(g.land g',v))
 |.bad=>(.ff,none)
theorem LO{q:QT}{res:List ARes}:∀ {t:DT} {g:PX},t.valQ q res=(g,none)→¬ g.den
 | .leaf e st,g,h=>by
   cases e<;>simp only[DT.valQ] at h<;>(repeat' split at h)<;>simp only[Ak,reduceCtorEq,and_false,and_true] at h<;>subst h<;>exact id
 | .node c x y,g,h=>by
   intro hg
   simp only[DT.valQ] at h
   cases h1:x.valQ q res with
   | mk g1 v1=>
     cases h2:y.valQ q res with
     | mk g2 v2=>
       rw[h1,h2] at h
       cases v1 with
       | none=>
         simp only[Ak] at h
         obtain⟨rfl,rfl⟩:=h
         have:=(PX.if_den _ _ _).mp hg
         cases c with
         |true=>exact LO h1 (this.1 rfl)
         |false=>exact LO h2 (this.2 rfl)
       |some v1=>cases v2<;>simp at h
 | .chk g0 t,g,h=>by
   intro hg
   simp only[DT.valQ] at h
   cases h1:t.valQ q res with
   | mk g1 v1=>
     rw[h1] at h
     simp only[Ak] at h
     obtain⟨rfl,rfl⟩:=h
     exact LO h1 ((PX.land_den _ _).mp hg).2
 | .bad,g,h=>by
   simp only[DT.valQ,Ak,and_true] at h
   subst h;exact id
theorem Py{q:QT}{res:List ARes}:∀ {t:DT} {g:PX} {y:q.D},t.valQ q res=(g,some y)→g.den →
 t.ok.den∧∃ e st v0,t.lf=some (e,st)∧(∀ i,e≠.exit i)∧Ey st res=some v0∧v0.ok=true∧q.of v0=some y
 | .leaf e st,g,y,h,hg=>by
   have gen:(match Ey st res with|some v=>if (v.ok&&!v.hasPtr)=true then (match q.of v with|some y=>(PX.tt,some y)|none=>(PX.ff,none)) else (PX.ff,none)|none=>(PX.ff,none))=(g,some y)→∃ v,Ey st res=some v∧v.ok=true∧q.of v=some y:=fun h=>by
    split at h
    · rename_i v hv;split at h
      · rename_i hc;simp only[Aj] at hc;split at h
        · rename_i y' hy;simp only[Ak,Ah] at h;obtain⟨_,rfl⟩:=h;exact⟨v,hv,hc.1,hy⟩
        · simp at h
      · simp at h
    · simp at h
   cases e with
   |exit i=>simp[DT.valQ] at h
   |normal=>obtain⟨v,h1,h2,h3⟩:=gen h;exact⟨trivial,.normal,st,v,rfl,by simp,h1,h2,h3⟩
   |ret=>obtain⟨v,h1,h2,h3⟩:=gen h;exact⟨trivial,.ret,st,v,rfl,by simp,h1,h2,h3⟩
 | .node c a b,g,y,h,hg=>by
   simp only[DT.valQ] at h;show (PX.if' c a.ok b.ok).den∧∃ e st v0,(DT.node c a b).lf=some (e,st)∧(∀ i,e≠.exit i)∧Ey st res=some v0∧v0.ok=true∧q.of v0=some y;rw[PX.if_den]
   cases h1:a.valQ q res with
   | mk g1 v1=>
     cases h2:b.valQ q res with
     | mk g2 v2=>
       rw[h1,h2] at h
       have hgg:g=PX.if' c g1 g2:=by
        cases v1<;>cases v2<;>simp only[Ak] at h<;>exact h.1.symm
       subst hgg;have hg:=(PX.if_den _ _ _).mp hg
       cases c with
       | true=>
         have:v1=some y:=by
          cases v1 with
          |none=>exact absurd (hg.1 rfl) (LO h1)
          |some v1=>cases v2<;>simp only[Ak,E5] at h<;>exact h.2
         subst this;obtain⟨k1,k2⟩:=Py h1 (hg.1 rfl);exact⟨⟨fun _=>k1,fun h=>by cases h⟩,k2⟩
       | false=>
         have:v2=some y:=by
          cases v2 with
          |none=>exact absurd (hg.2 rfl) (LO h2)
          |some v2=>cases v1<;>simp only[Ak,E8] at h<;>exact h.2
         subst this;obtain⟨k1,k2⟩:=Py h2 (hg.2 rfl);exact⟨⟨fun h=>(by cases h),fun _=>k1⟩,k2⟩
 | .chk g0 t,g,y,h,hg=>by
   simp only[DT.valQ] at h
   cases h1:t.valQ q res with
   | mk g1 v1=>
     rw[h1] at h;simp only[Ak] at h;obtain⟨rfl,rfl⟩:=h;have hg:=(PX.land_den _ _).mp hg;obtain⟨k1,k2⟩:=Py h1 hg.2;exact⟨(PX.land_den _ _).mpr ⟨hg.1,k1⟩,k2⟩
 |.bad,g,y,h,hg=>by simp[DT.valQ] at h
def QT.isB:QT→Bool
 |.one (.one _ .bool)=>true
 |_=>false
def Nh(f:DFun)(hs:List HT)(q:QT)(x:TuX hs):PX×Option q.D:=
 if q.isB then ((Nf f (Dy hs x)).1,q.ofO (Nf f (Dy hs x)).2)
 else (dev f.body ⟨news (Dy hs x)++Jd (f.nslots-f.nparams),Jh f.nbox,[]⟩).valQ q f.res
def F0(f:DFun)(hs:List HT)(q:QT)(x:TuX hs):q.D:=(Nh f hs q x).2.getD q.dflt
def FW(f:DFun)(hs:List HT)(q:QT)(x:TuX hs):Prop:=(Nh f hs q x).1.den
def KH(f:DFun)(hs:List HT)(q:QT)(x:TuX hs):Bool:=(Nh f hs q x).2.isSome
def K0(f:DFun)(hs:List HT)(q:QT):Bool:=hs.length == f.nparams&&(!f.pure||q.flt)
theorem WG {f:DFun} {hs:List HT} {q:QT} (ho:AllD f.body.obs) (hst:K0 f hs q=true) (x:TuX hs) (hc:KH f hs q x=true) (hok:FW f hs q x)
 {Q:PV→List (List PV)→Prop} (hQ:∀ H,Q (q.dv (F0 f hs q x)).enc H):I0 f.er (DV.encL (Dy hs x)) [] Q:=by
 simp only[K0,Aj,AO,Cf,Dr] at hst
 unfold KH at hc
 unfold F0 at hQ
 unfold FW at hok
 unfold Nh at hc hQ hok
 by_cases hb:q.isB=true
 · rw[Ac hb] at hc hQ hok
   cases hd:Nf f (Dy hs x) with
   | mk g o=>
     rw[hd] at hc hQ hok
     cases o with
     |none=>cases hc
     | some w=>
       obtain⟨y,hy⟩:=Option.isSome_iff_exists.mp hc;rw[hy] at hQ;have hy:q.of w=some y:=hy;obtain⟨h1,h2⟩:=Yt hy
       refine dN ho hd hok h2 (by rw[OB];exact hst.1) (fun hp=>XR (by simpa [hp] using hst.2) hy) fun H=>?_
       have:=hQ H;rw[Ih,h1] at this;exact this
 · rw[Ad hb] at hc hQ hok
   cases hd:(dev f.body ⟨news (Dy hs x)++Jd (f.nslots-f.nparams),Jh f.nbox,[]⟩).valQ q f.res with
   | mk g o=>
     rw[hd] at hc hQ hok
     cases o with
     |none=>cases hc
     | some y=>
       simp only[Ih] at hQ;obtain⟨k1,e,st,v0,k2,k3,k4,k5,k6⟩:=Py hd hok;obtain⟨h1,h2⟩:=Yt k6;refine⟨by rw[D3,OB];exact hst.1,fun _=>rfl,?_⟩
       refine FT f.body ho (d:=⟨news (Dy hs x)++Jd (f.nslots-f.nparams),Jh f.nbox,[]⟩) ⟨(EL.news _).append (Rq _),Ro _,trivial⟩ k1 k2 fun s' hs'=>?_
       obtain⟨s2,e2⟩:=W0 hs' k4 k5;rw[← h1] at e2
       have fin:(match Jq s' f.res with|some (v,st)=>if f.pure=true then v.flt=true∧Q v [] else Q v st.hp|none=>False):=by
        rw[e2];simp only;split
        · rename_i hpu;exact⟨by rw[h1];exact RR _ (XR (by simpa [hpu] using hst.2) k6),hQ _⟩
        · exact hQ _
       cases e with
       |normal=>exact fin
       |ret=>exact fin
       |exit i=>exact absurd rfl (k3 i)
theorem VZ{f:DFun}{hs:List HT}{q:QT}(ho:AllD f.body.obs)(hst:K0 f hs q=true)(hc:∀ x,KH f hs q x=true){ok:TuX hs→Prop}{v:TuX hs→q.D}(hok:∀ x,ok x→FW f hs q x)(hv:∀ x,F0 f hs q x=v x) :
 H4 (I0 f.er) (Gp hs q ok v):=by
 intro args g w Q h hg hQ
 unfold Gp at h
 cases hx:Fh hs args with
 |none=>rw[hx] at h;cases h
 | some x=>
   rw[hx] at h;simp only[Ah,Ak] at h;obtain⟨rfl,rfl⟩:=h;rw[← MK hx]
   exact WG ho hst x (hc x) (hok x hg) fun H=>by rw[hv];exact hQ H
attribute [irreducible] Nh F0 FW KH K0
def AM:List DV→List DC
 |[]=>[]
 |v::r=>⟨false,v⟩::AM r
open Go.RowKit Go.WideShapes Go.ChangeShapes
inductive Ty where
 |int (k:IntKind)
 |bool
 |str
 |sl (t:Ty)
 |unit
 |pair (a b:Ty)
def Ty.w:Ty→Nat
 |.int _|.bool|.str|.sl _=>1
 |.unit=>0
 |.pair a b=>a.w+b.w
def M9(P:Program)(f:TypeId→Option Ty):List Field→Nat→Option Ty
 |[],_=>some .unit
 | g::r,off=>
   match f g.type with
   |some a=>if g.offset=off∧a.w=P.cellsOf g.type then (match M9 P f r (off+a.w) with|some b=>some (.pair a b)|none=>none) else none
   |none=>none
def Gy(P:Program):Nat→TypeId→Option Ty
 |0,_=>none
 | d+1,t=>
   match P.underlying t with
   |some (.int k)=>some (.int k)
   |some .bool=>some .bool
   |some .string=>some .str
   |some (.slice e)=>(match Gy P d e with|some te=>if te.w=P.cellsOf e∧0<te.w then some (.sl te) else none|none=>none)
   |some (.struct fs)=>(match M9 P (Gy P d) fs.toList 0 with|some ty=>if ty.w=P.cellsOf t then some ty else none|none=>none)
   |_=>none
def Sh(σ:Ab):Ty→List V→Prop
 |.int k,cs=>∃ n,cs=[.int k n]∧(Lit.int k n).wf=true
 |.bool,cs=>∃ b,cs=[.bool b]
 |.str,cs=>∃ s,cs=[.str s]∧s.length≤maxLen
 |.sl t,cs=>cs=[.nils]∨∃ (l n:Nat) (bs:List V),cs=[.slice l 0 n]∧σ[l]?=some ⟨.ro,t.w,bs⟩∧bs.length=n*t.w∧n≤maxLen∧∀ i,i<n→Sh σ t ((bs.drop (i*t.w)).take t.w)
 |.unit,cs=>cs=[]
 |.pair a b,cs=>∃ xs ys,cs=xs++ys∧Sh σ a xs∧Sh σ b ys
theorem Sh.len{σ:Ab}:∀ {ty:Ty} {cs:List V},Sh σ ty cs→cs.length=ty.w
 |.int _,_,⟨_,h,_⟩=>by rw[h];rfl
 |.bool,_,⟨_,h⟩=>by rw[h];rfl
 |.str,_,⟨_,h,_⟩=>by rw[h];rfl
 |.sl _,_,h=>by rcases h with h|⟨_,_,_,h,_⟩<;>rw[h]<;>rfl
 |.unit,_,h=>by rw[h];rfl
 |.pair a b,_,⟨xs,ys,h,h1,h2⟩=>by rw[h,BT,h1.len,h2.len];rfl
theorem Sh.mono{σ e:Ab}:∀ {ty:Ty} {cs:List V},Sh σ ty cs→Sh (σ++e) ty cs
 |.int _,_,h=>h
 |.bool,_,h=>h
 |.str,_,h=>h
 | .sl _,_,h=>by
   rcases h with h|⟨l,n,bs,h,h1,h2,h3,h4⟩
   · exact .inl h
   · exact .inr ⟨l,n,bs,h,by rw[Ba (Bx h1)];exact h1,h2,h3,fun i hi=>(h4 i hi).mono⟩
 |.unit,_,h=>h
 |.pair _ _,_,⟨xs,ys,h,h1,h2⟩=>⟨xs,ys,h,h1.mono,h2.mono⟩
def C3(σ:Ab):Prop:=∀ (l:Nat) (b:Blk),σ[l]?=some b→b.k= .ro
def MZ(ι:Am)(σ:Ab)(W:World)(ty:Ty)(cs:List Value):Prop:=
 ∃ ι' e vs,HRel ι' (σ++e) W∧Keeps ι σ ι' (σ++e)∧C3 (σ++e)∧Sh (σ++e) ty vs∧vs.length=cs.length∧∀ (i:Nat) v x,vs[i]?=some v→cs[i]?=some x→v.cell=true∧∀ β,Rel ι' (σ++e) β v x
theorem HRel.lay{ι:Am}{σ:Ab}{W:World}(h:HRel ι σ W)(hro:C3 σ){b off c:Nat}{wd:Nat}{bs:List V}(hb:b<W.heap.size)(hc:∀ (i:Nat) v,bs[i]?=some v→v.cell=true∧∃ x,W.cell? ⟨b,off+i,none⟩=some x∧∀ β,Rel ι σ β v x) :
 HRel (upd ι σ.length ⟨b,off,c⟩) (σ++[⟨.ro,wd,bs⟩]) W∧C3 (σ++[⟨.ro,wd,bs⟩]):=by
 have K:=LC ι σ ⟨b,off,c⟩ ⟨.ro,wd,bs⟩
 have hall:C3 (σ++[⟨.ro,wd,bs⟩]):=by
  intro l blk hl;rcases D2 hl with⟨_,hl⟩|⟨_,rfl⟩
  · exact hro l blk hl
  · rfl
 refine⟨⟨fun l blk hl hk i v hv=>?_,fun l blk hl hk=>?_,fun l l' blk blk' hne hl hl' hk hk'=>?_,fun l blk hl hk=>?_⟩,hall⟩
 · rcases D2 hl with⟨hlt,hl⟩|⟨rfl,rfl⟩
   · rw[Cj _ _ _ _ (by omega)];obtain⟨a,x,b',c⟩:=h.cells l blk hl hk i v hv;exact⟨a,x,b',fun β=>(c β).cellMono K a⟩
   · rw[Bw];obtain⟨a,x,b',c⟩:=hc i v hv;exact⟨a,x,b',fun β=>(c β).cellMono K a⟩
 · have:=hall l blk hl;rw[hk] at this;cases this
 · have:=hall l blk hl;rw[hk] at this;cases this
 · rcases D2 hl with⟨hlt,hl⟩|⟨rfl,rfl⟩
   · rw[Cj _ _ _ _ (by omega)];exact h.there l blk hl hk
   · rw[Bw];exact hb
theorem bN{w:World}{a:Addr}{v:Value}(h:w.cell? a=some v):a.block<w.heap.size:=by
 unfold World.cell? at h;rcases A3 a.block w.heap.size with h1|h1
 · exact h1
 · rw[Array.getElem?_eq_none h1] at h;cases h
theorem Pp{α:Type}{l:List α}{i:Nat}{v:α}(h:l[i]?=some v):i<l.length:=by
 rcases A3 i l.length with h1|h1
 · exact h1
 · rw[AY h1] at h;cases h
section
variable {H:Type} {enc:TypeId×Value→H} {P:Program} {W:World}
theorem UD(d:Nat)(ih:∀ (t:TypeId)(ty:Ty),Gy P d t=some ty→∀ (fuel:Nat)(cs:List Value) x,DataW.trod enc P W 0 (fun _=>true) true fuel t cs=some x→∀ (ι:Am)(σ:Ab),HRel ι σ W→C3 σ→MZ ι σ W ty cs) :
 ∀ (fs:List Field) (off:Nat) (ty:Ty),M9 P (Gy P d) fs off=some ty→∀ (fuel:Nat) (cs:List Value),(∀ g∈fs,∃ x,DataW.trod enc P W 0 (fun _=>true) true fuel g.type ((cs.drop g.offset).take (P.cellsOf g.type))=some x) →
   off+ty.w=cs.length→∀ (ι:Am) (σ:Ab),HRel ι σ W→C3 σ→MZ ι σ W ty (cs.drop off)
 | [],off,ty,h,fuel,cs,_,hl,ι,σ,H,hro=>by
   simp only[M9,Ah] at h;subst h;simp only[Ty.w,Dq] at hl
   have:cs.drop off=[]:=by rw[hl];simp
   rw[this];exact⟨ι,[],[],by simpa using H,by simpa using Keeps.refl ι σ,by simpa using hro,rfl,rfl,by simp⟩
 | g :: r, off,ty,h,fuel,cs,hg,hl,ι,σ,H,hro=>by
   simp only[M9] at h;split at h
   · rename_i a ha;split at h
     · rename_i hc;obtain⟨h1,h2⟩:=hc;split at h
       · rename_i b hb;cases h;simp only[Ty.w] at hl;obtain⟨x,hx⟩:=hg g (by simp);rw[h1] at hx;obtain⟨ι1,e1,vs1,H1,K1,R1,S1,L1,C1⟩:=ih g.type a ha fuel _ x hx ι σ H hro;obtain⟨ι2,e2,vs2,H2,K2,R2,S2,L2,C2⟩:=UD d ih r (off+a.w) b hb fuel cs (fun g' hg'=>hg g' (by simp[hg'])) (by omega) ι1 (σ++e1) H1 R1;refine⟨ι2,e1++e2,vs1++vs2,by rw[← Bh];exact H2,by rw[← Bh];exact K1.trans K2,by rw[← Bh];exact R2,⟨vs1,vs2,rfl,by rw[← Bh];exact S1.mono,by rw[← Bh];exact S2⟩,?_,fun i v y hv hy=>?_⟩
         · rw[BT,L1,L2];simp;omega
         · have hl1:vs1.length=a.w:=S1.len;by_cases hi:i<vs1.length
           · rw[Ba hi] at hv
             have hy':((cs.drop off).take (P.cellsOf g.type))[i]?=some y:=by
              rw[FK,Ac (by omega)];exact hy
             obtain⟨q1,q2⟩:=C1 i v y hv hy';exact⟨q1,fun β=>by rw[← Bh];exact(q2 β).cellMono K2 q1⟩
           · rw[Cn (by omega)] at hv
             have hy':(cs.drop (off+a.w))[i-vs1.length]?=some y:=by
              rw[Hn] at hy ⊢
              have:off+a.w+(i-vs1.length)=off+i:=by omega
              rw[this];exact hy
             obtain⟨q1,q2⟩:=C2 _ v y hv hy';exact⟨q1,fun β=>by rw[← Bh];exact q2 β⟩
       · cases h
     · cases h
   · cases h
theorem WR{b o:Nat}(n:Nat):Addr.add ⟨b,o,none⟩ n=⟨b,o+n,none⟩:=by
 unfold Addr.add;split
 · rename_i h;subst h;rfl
 · rfl
theorem UP {d:Nat} (ih:∀ (t:TypeId) (ty:Ty),Gy P d t=some ty→∀ (fuel:Nat) (cs:List Value) x,DataW.trod enc P W 0 (fun _=>true) true fuel t cs=some x→∀ (ι:Am) (σ:Ab),HRel ι σ W→C3 σ→MZ ι σ W ty cs)
 {e:TypeId} {te:Ty} (hte:Gy P d e=some te) (hw:te.w=P.cellsOf e) {fuel b o:Nat} :
 ∀ (n:Nat),(∀ i,i<n→∃ cs x,W.cells? 0 ⟨b,o+i*te.w,none⟩ te.w=some cs∧DataW.trod enc P W 0 (fun _=>true) true fuel e cs=some x)→∀ (ι:Am) (σ:Ab),HRel ι σ W→C3 σ →
   ∃ (ι':Am) (ext:Ab) (bs:List V),HRel ι' (σ++ext) W∧Keeps ι σ ι' (σ++ext)∧C3 (σ++ext)∧bs.length=n*te.w∧(∀ i,i<n→Sh (σ++ext) te ((bs.drop (i*te.w)).take te.w)) ∧
     ∀ (j:Nat) v,bs[j]?=some v→v.cell=true∧∃ x,W.cell? ⟨b,o+j,none⟩=some x∧∀ β,Rel ι' (σ++ext) β v x
 |0,_,ι,σ,H0,hro=>⟨ι,[],[],by simpa using H0,by simpa using Keeps.refl ι σ,by simpa using hro,by simp,fun i hi=>absurd hi (Sv i),by simp⟩
 | n + 1,hn,ι,σ,H0,hro=>by
   obtain⟨ι1,e1,bs,H1,K1,R1,L1,S1,C1⟩:=UP ih hte hw n (fun i hi=>hn i (Nat.lt_succ_of_lt hi)) ι σ H0 hro;obtain⟨cs,x,hc,hx⟩:=hn n (SG n);obtain⟨ι2,e2,vs,H2,K2,R2,S2,L2,C2⟩:=ih e te hte fuel cs x hx ι1 (σ++e1) H1 R1;obtain⟨_,hcl,hcg⟩:=World.cells?_some hc;refine⟨ι2,e1++e2,bs++vs,by rw[← Bh];exact H2,by rw[← Bh];exact K1.trans K2,by rw[← Bh];exact R2,?_,fun i hi=>?_,fun j v hv=>?_⟩
   · rw[BT,L1,L2,hcl,Jb]
   · rw[← Bh];by_cases h:i<n
     · have h1:(i+1)*te.w≤n*te.w:=Ev _ h;rw[Jb] at h1
       have:((bs++vs).drop (i*te.w)).take te.w=(bs.drop (i*te.w)).take te.w:=by
        rw[List.drop_append_of_le_length (by omega),List.take_append_of_le_length (by rw[E1];omega)]
       rw[this];exact(S1 i h).mono
     · have:i=n:=by omega
       subst this
       have:((bs++vs).drop (i*te.w)).take te.w=vs:=by
        rw[← L1,List.drop_left,KC (by omega)]
       rw[this];exact S2
   · by_cases h:j<bs.length
     · rw[Ba h] at hv;obtain⟨q1,y,q2,q3⟩:=C1 j v hv;exact⟨q1,y,q2,fun β=>by rw[← Bh];exact(q3 β).cellMono K2 q1⟩
     · rw[Cn (by omega)] at hv;have hlt:=Pp hv
       have hlt':j-bs.length<te.w:=by rw[← hcl,← L2];exact hlt
       have hg:=hcg (j-bs.length) hlt';rw[WR] at hg
       have e0:o+n*te.w+(j-bs.length)=o+j:=by omega
       rw[e0] at hg;obtain⟨y,hy⟩:∃ y,cs[j-bs.length]?=some y:=⟨_,Ar (by omega)⟩;obtain⟨q1,q2⟩:=C2 _ v y hv hy;exact⟨q1,y,hg.trans hy,fun β=>by rw[← Bh];exact q2 β⟩
theorem Qn:∀ (d:Nat) (t:TypeId) (ty:Ty),Gy P d t=some ty→∀ (fuel:Nat) (cs:List Value) x,DataW.trod enc P W 0 (fun _=>true) true fuel t cs=some x→∀ (ι:Am) (σ:Ab),HRel ι σ W→C3 σ→MZ ι σ W ty cs
 |0,_,_,h=>by simp[Gy] at h
 | d + 1, t, ty,h=>by
   intro fuel cs x hx ι σ H0 hro
   have one:∀ (v:V) (y:Value),cs=[y]→v.cell=true→(∀ β,Rel ι σ β v y)→Sh σ ty [v]→MZ ι σ W ty cs:=by
    intro v y hc hv hr hs;refine⟨ι,[],[v],by simpa using H0,by simpa using Keeps.refl ι σ,by simpa using hro,by simpa using hs,by rw[hc];rfl,fun i u z hu hz=>?_⟩;rw[hc] at hz
    cases i with
    |zero=>simp at hu hz;subst hu;subst hz;exact⟨hv,by simpa using hr⟩
    |succ i=>simp at hu
   unfold Gy at h;split at h
   · rename_i k hu;cases h;obtain⟨n,hc,_,hwf⟩:=DataW.trod_int hu hx;exact one (.int k n) _ hc rfl (fun β=>.int k n) ⟨n,rfl,hwf⟩
   · rename_i hu;cases h;obtain⟨b,hc,_⟩:=DataW.trod_bool hu hx;exact one (.bool b) _ hc rfl (fun β=>.bool b) ⟨b,rfl⟩
   · rename_i hu;cases h;obtain⟨s,hc,_,hwf⟩:=DataW.trod_string hu hx;exact one (.str s.data.toList) _ hc rfl (fun β=>by have:=Rel.str (ι:=ι) (σ:=σ) (β:=β) s.data.toList;simpa using this) ⟨s.data.toList,rfl,by simpa using hwf⟩
   · rename_i e hu;split at h
     · rename_i te hte;split at h
       · rename_i hw;obtain⟨hw,hpos⟩:=hw;cases h;rcases DataW.trod_slice hu hx with⟨hc,_⟩|⟨a,len,cap,elems,rest,n,_,hc,_,_,hle,hcap,hel,hE,hR,_⟩
         · exact one .nils _ hc rfl (fun β=>.nils none) (.inl rfl)
         · obtain⟨hrl,hR⟩:=hR rfl
           have hcell:∀ i,i<cap→∃ cs' y,W.cells? 0 (a.add (i*P.cellsOf e)) (P.cellsOf e)=some cs'∧DataW.trod enc P W 0 (fun _=>true) true n e cs'=some y:=by
            intro i hi;by_cases h:i<len
            · have h1:=hE i h;obtain⟨y,hy⟩:∃ y,elems[i]?=some y:=⟨_,Ar (by omega)⟩;rw[hy,Bq] at h1;obtain⟨cs',h1,h2⟩:=h1;exact⟨cs',y,h1,h2⟩
            · have h1:=hR (i-len) (by omega);obtain⟨y,hy⟩:∃ y,rest[i-len]?=some y:=⟨_,Ar (by omega)⟩;rw[hy,Bq] at h1;obtain⟨cs',h1,h2⟩:=h1;rw[show len+(i-len)=i by omega] at h1;exact⟨cs',y,h1,h2⟩
           by_cases hc0:cap=0
           · subst hc0
             have:len=0:=by omega
             subst this;exact one .nils _ hc rfl (fun β=>.nils (some a)) (.inl rfl)
           · have hsp:a.spot=none∧a.block<W.heap.size:=by
              obtain⟨cs',y,h1,_⟩:=hcell 0 (by omega);obtain⟨_,h2,h3⟩:=World.cells?_some h1;have h4:=h3 0 (by omega);obtain⟨z,hz⟩:∃ z,cs'[0]?=some z:=⟨_,Ar (by omega)⟩;rw[hz] at h4
              have h5:W.cell? a=some z:=by simpa [Addr.add] using h4
              exact⟨World.cell?_spot h5,bN h5⟩
             obtain⟨ab,ao,asp⟩:=a;obtain⟨hsp,hlt⟩:=hsp;simp only at hsp hlt;subst hsp
             have hcell':∀ i,i<len→∃ cs' y,W.cells? 0 ⟨ab,ao+i*te.w,none⟩ te.w=some cs'∧DataW.trod enc P W 0 (fun _=>true) true n e cs'=some y:=by
              intro i hi;have:=hcell i (by omega);rw[WR,← hw] at this;exact this
             obtain⟨ι1,e1,bs,H1,K1,R1,L1,S1,C1⟩:=UP (Qn d) hte hw len hcell' ι σ H0 hro;obtain⟨H2,R2⟩:=H1.lay R1 (c:=cap*te.w) (wd:=te.w) hlt C1;have K2:=LC ι1 (σ++e1) ⟨ab,ao,cap*te.w⟩ ⟨.ro,te.w,bs⟩
             have hg:((σ++e1)++[(⟨.ro,te.w,bs⟩:Blk)])[(σ++e1).length]?=some ⟨.ro,te.w,bs⟩:=by simp
             refine⟨_,e1++[⟨.ro,te.w,bs⟩],[.slice (σ++e1).length 0 len],by rw[← Bh];exact H2,by rw[← Bh];exact K1.trans K2,by rw[← Bh];exact R2,.inr ⟨_,len,bs,rfl,by rw[← Bh];exact hg,L1,by omega,fun i hi=>by rw[← Bh];exact(S1 i hi).mono⟩,by rw[hc];rfl,fun i u z hu hz=>?_⟩;rw[hc] at hz
             cases i with
             | zero=>
               simp at hu hz;subst hu;subst hz;refine⟨rfl,fun β=>?_⟩;have:=Rel.slice (ι:=upd ι1 (σ++e1).length ⟨ab,ao,cap*te.w⟩) (σ:=(σ++e1)++[⟨.ro,te.w,bs⟩]) (β:=β) (σ++e1).length 0 len cap ⟨.ro,te.w,bs⟩ hg hle (by rw[Bw];simp) (by first|assumption|(simp only;omega));rw[Bw] at this;simpa using this
             |succ i=>simp at hu
       · cases h
     · cases h
   · rename_i fs hu;split at h
     · rename_i ty' hty;split at h
       · rename_i hw;cases h;obtain⟨xs,n,_,_,hl,hxl,hf⟩:=DataW.trod_struct hu hx
         have:=UD (enc:=enc) d (Qn d) fs.toList 0 _ hty n cs (fun g hg=>by
          obtain⟨i,hi⟩:=Gl hg;have h1:=hf i g (by simpa using hi)
          have:i<xs.length:=by rw[hxl];have:=Pp hi;simpa using this
          exact⟨_,h1.trans (Ar this)⟩) (by omega) ι σ H0 hro
         simpa using this
       · cases h
     · cases h
   · cases h
end
open Go.RowKit Go.WideShapes Go.ChangeShapes
def Tt(P:Program)(d:Nat)(t:TypeId):Option (Ty×Bool):=
 match Gy P d t with
 | some ty=>(match P.underlying t with
   |some (.struct _)=>some (ty,true)
   |some (.int _)|some .bool|some .string|some (.slice _)=>some (ty,false)
   |_=>none)
 |none=>none
def KF(P:Program)(d:Nat):List TypeId→Option (List (Ty×Bool))
 |[]=>some []
 | t::r=>match Tt P d t,KF P d r with
   |some a,some b=>some (a::b)
   |_,_=>none
def ArgOk(σ:Ab):Ty×Bool→V→Prop
 |(ty,true),v=>∃ cs,v= .agg cs∧Sh σ ty cs∧cs.all V.cell=true
 |(ty,false),v=>Sh σ ty [v]∧v.cell=true
def Kw(σ:Ab):List (Ty×Bool)→List V→Prop
 |[],[]=>True
 |a::r,v::s=>ArgOk σ a v∧Kw σ r s
 |_,_=>False
theorem ArgOk.mono{σ e:Ab}{a:Ty×Bool}{v:V}(h:ArgOk σ a v):ArgOk (σ++e) a v:=by
 obtain⟨ty,b⟩:=a
 cases b with
 |true=>obtain⟨cs,h1,h2,h3⟩:=h;exact⟨cs,h1,h2.mono,h3⟩
 |false=>exact⟨h.1.mono,h.2⟩
theorem ArgOk.noBox{σ:Ab}{a:Ty×Bool}{v:V}(h:ArgOk σ a v):∀ i o,v≠.box i o:=by
 obtain⟨ty,b⟩:=a;intro i o e;subst e
 cases b with
 |true=>obtain⟨cs,h1,_⟩:=h;cases h1
 |false=>have:=h.2;cases this
section
variable {H:Type} {enc:TypeId×Value→H} {P:Program} {W:World} {r:Reach} {base:Nat}
theorem ib {d:Nat} {t:TypeId} {a:Ty×Bool} (ha:Tt P d t=some a) {v:Value} {dd:DataW H} {ps:List MemPlace} (h:DataW.Trod enc P W 0 (fun _=>true) true t v dd ps) (hok:Value.okWide P W r base t v)
 (ι:Am) (σ:Ab) (H0:HRel ι σ W) (hro:C3 σ) :
 ∃ ι' e u,HRel ι' (σ++e) W∧Keeps ι σ ι' (σ++e)∧C3 (σ++e)∧ArgOk (σ++e) a u∧∀ β,Rel ι' (σ++e) β u v:=by
 unfold Tt at ha
 split at ha
 · rename_i ty hty
   obtain⟨fuel,hx⟩:=h;obtain⟨ι',e,vs,h1,h2,h3,h4,h5,h6⟩:=Qn d t ty hty fuel _ _ hx ι σ H0 hro
   have one:∀ (hc:v.cells=#[v]),a=(ty,false)→∃ ι' e u,HRel ι' (σ++e) W∧Keeps ι σ ι' (σ++e)∧C3 (σ++e)∧ArgOk (σ++e) a u∧∀ β,Rel ι' (σ++e) β u v:=by
    intro hc ea;rw[hc] at h5 h6
    match vs,h5,h4,h6 with
    | [u],_,h4,h6=>
      obtain⟨c1,c2⟩:=h6 0 u v rfl rfl;exact⟨ι',e,u,h1,h2,h3,by rw[ea];exact⟨h4,c1⟩,c2⟩
   split at ha
   · rename_i fs hu;cases ha;obtain⟨cs,rfl,_⟩:=okWide_struct hu hok;replace h5:vs.length=cs.toList.length:=h5;refine⟨ι',e,.agg vs,h1,h2,h3,⟨vs,rfl,h4,?_⟩,fun β=>?_⟩
     · rw[Cp];intro u hu';obtain⟨i,hi⟩:=Gl hu'
       have:i<cs.toList.length:=by rw[← h5];exact Pp hi
       exact(h6 i u _ hi (Ar this)).1
     · have:=Rel.agg (ι:=ι') (σ:=σ++e) (β:=β) vs cs.toList h5 (fun u hu'=>by
        obtain⟨i,hi⟩:=Gl hu'
        have:i<cs.toList.length:=by rw[← h5];exact Pp hi
        exact(h6 i u _ hi (Ar this)).1) (fun i u w hi hw=>(h6 i u w hi hw).2 β)
       simpa using this
   · rename_i k hu;cases ha;obtain⟨n,rfl⟩:=okWide_int hu hok;exact one rfl rfl
   · rename_i hu;cases ha;obtain⟨n,rfl⟩:=okWide_bool hu hok;exact one rfl rfl
   · rename_i hu;cases ha;obtain⟨n,rfl⟩:=okWide_string hu hok;exact one rfl rfl
   · rename_i el hu;cases ha;obtain⟨x,y,z,rfl⟩:=okWide_slice hu hok;exact one rfl rfl
   · cases ha
 · cases ha
theorem Vh{d:Nat}:∀ {ts:List TypeId} {tys:List (Ty×Bool)},KF P d ts=some tys→∀ {vs:List Value} {ds:List (DataW H)} {ps:List MemPlace},DataW.TrodAll enc P W 0 (fun _=>true) true ts vs ds ps →
 (∀ (j:Nat) t v,ts[j]?=some t→vs[j]?=some v→Value.okWide P W r base t v)→∀ (ι:Am) (σ:Ab),HRel ι σ W→C3 σ →
 ∃ ι' e us,HRel ι' (σ++e) W∧Keeps ι σ ι' (σ++e)∧C3 (σ++e)∧Kw (σ++e) tys us∧us.length=vs.length∧∀ (i:Nat) u v,us[i]?=some u→vs[i]?=some v→(∀ j o,u≠.box j o)∧∀ β,Rel ι' (σ++e) β u v
 | [],tys,h,vs,ds,ps,hd,_,ι,σ,H0,hro=>by
   obtain⟨rfl,_,_⟩:=trodAll_nil hd
   cases h
   exact⟨ι,[],[],by simpa using H0,by simpa using Keeps.refl ι σ,by simpa using hro,trivial,rfl,by simp⟩
 | t :: ts,tys,h,vs,ds,ps,hd,hok,ι,σ,H0,hro=>by
   obtain⟨v,vs',x,ds',p,q,rfl,rfl,rfl,h1,h2⟩:=trodAll_cons hd
   unfold KF at h
   split at h
   · rename_i a b ha hb
     cases h
     obtain⟨ι1,e1,u,H1,K1,R1,A1,C1⟩:=ib ha h1 (hok 0 t v rfl rfl) ι σ H0 hro
     obtain⟨ι2,e2,us,H2,K2,R2,A2,L2,C2⟩:=Vh hb h2 (fun j t' v' hj hv=>hok (j+1) t' v' hj hv) ι1 (σ++e1) H1 R1
     refine⟨ι2,e1++e2,u::us,by rw[← Bh];exact H2,by rw[← Bh];exact K1.trans K2,by rw[← Bh];exact R2,by rw[← Bh];exact⟨A1.mono,A2⟩,by simp[L2],fun i u' v' hu hv=>?_⟩
     rw[← Bh]
     cases i with
     | zero=>
       simp at hu hv;subst hu;subst hv
       exact⟨A1.noBox,fun β=>(C1 β).mono K2 (fun j o e=>absurd e (A1.noBox j o))⟩
     |succ i=>exact C2 i u' v' (by simpa using hu) (by simpa using hv)
   · cases h
end
def SU(P:Program)(ts:List TypeId):Bool:=ts.all fun t=>P.readableRec t&&decide (t<P.types.size)
theorem Uw{H:Type}{enc:TypeId×Value→H}{P:Program}(hl:laidOutB P=true){W W':World}{sp':Nat→Bool}:∀ {ts:List TypeId} {vs:List Value} {ds:List (DataW H)} {ps:List MemPlace},SU P ts=true →
 DataW.TrodAll enc P W 0 (fun _=>true) true ts vs ds ps→(∀ p∈ps,W.sameAt W' p)→(∀ p∈ps,sp' p.block=true)→DataW.TrodAll enc P W' 0 sp' true ts vs ds ps
 | [],vs,ds,ps,_,h,_,_=>by
   obtain⟨rfl,rfl,rfl⟩:=trodAll_nil h
   rfl
 | t::ts,vs,ds,ps,hr,h,h1,h2=>by
   obtain⟨v,vs',x,ds',p,q,rfl,rfl,rfl,g1,g2⟩:=trodAll_cons h
   unfold SU at hr
   rw[DI,Aj,Aj,B7] at hr
   exact⟨p,q,WideElems.Trod_stays hl hr.1.1 hr.1.2 g1 (fun y hy=>h1 y (by simp[hy])) (fun y hy=>h2 y (by simp[hy])),Uw hl hr.2 g2 (fun y hy=>h1 y (by simp[hy])) (fun y hy=>h2 y (by simp[hy])),rfl⟩
theorem b8 {H:Type} {enc:TypeId×Value→H} {P:Program} {f:Func} {s:ChangeSpec} {apart fresh handsOn again:Bool} {W W':World} {args:Array Value} {v:Value} {ds gs:List (DataW H)} {before pa pv:List MemPlace}
 (hW:DataW.Whole enc P f.params.toList s.vars apart W args.toList ds gs before)
 (hres:∀ (b:Nat) (sp:Nat→Bool) (hd:Bool),DataW.TrodAll enc P W' b sp hd f.resultTypes.toList (v.resultList f.resultTypes.size) (s.fn H (ds++gs)).results [])
 (hargs:∀ sp:Nat→Bool,(∀ p∈before,sp p.block=true)→DataW.TrodAll enc P W' 0 sp true f.params.toList args.toList (s.fn H (ds++gs)).args pa)
 (hvars:∀ sp:Nat→Bool,(∀ p∈before,sp p.block=true)→DataW.TrodVars enc P W' sp s.vars (s.fn H (ds++gs)).vars pv)
 (hps:before=pa++pv) (hb:Below W.heap.size W W')
 (hok:∀ (j:Nat) (t:TypeId) (r:Value),f.resultTypes[j]?=some t→(v.resultList f.resultTypes.size)[j]?=some r→Value.okWide P W' .any 0 t r) :
 s.post enc P f apart fresh handsOn again W args v W':=by
 have hlt:∀ p∈before,p.block<W.heap.size:=fun p hp=>hW.lt p hp
 have hold:∀ p∈before,(fun b=>decide (b<W.heap.size)) p.block=true:=fun p hp=>by simpa using hlt p hp
 refine⟨ds,gs,before,[],pa,pv,hW,hres _ _ _,hargs _ hold,hvars _ hold,World.keptBut_mono (fun p hp=>⟨hp,?_⟩) (hb.frame (·∈before)),fun _=>?_⟩
 · rw[hps,CL] at hp
   exact Or.inr hp
 · obtain⟨_,_,_,_,_,hz,hn⟩:=hW
   refine⟨hok,_,_,([]++pa)++pv,⟨[]++pa,pv,trodAll_append (hargs _ (fun _ _=>rfl)) (hres _ _ _),hvars _ (fun _ _=>rfl),rfl,?_,?_⟩,?_⟩
   · intro b off hp
     have hin:MemPlace.cell b off∈before:=by rw[hps];simpa using hp
     rw[hb.frozen (hlt _ hin)];exact hz b off hin
   · intro ha;have:=hn ha;rw[hps] at this;simpa using this
   · intro p hp _;rw[hps];simpa using hp
theorem cC {H:Type} {enc:TypeId×Value→H} {P:Program} {f:FuncId} {fn:Func} {s:ChangeSpec} {apart fresh handsOn again:Bool} {sem:AX} {tys:List (Ty×Bool)} {d:Nat} {tb:TypeId}
 (hs:Ay P f sem) (has:KF P d fn.params.toList=some tys) (hrows:SU P fn.params.toList=true) (hl:laidOutB P=true)
 (hres:fn.resultTypes=#[tb]) (htb:P.underlying tb=some .bool) (hvars:s.vars=[])
 (hspec:∀ ds:List (DataW H),ds.length=tys.length→s.fn H ds={ results:=[.lit (.bool true)],args:=ds })
 (law:∀ (σ:Ab) (us:List V),C3 σ→Kw σ tys us→sem us σ fun r _=>r= .bool true)
 {W:World} {base:Nat} {args:Array Value} {ds gs:List (DataW H)} {before:List MemPlace}
 (hval:∀ (j:Nat) t v,fn.params[j]?=some t→args[j]?=some v→Value.okWide P W .any base t v)
 (hW:DataW.Whole enc P fn.params.toList s.vars apart W args.toList ds gs before) :
 Calls P f args W fun e W'=>∃ v,e= .returned v∧s.post enc P fn apart fresh handsOn again W args v W':=by
 have hW':=hW
 obtain⟨p,q,hA,hV,rfl,hfz,hnd⟩:=hW
 rw[hvars] at hV
 obtain⟨rfl,rfl⟩:=trodVars_none hV
 rw[Mm] at hW'
 obtain⟨ι,e,us,H1,_,R1,A1,L1,C1⟩:=Vh (d:=d) has hA (fun j t v hj hv=>hval j t v (by simpa using hj) (by simpa using hv)) (fun _=>⟨0,0,0⟩) [] ⟨by simp,by simp,by simp,by simp⟩ (fun l b h=>by simp at h)
 simp only[B5] at H1 R1 A1 C1
 have hc:=hs Phm.no ι e W us args.toList _ (.no e) (by rw[OX];exact H1) (by rw[OX];exact⟨L1,fun i u v hu hv=>(C1 i u v hu hv).2⟩) (law e us R1 A1)
 have hlen:ds.length=tys.length:=by
  have h1:∀ {ts:List TypeId} {tys:List (Ty×Bool)},KF P d ts=some tys→tys.length=ts.length:=by
   intro ts
   induction ts with
   |nil=>intro tys h;cases h;rfl
   | cons t ts ih=>
     intro tys h;unfold KF at h;split at h
     · rename_i a b _ hb;cases h;simp[ih hb]
     · cases h
  have h2:∀ {ts:List TypeId} {vs:List Value} {ds:List (DataW H)} {ps:List MemPlace},DataW.TrodAll enc P W 0 (fun _=>true) true ts vs ds ps→ds.length=ts.length:=by
   intro ts
   induction ts with
   |nil=>intro vs ds ps h;obtain⟨_,rfl,_⟩:=trodAll_nil h;rfl
   | cons t ts ih=>
     intro vs ds ps h;obtain⟨v,vs',x,ds',p,q,rfl,rfl,rfl,_,g2⟩:=trodAll_cons h;simp[ih g2]
  rw[h1 has,h2 hA]
 refine(Calls.mono (by simpa using hc) fun en W' hd=>?_:Calls P f args W _)
 obtain⟨x,r,σ',ι',rfl,rfl,_,hx,_,hstep⟩:=hd
 rw[OX,OX] at hstep
 have hx':=hx (fun _=>0)
 cases hx'
 have hb:Below W.heap.size W W':=⟨hstep.os,hstep.tape,hstep.output,hstep.size,fun k hk=>hstep.frame k hk fun l blk hl hk'=>by have:=R1 l blk hl;rw[hk'] at this;cases this⟩
 have hfn:=hspec (ds++[]) (by simpa using hlen)
 have hlt:∀ x∈p,x.block<W.heap.size:=fun x hx=>hW'.lt x hx
 refine⟨_,rfl,b8 (pa:=p) (pv:=[]) hW' (fun _ _ _=>?_) (fun sp hsp=>?_) (fun sp _=>?_) (by simp) hb (ok_one hres rfl (okWide_bool_mk htb true))⟩
 · rw[hfn,hres]
   exact trodAll_cons_mk (shut_bool htb true) trodAll_mk0
 · rw[hfn]
   simp only[Mm];exact Uw hl hrows hA (fun x hx=>hb.same (hlt x hx)) hsp
 · rw[hfn,hvars]
   rfl
open Go.ChangeShapes
mutual
def CT.wf:(t:CT)→t.D→Prop
 |.int k,n=>(Lit.int k n).wf=true
 |.bool,_=>True
 |.str,s=>s.length≤maxLen
 |.ifc,_=>True
 |.sl r,l=>@List.length r.D l≤maxLen∧∀ x:r.D,@Membership.mem r.D (List r.D) inferInstance l x→RT.wf r x
def RT.wf:(r:RT)→r.D→Prop
 |.one t,x=>CT.wf t x
 |.cons t r,x=>CT.wf t x.1∧RT.wf r x.2
end
def AgX.wf:(l:List (Ql×CT))→AgX l→Prop
 |[],_=>True
 |[a],x=>a.2.wf x
 |a::b::r,x=>a.2.wf x.1∧AgX.wf (b::r) x.2
def HT.wf:(h:HT)→h.D→Prop
 |.one _ t,x=>t.wf x
 |.agg l,x=>AgX.wf l x
def TuX.wf:(l:List HT)→TuX l→Prop
 |[],_=>True
 |[a],x=>a.wf x
 |a::b::r,x=>a.wf x.1∧TuX.wf (b::r) x.2
def EE:List CT→RT
 |[]=>.one .bool
 |[a]=>.one a
 |a::b::r=>.cons a (EE (b::r))
def Ty.cts:Ty→List CT
 |.int k=>[.int k]
 |.bool=>[.bool]
 |.str=>[.str]
 |.sl t=>[.sl (EE t.cts)]
 |.unit=>[]
 |.pair a b=>a.cts++b.cts
def Ty.good:Ty→Bool
 |.sl t=>Nat.blt 0 t.w&&t.good
 |.pair a b=>a.good&&b.good
 |_=>true
def Is:Ty×Bool→HT
 |(ty,true)=>.agg (ty.cts.map fun t=>(.frz,t))
 |(ty,false)=>match ty.cts with|[c]=>.one .frz c|_=>.agg []
def OZ:Ty×Bool→Bool
 |(ty,true)=>ty.good
 |(ty,false)=>ty.good&&ty.cts.length == 1
def DL:List CT→Type
 |[]=>Unit
 |a::r=>a.D×DL r
def DL.wf:(l:List CT)→DL l→Prop
 |[],_=>True
 |a::r,x=>a.wf x.1∧DL.wf r x.2
def DL.enc:(l:List CT)→DL l→List PV
 |[],_=>[]
 |a::r,x=>CT.enc a x.1::DL.enc r x.2
def DL.encF:(l:List CT)→DL l→List PV
 |[],_=>[]
 |a::r,x=>(CT.dv .frz a x.1).enc::DL.encF r x.2
def DL.app:(l m:List CT)→DL l→DL m→DL (l++m)
 |[],_,_,y=>y
 |_::l,m,x,y=>(x.1,DL.app l m x.2 y)
theorem DL.app_enc:∀ (l m:List CT) (x:DL l) (y:DL m),DL.enc (l++m) (DL.app l m x y)=DL.enc l x++DL.enc m y
 |[],_,_,_=>rfl
 | a::l,m,x,y=>by
   show CT.enc a x.1::DL.enc (l++m) (DL.app l m x.2 y)=CT.enc a x.1::(DL.enc l x.2++DL.enc m y)
   rw[DL.app_enc l m x.2 y]
theorem DL.app_encF:∀ (l m:List CT) (x:DL l) (y:DL m),DL.encF (l++m) (DL.app l m x y)=DL.encF l x++DL.encF m y
 |[],_,_,_=>rfl
 | a::l,m,x,y=>by
   show (CT.dv .frz a x.1).enc::DL.encF (l++m) (DL.app l m x.2 y)=(CT.dv .frz a x.1).enc::(DL.encF l x.2++DL.encF m y)
   rw[DL.app_encF l m x.2 y]
theorem DL.app_wf:∀ (l m:List CT) (x:DL l) (y:DL m),DL.wf l x→DL.wf m y→DL.wf (l++m) (DL.app l m x y)
 |[],_,_,_,_,h=>h
 |_::l,m,x,y,h,h'=>⟨h.1,DL.app_wf l m x.2 y h.2 h'⟩
theorem DL.len:∀ (l:List CT) (x:DL l),(DL.enc l x).length=l.length
 |[],_=>rfl
 |_::l,x=>by show _+1=_+1;rw[DL.len l x.2]
theorem DL.lenF:∀ (l:List CT) (x:DL l),(DL.encF l x).length=l.length
 |[],_=>rfl
 |_::l,x=>by show _+1=_+1;rw[DL.lenF l x.2]
def DL.rt:(l:List CT)→DL l→(EE l).D
 |[],_=>false
 |[_],x=>x.1
 |_::b::r,x=>(x.1,DL.rt (b::r) x.2)
theorem DL.rt_enc:∀ (l:List CT) (x:DL l),l≠[]→RT.enc (EE l) (DL.rt l x)=DL.enc l x
 |[],_,h=>absurd rfl h
 |[_],_,_=>rfl
 | a::b::r,x,_=>by
   show CT.enc a x.1::RT.enc (EE (b::r)) (DL.rt (b::r) x.2)=CT.enc a x.1::DL.enc (b::r) x.2
   rw[DL.rt_enc (b::r) x.2 (by simp)]
theorem DL.rt_wf:∀ (l:List CT) (x:DL l),l≠[]→DL.wf l x→RT.wf (EE l) (DL.rt l x)
 |[],_,h,_=>absurd rfl h
 |[_],_,_,h=>h.1
 |a::b::r,x,_,h=>⟨h.1,DL.rt_wf (b::r) x.2 (by simp) h.2⟩
def DL.ag:(l:List CT)→DL l→AgX (l.map fun t=>(Ql.frz,t))
 |[],_=>()
 |[_],x=>x.1
 |_::b::r,x=>(x.1,DL.ag (b::r) x.2)
theorem DL.ag_enc:∀ (l:List CT) (x:DL l),DV.encL (KV (l.map fun t=>(Ql.frz,t)) (DL.ag l x))=DL.encF l x
 |[],_=>rfl
 |[_],_=>rfl
 | a::b::r,x=>by
   show (CT.dv .frz a x.1).enc::DV.encL (KV ((b::r).map fun t=>(Ql.frz,t)) (DL.ag (b::r) x.2))=(CT.dv .frz a x.1).enc::DL.encF (b::r) x.2
   rw[DL.ag_enc (b::r) x.2]
theorem DL.ag_wf:∀ (l:List CT) (x:DL l),DL.wf l x→AgX.wf (l.map fun t=>(Ql.frz,t)) (DL.ag l x)
 |[],_,_=>trivial
 |[_],_,h=>h.1
 |a::b::r,x,h=>⟨h.1,DL.ag_wf (b::r) x.2 h.2⟩
theorem Hb:∀ (t:Ty),t.cts.length=t.w
 |.int _|.bool|.str|.sl _|.unit=>rfl
 |.pair a b=>by simp only[Ty.cts,Ty.w,BT,Hb a,Hb b]
def ωro(σ:Ab):Nat→W:=fun l=>if l<σ.length then .frz else .none
theorem ωro_frz{σ:Ab}{l:Nat}{b:Blk}(h:σ[l]?=some b):ωro σ l= .frz:=by
 unfold ωro;rw[Ac (Bx h)]
theorem NT:∀ (a b:List PV) (i:Nat),i<a.length→Aa (a++b) i=Aa a i
 |[],_,_,h=>by cases h
 |_::_,_,0,_=>rfl
 |_::a,b,i+1,h=>NT a b i (by simpa using h)
theorem NM:∀ (a b:List PV) (i:Nat),Aa (a++b) (a.length+i)=Aa b i
 |[],_,_=>by simp
 | _::a,b,i=>by
   have:=NM a b i
   simp only[BS,As,Su]
   exact this
theorem Qr:∀ (a b:List V) (i:Nat),i<a.length→get (a++b) i=get a i
 |[],_,_,h=>by cases h
 |_::_,_,0,_=>rfl
 |_::a,b,i+1,h=>Qr a b i (by simpa using h)
theorem Qm:∀ (a b:List V) (i:Nat),get (a++b) (a.length+i)=get b i
 |[],_,_=>by simp
 | _::a,b,i=>by
   have:=Qm a b i
   simp only[BS,As,Su]
   exact this
theorem Qo:∀ (l:List V) (o n i:Nat),i<n→get ((l.drop o).take n) i=get l (o+i)
 |[],o,n,i,_=>by simp[get]
 |c::r,0,0,i,h=>by cases h
 |c::r,0,n+1,0,_=>rfl
 | c::r,0,n+1,i+1,h=>by
   have:=Qo r 0 n i (by omega)
   simp only[AQ] at this
   simp only[Mt,SX,get,AQ]
   simpa using this
 | c::r,o+1,n,i,h=>by
   have:=Qo r o n i h
   rw[List.drop_succ_cons,this,Su]
   rfl
theorem VG{w:Nat}:∀ (es:List (List PV)) (i j:Nat),(∀ e∈es,e.length=w)→j<w→i<es.length→Aa es.flatten (i*w+j)=Aa (Aw es i) j
 |[],i,_,_,_,h=>by cases h
 | e::r,0,j,hw,hj,_=>by
   have he:=hw e (Ta ..)
   rw[Ic,AQ,Eu,NT _ _ _ (by omega)]
   rfl
 | e::r,i+1,j,hw,hj,h=>by
   have he:=hw e (Ta ..)
   rw[Eu,show (i+1)*w+j=e.length+(i*w+j) by rw[he,Jb];omega,NM]
   exact VG r i j (fun e h=>hw e (List.mem_cons_of_mem _ h)) hj (by simpa using h)
theorem Wp {α:Type}(f:α→List PV):∀ (l:List α) (i:Nat) (h:i<l.length),Aw (l.map f) i=f l[i]
 |[],_,h=>by cases h
 |_::_,0,_=>rfl
 |_::l,i+1,h=>Wp f l i (by simpa using h)
theorem L7{σ:Ab}:∀ (ty:Ty) {cs:List V},ty.good=true→Sh σ ty cs→∃ x:DL ty.cts,DL.wf ty.cts x ∧
 (∀ i,RC σ (ωro σ) .fz (Aa (DL.enc ty.cts x) i) (get cs i))∧∀ i hd p,RC σ (ωro σ) (.at hd p) (Aa (DL.encF ty.cts x) i) (get cs i)
 | .int k,cs,_,⟨n,h,hw⟩=>by
   subst h;exact⟨(n,()),⟨hw,trivial⟩,fun i=>by cases i<;>first|exact .v _ _ rfl|exact .undef _ _,fun i hd p=>by cases i<;>first|exact .v _ _ rfl|exact .undef _ _⟩
 | .bool,cs,_,⟨b,h⟩=>by
   subst h;exact⟨(b,()),⟨trivial,trivial⟩,fun i=>by cases i<;>first|exact .v _ _ rfl|exact .undef _ _,fun i hd p=>by cases i<;>first|exact .v _ _ rfl|exact .undef _ _⟩
 | .str,cs,_,⟨s,h,hl⟩=>by
   subst h;exact⟨(s,()),⟨hl,trivial⟩,fun i=>by cases i<;>first|exact .v _ _ rfl|exact .undef _ _,fun i hd p=>by cases i<;>first|exact .v _ _ rfl|exact .undef _ _⟩
 | .unit,cs,_,h=>by
   have h:cs=[]:=h;subst h;exact⟨(),trivial,fun i=>.undef _ _,fun i hd p=>.undef _ _⟩
 | .pair a b,cs,hg,⟨xs,ys,h,h1,h2⟩=>by
   simp only[Ty.good,Aj] at hg;obtain⟨x,x1,x2,x3⟩:=L7 a hg.1 h1;obtain⟨y,y1,y2,y3⟩:=L7 b hg.2 h2;have hl:=h1.len;subst h;refine⟨DL.app _ _ x y,DL.app_wf _ _ x y x1 y1,fun i=>?_,fun i hd p=>?_⟩
   · simp only[Ty.cts];rw[DL.app_enc];by_cases hi:i<a.w
     · rw[NT _ _ _ (by rw[DL.len,Hb];exact hi),Qr _ _ _ (by rw[hl];exact hi)];exact x2 i
     · obtain⟨j,rfl⟩:=Nat.exists_eq_add_of_le (Nat.le_of_not_lt hi);have e1:=NM (DL.enc a.cts x) (DL.enc b.cts y) j;have e2:=Qm xs ys j;rw[DL.len,Hb] at e1;rw[hl] at e2;rw[e1,e2];exact y2 j
   · simp only[Ty.cts];rw[DL.app_encF];by_cases hi:i<a.w
     · rw[NT _ _ _ (by rw[DL.lenF,Hb];exact hi),Qr _ _ _ (by rw[hl];exact hi)];exact x3 i hd p
     · obtain⟨j,rfl⟩:=Nat.exists_eq_add_of_le (Nat.le_of_not_lt hi);have e1:=NM (DL.encF a.cts x) (DL.encF b.cts y) j;have e2:=Qm xs ys j;rw[DL.lenF,Hb] at e1;rw[hl] at e2;rw[e1,e2];exact y3 j hd p
 | .sl t,cs,hg,h=>by
   simp only[Ty.good,Aj] at hg;have hw0:0<t.w:=Ca hg.1
   have hne:t.cts≠[]:=by intro e;have:=Hb t;rw[e] at this;simp only[Az] at this;omega
   rcases h with h|⟨l,n,bs,h,hb,hbl,hn,he⟩
   · subst h;refine⟨(([]:List (EE t.cts).D),()),⟨⟨FL _,fun x hx=>by cases hx⟩,trivial⟩,fun i=>?_,fun i hd p=>?_⟩
     · cases i<;>first|exact .nil _ _|exact .undef _ _
     · cases i<;>first|exact .nil _ _|exact .undef _ _
   · subst h
     have ex:∀ i,∃ x:DL t.cts,i<n→DL.wf t.cts x∧(∀ k,RC σ (ωro σ) .fz (Aa (DL.enc t.cts x) k) (get ((bs.drop (i*t.w)).take t.w) k)):=by
      intro i;by_cases hi:i<n
      · obtain⟨x,h1,h2,_⟩:=L7 t hg.2 (he i hi);exact⟨x,fun _=>⟨h1,h2⟩⟩
      · have h0:∀ l:List CT,Nonempty (DL l):=by
         intro l
         induction l with
         |nil=>exact⟨()⟩
         |cons a r ih=>obtain⟨y⟩:=ih;exact⟨(a.dflt,y)⟩
        obtain⟨y⟩:=h0 t.cts;exact⟨y,fun h=>absurd h hi⟩
     let f:Nat→DL t.cts:=fun i=>Classical.choose (ex i)
     have hf:∀ i,i<n→DL.wf t.cts (f i)∧∀ k,RC σ (ωro σ) .fz (Aa (DL.enc t.cts (f i)) k) (get ((bs.drop (i*t.w)).take t.w) k):=fun i hi=>Classical.choose_spec (ex i) hi
     let L:List (EE t.cts).D:=(List.range n).map fun i=>DL.rt t.cts (f i)
     have hL:L.length=n:=by simp[L]
     have hLw:∀ e∈L.map (RT.enc (EE t.cts)),e.length=t.w:=by
      intro e he;obtain⟨y,hy,rfl⟩:=List.mem_map.mp he;obtain⟨i,_,rfl⟩:=List.mem_map.mp hy;rw[DL.rt_enc _ _ hne,DL.len,Hb]
     have hcell:∀ k,k<L.length*t.w→RC σ (ωro σ) .fz (Aa (L.map (RT.enc (EE t.cts))).flatten k) (get bs (0+k)):=by
      intro k hk
      have hdm:k / t.w*t.w+k % t.w=k:=by rw[Pq];exact PB k t.w
      have hmod:=Hm k hw0
      have hdiv:k / t.w<n:=by rw[hL] at hk;exact(Pn hw0).2 hk
      have e1:=VG (L.map (RT.enc (EE t.cts))) (k / t.w) (k % t.w) hLw hmod (by rw[A6,hL];exact hdiv);rw[hdm] at e1;rw[e1,Wp _ _ _ (by rw[hL];exact hdiv),AQ];have e2:=Qo bs (k / t.w*t.w) t.w (k % t.w) hmod;rw[hdm] at e2
      have e3:L[k / t.w]'(by rw[hL];exact hdiv)=DL.rt t.cts (f (k / t.w)):=by simp[L]
      rw[e3,DL.rt_enc _ _ hne,← e2];exact(hf _ hdiv).2 _
     have hwf:∀ x∈L,RT.wf (EE t.cts) x:=by
      intro x hx;obtain⟨i,hi,rfl⟩:=List.mem_map.mp hx;exact DL.rt_wf _ _ hne (hf i (List.mem_range.mp hi)).1
     have hle:0+(L.map (RT.enc (EE t.cts))).length*t.w≤bs.length:=by rw[A6,hL,hbl];omega
     refine⟨(L,()),⟨⟨by rw[hL];exact hn,hwf⟩,trivial⟩,fun i=>?_,fun i hd p=>?_⟩
     · cases i with
       |succ i=>exact .undef _ _
       |zero=>exact .sl _ _ _ _ _ _ _ hb (by simp) (ωro_frz hb) (fun e=>by cases e) (by rw[A6,hL]) hLw hle fun k hk=>hcell k (by rw[A6] at hk;exact hk)
     · cases i with
       |succ i=>exact .undef _ _
       |zero=>exact .sl _ _ _ _ _ _ _ hb (by simp) (ωro_frz hb) (fun _ e=>by rcases e with e|⟨_,_,e⟩<;>cases e) (by rw[A6,hL]) hLw hle fun k hk=>hcell k (by rw[A6] at hk;exact hk)
structure ArgD (σ:Ab) (v:PV) (u:V):Prop where
 rc:∀ hd p c,RC σ (ωro σ) (.at hd p) (v.fcell c) (u.fcell c)
 sh:AD v u
 nx:∀ c i pb tp,(v.fcell c).q≠some (.bor (.x i) pb tp)
theorem jZ{v:V}(h:v.cell=true):(∀ us,v≠.agg us)∧∀ us,v≠.tup us:=by
 constructor<;>rintro us rfl<;>cases h
theorem Ti:∀ (l:List CT) (x:DL l) (i:Nat) (a:Hd) (pb:List Nat) (tp:Bool),(Aa (DL.encF l x) i).q≠some (.bor a pb tp)
 |[],_,_,_,_,_=>by simp[DL.encF,Aa,PV.q]
 |c::r,x,0,a,pb,tp=>by cases c<;>simp[DL.encF,Aa,CT.dv,DV.enc,PV.q]
 |_::r,x,i+1,a,pb,tp=>Ti r x.2 i a pb tp
theorem Wn{σ:Ab}{a:Ty×Bool}{u:V}(hg:OZ a=true)(h:ArgOk σ a u):∃ x:(Is a).D,(Is a).wf x∧ArgD σ ((Is a).dv x).enc u:=by
 obtain⟨ty,b⟩:=a
 cases b with
 | true=>
   obtain⟨cs,rfl,hs,hc⟩:=h;obtain⟨x,h1,_,h3⟩:=L7 ty hg hs;have hle:=hs.len;refine⟨DL.ag ty.cts x,DL.ag_wf _ _ h1,?_⟩
   have he:((Is (ty,true)).dv (DL.ag ty.cts x)).enc= .agg (DL.encF ty.cts x):=by
    show PV.agg _=PV.agg _;rw[DL.ag_enc]
   rw[he];refine⟨fun hd p c=>?_,⟨cs,rfl,by rw[hle,DL.lenF,Hb]⟩,fun c i pb tp=>?_⟩
   · match c with
     |[]=>exact .undef _ _
     |[c]=>exact h3 c hd p
     |_::_::_=>exact .undef _ _
   · match c with
     |[]=>simp[PV.fcell,PV.q]
     |[c]=>exact Ti _ _ _ _ _ _
     |_::_::_=>simp[PV.fcell,PV.q]
 | false =>
   obtain⟨hs,hc⟩:=h;simp only[OZ,Aj,AO] at hg;obtain⟨x,h1,_,h3⟩:=L7 ty hg.1 hs
   have key:∀ (l:List CT) (x:DL l),l.length=1→DL.wf l x→(∀ i hd p,RC σ (ωro σ) (.at hd p) (Aa (DL.encF l x) i) (get [u] i)) →
    ∃ y:(match l with|[c]=>HT.one .frz c|_=>HT.agg []).D,(match l with|[c]=>HT.one .frz c|_=>HT.agg []).wf y∧ArgD σ ((match l with|[c]=>HT.one .frz c|_=>HT.agg []).dv y).enc u:=by
    intro l x hl hwf h3
    match l,x,hl,hwf,h3 with
    | [c],x,_,hwf,h3=>
      have hsc:=jZ hc
      have hnf:∀ p,p≠[0]→((CT.dv .frz c x.1).enc).fcell p= .fl .undef:=by
       intro p hp;cases c<;>(match p with|[]=>rfl|[0]=>exact absurd rfl hp|(_+1)::_=>rfl|0::_::_=>rfl)
      have hf0:((CT.dv .frz c x.1).enc).fcell [0]=(CT.dv .frz c x.1).enc:=by cases c<;>rfl
      have hu0:u.fcell [0]=u:=by cases u<;>first|rfl|exact absurd rfl (hsc.1 _)|exact absurd rfl (hsc.2 _)
      refine⟨x.1,hwf.1,⟨fun hd p q=>?_,?_,fun q i pb tp=>?_⟩⟩
      · by_cases hq:q=[0]
        · subst hq;show RC σ (ωro σ) (.at hd p) (((CT.dv .frz c x.1).enc).fcell [0]) (u.fcell [0]);rw[hf0,hu0];exact h3 0 hd p
        · show RC σ (ωro σ) (.at hd p) (((CT.dv .frz c x.1).enc).fcell q) (u.fcell q);rw[hnf q hq];exact .undef _ _
      · show AD ((CT.dv .frz c x.1).enc) u;cases c<;>exact hsc
      · show (((CT.dv .frz c x.1).enc).fcell q).q≠_;by_cases hq:q=[0]
        · subst hq;rw[hf0];exact Ti [c] x 0 _ _ _
        · rw[hnf q hq];simp[PV.q]
   exact key ty.cts x hg.2 h1 h3
theorem QX{σ:Ab}:∀ {tys:List (Ty×Bool)} {us:List V},tys.all OZ=true→Kw σ tys us→∃ x:TuX (tys.map Is),TuX.wf _ x∧us.length=tys.length ∧
 ∀ t,ArgD σ (Aa (DV.encL (Dy (tys.map Is) x)) t) (get us t)
 |[],[],_,_=>⟨(),trivial,rfl,fun t=>⟨fun hd p c=>by
  have:(PV.fl V.undef).fcell c= .fl .undef:=by match c with|[]=>rfl|[0]=>rfl|(_+1)::_=>rfl|0::_::_=>rfl
  show RC σ (ωro σ) (.at hd p) ((PV.fl V.undef).fcell c) _
  rw[this];exact .undef _ _,trivial,fun c i pb tp=>by
  have:(PV.fl V.undef).fcell c= .fl .undef:=by match c with|[]=>rfl|[0]=>rfl|(_+1)::_=>rfl|0::_::_=>rfl
  show ((PV.fl V.undef).fcell c).q≠_
  rw[this];simp[PV.q]⟩⟩
 | [a],[u],hg,h=>by
   simp only[DI,PA,Jr] at hg;obtain⟨x,h1,h2⟩:=Wn hg h.1;obtain⟨_,_,_,h4⟩:=QX (σ:=σ) (tys:=[]) (us:=[]) rfl trivial;refine⟨x,h1,rfl,fun t=>?_⟩
   cases t with
   |zero=>exact h2
   |succ t=>exact h4 t
 | a::b::r,u::us,hg,h=>by
   rw[DI,Aj] at hg;obtain⟨x,h1,h2⟩:=Wn hg.1 h.1;obtain⟨y,h3,h4,h5⟩:=QX (tys:=b::r) (us:=us) hg.2 h.2;refine⟨(x,y),⟨h1,h3⟩,by simp[h4],fun t=>?_⟩
   cases t with
   |zero=>exact h2
   |succ t=>exact h5 t
 |[_],_::_::_,_,h=>h.2.elim
 |[_],[],_,h=>h.elim
 |_::_::_,[],_,h=>h.elim
 |[],_::_,_,h=>h.elim
theorem mb{σ:Ab}{as:List PV}{us:List V}(hl:as.length=us.length)(h:∀ t,ArgD σ (Aa as t) (get us t)):RS σ (ωro σ) (ωro σ) (fun _=>0) ⟨as,[],[]⟩ ⟨us,[],σ⟩ X0:=by
 have no:∀ l hd p,ωro σ l≠.own hd p:=by intro l hd p e;unfold ωro at e;split at e<;>cases e
 have nop:∀ l i,ωro σ l≠.ptr i:=by intro l i e;unfold ωro at e;split at e<;>cases e
 have hund:∀ c,(PV.fl V.undef).fcell c= .fl .undef:=by
  intro c;match c with|[]=>rfl|[0]=>rfl|(_+1)::_=>rfl|0::_::_=>rfl
 have cat:∀ (c:List Nat) (l:List V),(AJ [] l c).1= .fl .undef:=by
  intro c l;match c with|[]=>rfl|[_]=>rfl|_::_::_=>rfl
 refine⟨⟨fun hd p=>?_,fun l l' hd p e=>absurd e (no l hd p),fun l l' i e=>absurd e (nop l i),fun l e=>?_,fun l e=>?_⟩,fun t=>(h t).sh,fun i=>trivial,hl,rfl,fun i=>rfl,fun i c=>rfl,fun i c=>rfl,fun i hi=>(by cases hi),fun l i e=>absurd e (nop l i),fun l i p e=>absurd e (no l _ p),⟨AA _,fun l _ _=>⟨rfl,rfl⟩,fun l hlt e=>(by rw[e];simp),fun l i e=>e⟩,fun hd p i pb tp=>?_⟩
 · cases hd with
   |s t=>exact(h t).rc _ _ _
   |b i=>show RC σ (ωro σ) _ (AJ [] (Au [] i) p).1 _;rw[cat];exact .undef _ _
   |h i=>show RC σ (ωro σ) _ (AJ [] _ p).1 _;rw[cat];exact .undef _ _
   |x i=>show RC σ (ωro σ) _ ((PV.fl V.undef).fcell p) _;rw[hund];exact .undef _ _
 · rcases e with⟨hd,p,e⟩|⟨i,e⟩
   · exact absurd e (no l hd p)
   · exact absurd e (nop l i)
 · unfold ωro at e;split at e
   · assumption
   · cases e
 · cases hd with
   |s t=>exact(h t).nx p i pb tp
   |b j=>show (AJ [] (Au [] j) p).1.q≠_;rw[cat];simp[PV.q]
   |h j=>show (AJ [] _ p).1.q≠_;rw[cat];simp[PV.q]
   |x j=>show ((PV.fl V.undef).fcell p).q≠_;rw[hund];simp[PV.q]
theorem lk {f:DFun} {tys:List (Ty×Bool)} {hs:List HT} {s:AX} (hsp:Hi s (I0 f.er)) (hhs:tys.map Is=hs) (hg:tys.all OZ=true) (ho:AllD f.body.obs)
 (hst:K0 f hs (.one (.one .own .bool))=true) (hc:∀ x,KH f hs (.one (.one .own .bool)) x=true)
 (law:∀ x:TuX hs,TuX.wf hs x→FW f hs (.one (.one .own .bool)) x∧F0 f hs (.one (.one .own .bool)) x=true) (σ:Ab) (us:List V) (hro:C3 σ) (ha:Kw σ tys us):s us σ fun r _=>r= .bool true:=by
 subst hhs
 obtain⟨x,h1,h2,h3⟩:=QX hg ha
 obtain⟨l1,l2⟩:=law x h1
 have hlen:(DV.encL (Dy (tys.map Is) x)).length=us.length:=by rw[D3,OB,A6,h2]
 refine hsp σ (ωro σ) (fun _=>0) _ us [] (fun r _=>r= .fl (.bool true)) _ (mb hlen h3) (fun l hd p e=>?_) ?_ fun u h' r H' ω' ρ' hQ R' _=>?_
 · exfalso;unfold ωro at e;split at e<;>cases e
 · refine WG ho hst x (hc x) l1 fun H=>?_
   rw[l2];rfl
 · subst hQ
   have r:=R'.core.rc (.x 0) [0];have hs:=R'.shx 0;have r:RC h' ω' (.at (.x 0) [0]) (.fl (.bool true)) (u.fcell [0]):=r
   have hu:u.fcell [0]=u:=by
    have hs:AD (.fl (.bool true)) u:=hs
    cases u<;>first|rfl|exact absurd rfl (hs.1 _)|exact absurd rfl (hs.2 _)
   rw[hu] at r;cases r;rfl
theorem nf(x:V)(r:List V):get (x::r) 0=x:=id rfl
theorem mu(x:V)(r:List V)(n:Nat):get (x::r) (n+1)=get r n:=id rfl
theorem ni(s:List V)(n:Nat):(Opnd.t n).ev s=get s n:=id rfl
theorem nD(s:List V)(v:V):(Opnd.c v).ev s=v:=id rfl
def rk(pu:Bool)(res:List ARes)(h0:Ab)(Q:V→Ab→Prop):Bv:=PR ⟨0,0,0,pu,res,.skip⟩ h0 Q
theorem Vz{np ns nb:Nat}{pu:Bool}{res:List ARes}{body:ACode}{args:List V}{h:Ab}{Q:V→Ab→Prop}(hl:args.length=np)(hb:Bd body (rk pu res h Q) ⟨args++Ff (ns-np),EA nb,h⟩) :
 Hp ⟨np,ns,nb,pu,res,body⟩ args h Q:=⟨hl,hb⟩
theorem iF(k:Bv)(st:St):Bd .skip k st=k .normal st:=rfl
theorem eL(o:List AOper)(k:Bv)(st:St):Bd (.region o) k st=Bb o (k .normal) st:=rfl
theorem kD(a b:ACode)(k:Bv)(st:St):Bd (.seq a b) k st=Bd a (DU (Bd b k) k) st:=rfl
theorem fX(i:Nat)(a:ACode)(k:Bv)(st:St):Bd (.block i a) k st=Bd a (FI i k) st:=rfl
theorem jE(i:Nat)(k:Bv)(st:St):Bd (.exit i) k st=k (.exit i) st:=rfl
theorem jU(k:Bv)(st:St):Bd .ret k st=k .ret st:=rfl
theorem jx{c:Opnd}{a b:ACode}{k:Bv}{st:St}(h:c.ev st.sl= .bool true):Bd (.cond c a b) k st=Bd a k st:=by simp only[Bd,h,AE]
theorem gH{c:Opnd}{a b:ACode}{k:Bv}{st:St}(h:c.ev st.sl= .bool false):Bd (.cond c a b) k st=Bd b k st:=by simp only[Bd,h];rfl
theorem dx(n:St→Prop)(k:Bv)(st:St):DU n k .normal st=n st:=rfl
theorem iW(n:St→Prop)(k:Bv)(st:St):DU n k .ret st=k .ret st:=rfl
theorem fD(n:St→Prop)(k:Bv)(i:Nat)(st:St):DU n k (.exit i) st=k (.exit i) st:=rfl
theorem bV(i:Nat)(k:Bv)(st:St):FI i k .normal st=k .normal st:=rfl
theorem dO(i:Nat)(k:Bv)(st:St):FI i k .ret st=k .ret st:=rfl
theorem dn(i j:Nat)(k:Bv)(st:St):FI i k (.exit j) st=if j=i then k .normal st else k (.exit j) st:=rfl
theorem iK(n:St→Prop)(k:Bv):DU n k .normal=n:=rfl
theorem ez(i:Nat)(k:Bv):FI i k .normal=k .normal:=rfl
theorem iI(k:St→Prop)(st:St):Bb [] k st=k st:=rfl
theorem je{i:Nat}{d:Option Nat}{o:AOp}{a:List Nat}{r:List AOper}{k:St→Prop}{st:St}:Bb (⟨i,d,o,none,a⟩::r) k st=Ap o d (Bb r k) st:=rfl
theorem kv{i:Nat}{d:Option Nat}{o:AOp}{g:Nat}{w:Bool}{a:List Nat}{r:List AOper}{k:St→Prop}{st:St}(h:get st.sl g= .bool w):Bb (⟨i,d,o,some (g,w),a⟩::r) k st=Ap o d (Bb r k) st:=by
 simp only[Bb,Br,h,AE]
theorem Wd{i:Nat}{d:Option Nat}{o:AOp}{g:Nat}{w b:Bool}{a:List Nat}{r:List AOper}{k:St→Prop}{st:St}(h:get st.sl g= .bool b)(hn:b≠w):Bb (⟨i,d,o,some (g,w),a⟩::r) k st=Bb r k (st.put d (.tup [])):=by
 simp only[Bb,Br,h,Ad hn]
theorem fJ{i:Nat}{d:Option Nat}{o:AOp}{g:Nat}{a:List Nat}{r:List AOper}{k:St→Prop}{st:St}(h:get st.sl g= .bool false):Bb (⟨i,d,o,some (g,true),a⟩::r) k st=Bb r k (st.put d (.tup [])):=Wd h (by decide)
theorem gi{i:Nat}{d:Option Nat}{o:AOp}{g:Nat}{a:List Nat}{r:List AOper}{k:St→Prop}{st:St}(h:get st.sl g= .bool true):Bb (⟨i,d,o,some (g,false),a⟩::r) k st=Bb r k (st.put d (.tup [])):=Wd h (by decide)
theorem jf{i:Nat}{d:Option Nat}{o:AOp}{g:Nat}{w:Bool}{a:List Nat}{r:List AOper}{k:St→Prop}{st:St}(h:get st.sl g= .tup []):Bb (⟨i,d,o,some (g,w),a⟩::r) k st=Bb r k (st.put d (.tup [])):=by
 simp only[Bb,Br,h]
theorem lK(pu:Bool)(res:List ARes)(h0:Ab)(Q:V→Ab→Prop)(st:St):rk pu res h0 Q .ret st=(match Df st res with
 |some v=>if pu then v.flat2=true∧st.hp.take h0.length=h0∧Q v h0 else Q v st.hp
 |none=>False):=rfl
theorem gI(pu:Bool)(res:List ARes)(h0:Ab)(Q:V→Ab→Prop)(st:St):rk pu res h0 Q .normal st=(match Df st res with
 |some v=>if pu then v.flat2=true∧st.hp.take h0.length=h0∧Q v h0 else Q v st.hp
 |none=>False):=rfl
def Iv{α:Type}(_:α):Type:=Unit
def Dd{α:Type}(a:α):Iv a:=()
def oV(o:Option V)(f:V→Prop)(_:Iv f):Prop:=match o with
 |some v=>f v
 |none=>False
theorem kR(v:V)(f:V→Prop)(t:Iv f):oV (some v) f t=f v:=rfl
theorem kM(f:V→Prop)(t:Iv f):oV none f t=False:=rfl
def oS(o:Option (V×List (List V)×Ab))(s:List V)(d:Option Nat)(k:St→Prop)(_:Iv k):Prop:=match o with
 |some (v,bx,hp)=>k (St.put ⟨s,bx,hp⟩ d v)
 |none=>False
theorem kB(v:V)(bx:List (List V))(hp:Ab)(s:List V)(d:Option Nat)(k:St→Prop)(t:Iv k):oS (some (v,bx,hp)) s d k t=k (St.put ⟨s,bx,hp⟩ d v):=rfl
@[congr] theorem nP {c:ACode} {k:Bv} {st st':St} (h:st=st'):Bd c k st=Bd c k st':=by rw[h]
@[congr] theorem nN {o:List AOper} {k:St→Prop} {st st':St} (h:st=st'):Bb o k st=Bb o k st':=by rw[h]
@[congr] theorem nO {o:AOp} {d:Option Nat} {k:St→Prop} {st st':St} (h:st=st'):Ap o d k st=Ap o d k st':=by rw[h]
@[congr] theorem nM {n:St→Prop} {k:Bv} {e e':AExit} {st st':St} (he:e=e') (h:st=st'):DU n k e st=DU n k e' st':=by rw[he,h]
@[congr] theorem nI {i:Nat} {k:Bv} {e e':AExit} {st st':St} (he:e=e') (h:st=st'):FI i k e st=FI i k e' st':=by rw[he,h]
@[congr] theorem nQ {pu:Bool} {res:List ARes} {h0:Ab} {Q:V→Ab→Prop} {e e':AExit} {st st':St} (he:e=e') (h:st=st'):rk pu res h0 Q e st=rk pu res h0 Q e' st':=by rw[he,h]
def Xr(k:IntKind):V→Option V
 |.int _ n=>some (.int k (k.wrap n))
 |_=>none
def Rx(off:Nat):V→Option V
 |.box i o=>some (.box i (o+off))
 |.ptr l o=>some (.ptr l (o+off))
 |_=>none
def Xg(off:Nat)(n:Option Nat):V→Option V
 |.agg cs=>if off+n.getD 1≤cs.length then BU n ((cs.drop off).take (n.getD 1)) else none
 |_=>none
def Wr(w:Nat):V→V→Option V
 |.slice l o n,.int _ j=>if 0≤j∧j<n then some (.ptr l (o+j.toNat*w)) else none
 |_,_=>none
def PC:V→Option V
 |.nils=>some (.int .i64 0)
 |.slice _ _ n=>some (.int .i64 n)
 |_=>none
def LM(i:Nat):V→Option V
 |.tup vs=>vs[i]?
 |_=>none
def Xp(bx:List (List V))(i:Nat)(n:Option Nat):V→Option V
 |.box j o=>if i=j∧o+n.getD 1≤(Au bx i).length then BU n (((Au bx i).drop o).take (n.getD 1)) else none
 |_=>none
def O2(hp:Ab)(n:Option Nat):V→Option V
 |.ptr l o=>(rd hp l o (n.getD 1)).bind fun cs=>BU n cs
 |_=>none
def Kc(bx:List (List V))(hp:Ab)(n:Nat)(a x:V):Option (V×List (List V)×Ab):=match a with
 |.ptr l o=>if x.cells.length=n∧x.cells.all V.cell then (wr hp l o x.cells).bind fun h=>some (.undef,bx,h) else none
 |_=>none
def S5(bx:List (List V))(hp:Ab)(i n:Nat)(x:V):Option (V×List (List V)×Ab):=
 if i<bx.length∧x.cells.length=n∧x.cells.all V.cell then some (.box i 0,BZ bx i x.cells,hp) else none
def X9(f:AX)(args:List V)(d:Option Nat)(k:St→Prop)(st:St)(_:Iv k):Prop:=f args st.hp fun r h=>k (St.put { st with hp:=h } d r)
theorem RI{o:Option V}{k:St→Prop}{st:St}{d:Option Nat} :
 (match o.bind (fun v=>(some (v,st.bx,st.hp):Option (V×List (List V)×Ab))) with
 |some (v,bx,hp)=>k (St.put { sl:=st.sl,bx,hp } d v)
 |none=>False)=oV o (fun v=>k (st.put d v)) (Dd _):=by
 cases o<;>rfl
theorem Wa{o:Option (V×List (List V)×Ab)}{s:List V}{k:St→Prop}{d:Option Nat} :
 (match o with
 |some (v,bx,hp)=>k (St.put { sl:=s,bx,hp } d v)
 |none=>False)=oS o s d k (Dd k):=by
 cases o<;>rfl
theorem lY{c:Prop}{_:Decidable c}{v:V}{k:St→Prop}{st:St}{d:Option Nat} :
 (match (if c then some (v,st.bx,st.hp) else (none:Option (V×List (List V)×Ab))) with
 |some (v,bx,hp)=>k (St.put { sl:=st.sl,bx,hp } d v)
 |none=>False)=oV (if c then some v else none) (fun v=>k (st.put d v)) (Dd _):=by
 by_cases h:c<;>simp only[h,AE,AG]<;>rfl
theorem WN {c:Prop}{_:Decidable c}{o:Option V}{k:St→Prop}{st:St}{d:Option Nat} :
 (match (if c then o.bind (fun v=>(some (v,st.bx,st.hp):Option (V×List (List V)×Ab))) else none) with
 |some (v,bx,hp)=>k (St.put { sl:=st.sl,bx,hp } d v)
 |none=>False)=oV (if c then o else none) (fun v=>k (st.put d v)) (Dd _):=by
 by_cases h:c<;>simp only[h,AE,AG]
 · cases o<;>rfl
 · rfl
theorem bind_some{α:Type}(o:Option α):(o.bind fun x=>some x)=o:=by cases o<;>rfl
section
variable {d:Option Nat} {k:St→Prop} {st:St}
theorem lZ(x:Opnd):Ap (.mv x) d k st=k (st.put d (x.ev st.sl)):=rfl
theorem bQ{c a b:Opnd}(h:c.ev st.sl= .bool true):Ap (.pick c a b) d k st=k (st.put d (a.ev st.sl)):=by simp only[Ap,Ae,h];rfl
theorem bz{c a b:Opnd}(h:c.ev st.sl= .bool false):Ap (.pick c a b) d k st=k (st.put d (b.ev st.sl)):=by simp only[Ap,Ae,h];rfl
theorem kT(op:BinOp)(x y:Opnd):Ap (.bin op x y) d k st=oV (BF op (x.ev st.sl) (y.ev st.sl)) (fun v=>k (st.put d v)) (Dd _):=RI
theorem l9(op:UnOp)(x:Opnd):Ap (.un op x) d k st=oV (FZ op (x.ev st.sl)) (fun v=>k (st.put d v)) (Dd _):=RI
theorem iX(q:IntKind)(x:Opnd):Ap (.conv q x) d k st=oV (Xr q (x.ev st.sl)) (fun v=>k (st.put d v)) (Dd _):=by simp only[Ap,Ae];cases x.ev st.sl<;>rfl
theorem eN(off:Nat)(x:Opnd):Ap (.fieldA off x) d k st=oV (Rx off (x.ev st.sl)) (fun v=>k (st.put d v)) (Dd _):=by simp only[Ap,Ae];cases x.ev st.sl<;>rfl
theorem fE(off:Nat)(n:Option Nat)(x:Opnd):Ap (.field off n x) d k st=oV (Xg off n (x.ev st.sl)) (fun v=>k (st.put d v)) (Dd _):=by
 simp only[Ap,Ae]
 cases x.ev st.sl<;>try rfl
 exact WN
theorem dW(w:Nat)(x i:Opnd):Ap (.indexA w x i) d k st=oV (Wr w (x.ev st.sl) (i.ev st.sl)) (fun v=>k (st.put d v)) (Dd _):=by
 simp only[Ap,Ae]
 cases x.ev st.sl<;>try rfl
 cases i.ev st.sl<;>try rfl
 exact lY
theorem kS(x:Opnd):Ap (.len x) d k st=oV (PC (x.ev st.sl)) (fun v=>k (st.put d v)) (Dd _):=by simp only[Ap,Ae];cases x.ev st.sl<;>rfl
theorem du(x:Opnd)(i:Nat):Ap (.extract x i) d k st=oV (LM i (x.ev st.sl)) (fun v=>k (st.put d v)) (Dd _):=by
 simp only[Ap,Ae]
 cases x.ev st.sl<;>try rfl
 rename_i vs;simp only[LM];cases vs[i]?<;>rfl
theorem fL(i:Nat)(n:Option Nat)(a:Opnd):Ap (.loadB i n a) d k st=oV (Xp st.bx i n (a.ev st.sl)) (fun v=>k (st.put d v)) (Dd _):=by
 simp only[Ap,Ae]
 cases a.ev st.sl<;>try rfl
 exact WN
theorem gq(n:Option Nat)(a:Opnd):Ap (.loadH n a) d k st=oV (O2 st.hp n (a.ev st.sl)) (fun v=>k (st.put d v)) (Dd _):=by
 simp only[Ap,Ae]
 cases a.ev st.sl<;>try rfl
 simp only[O2];rename_i l o
 cases rd st.hp l o (n.getD 1)<;>try rfl
 exact RI
theorem eY(n:Nat)(a x:Opnd):Ap (.storeH n a x) d k st=oS (Kc st.bx st.hp n (a.ev st.sl) (x.ev st.sl)) st.sl d k (Dd k):=by
 simp only[Ap,Ae,Kc]
 cases a.ev st.sl<;>first|rfl|exact Wa
theorem jg(i n:Nat)(x:Opnd):Ap (.boxB i n x) d k st=oS (S5 st.bx st.hp i n (x.ev st.sl)) (clearBox i st.sl) d k (Dd k):=by
 simp only[Ap,Ae,S5];exact Wa
theorem iD(f:AX)(args:List Opnd):Ap (.call f args) d k st=((args.map (·.ev st.sl)).all V.ok1=true∧X9 f (args.map (·.ev st.sl)) d k st (Dd k)):=rfl
end
section
variable {k:IntKind}
theorem gj(q:IntKind)(n:Int):Xr q (.int k n)=some (.int q (q.wrap n)):=rfl
theorem b9(off i o:Nat):Rx off (.box i o)=some (.box i (o+off)):=rfl
theorem cx(off l o:Nat):Rx off (.ptr l o)=some (.ptr l (o+off)):=rfl
theorem dK(off:Nat)(n:Option Nat)(cs:List V):Xg off n (.agg cs)=if off+n.getD 1≤cs.length then BU n ((cs.drop off).take (n.getD 1)) else none:=rfl
theorem dL:PC .nils=some (.int .i64 0):=rfl
theorem ix(l o n:Nat):PC (.slice l o n)=some (.int .i64 n):=rfl
theorem cU(v:V)(vs:List V):LM 0 (.tup (v::vs))=some v:=rfl
theorem dt(i:Nat)(v:V)(vs:List V):LM (i+1) (.tup (v::vs))=LM i (.tup vs):=rfl
theorem dS(bx:List (List V))(i:Nat)(n:Option Nat)(j o:Nat):Xp bx i n (.box j o)=if i=j∧o+n.getD 1≤(Au bx i).length then BU n (((Au bx i).drop o).take (n.getD 1)) else none:=rfl
theorem gQ(a b:Int):BF .add (.int k a) (.int k b)=some (.int k (k.wrap (a+b))):=by simp[BF,CF]
theorem fi(a b:Int):BF .sub (.int k a) (.int k b)=some (.int k (k.wrap (a-b))):=by simp[BF,CF]
theorem gW(a b:Int):BF .mul (.int k a) (.int k b)=some (.int k (k.wrap (a*b))):=by simp[BF,CF]
theorem gb(a b:Int):BF .rem (.int k a) (.int k b)=if b=0 then none else some (.int k (a.tmod b)):=by simp[BF,CF]
theorem fK(a b:Int):BF .eql (.int k a) (.int k b)=some (.bool (a == b)):=by simp[BF,CF]
theorem fe(a b:Int):BF .neq (.int k a) (.int k b)=some (.bool (a != b)):=by simp[BF,CF]
theorem gA(a b:Int):BF .lss (.int k a) (.int k b)=some (.bool (decide (a<b))):=by simp[BF,CF]
theorem fy(a b:Int):BF .leq (.int k a) (.int k b)=some (.bool (decide (a≤b))):=by simp[BF,CF]
theorem fC(a b:Int):BF .gtr (.int k a) (.int k b)=some (.bool (decide (a > b))):=by simp[BF,CF]
theorem gB(a b:Int):BF .geq (.int k a) (.int k b)=some (.bool (decide (a≥b))):=by simp[BF,CF]
theorem iJ(b:Bool):FZ .not (.bool b)=some (.bool (!b)):=rfl
theorem jd(n:Int):FZ .neg (.int k n)=some (.int k (k.wrap (0-n))):=rfl
theorem ca(d:Nat):CG d none=some d:=rfl
theorem eU(d:Nat)(i:Int):CG d (some (.int k i))=if 0≤i then some i.toNat else none:=rfl
theorem dX(n:Nat)(cs:List V):BU (some n) cs=some (.agg cs):=rfl
theorem eX(v:V):BU none [v]=some v:=rfl
end
theorem V.cell_undef:V.cell V.undef=false:=rfl
theorem V.cells_undef:V.cells V.undef=[V.undef]:=rfl
theorem V.ok1_undef:V.ok1 V.undef=false:=rfl
theorem V.flat_undef:V.flat V.undef=false:=rfl
theorem V.flat1_undef:V.flat1 V.undef=false:=rfl
theorem V.flat2_undef:V.flat2 V.undef=false:=rfl
theorem V.isBox_undef(i:Nat):V.isBox i V.undef=false:=rfl
theorem V.cell_bool(b:Bool):V.cell (V.bool b)=true:=rfl
theorem V.cells_bool(b:Bool):V.cells (V.bool b)=[(V.bool b)]:=rfl
theorem V.ok1_bool(b:Bool):V.ok1 (V.bool b)=true:=rfl
theorem V.flat_bool(b:Bool):V.flat (V.bool b)=true:=rfl
theorem V.flat1_bool(b:Bool):V.flat1 (V.bool b)=true:=rfl
theorem V.flat2_bool(b:Bool):V.flat2 (V.bool b)=true:=rfl
theorem V.isBox_bool(i:Nat)(b:Bool):V.isBox i (V.bool b)=false:=rfl
theorem V.cell_int(k:IntKind)(n:Int):V.cell (V.int k n)=true:=rfl
theorem V.cells_int(k:IntKind)(n:Int):V.cells (V.int k n)=[(V.int k n)]:=rfl
theorem V.ok1_int(k:IntKind)(n:Int):V.ok1 (V.int k n)=true:=rfl
theorem V.flat_int(k:IntKind)(n:Int):V.flat (V.int k n)=true:=rfl
theorem V.flat1_int(k:IntKind)(n:Int):V.flat1 (V.int k n)=true:=rfl
theorem V.flat2_int(k:IntKind)(n:Int):V.flat2 (V.int k n)=true:=rfl
theorem V.isBox_int(i:Nat)(k:IntKind)(n:Int):V.isBox i (V.int k n)=false:=rfl
theorem V.cell_str(s:List UInt8):V.cell (V.str s)=true:=rfl
theorem V.cells_str(s:List UInt8):V.cells (V.str s)=[(V.str s)]:=rfl
theorem V.ok1_str(s:List UInt8):V.ok1 (V.str s)=true:=rfl
theorem V.flat_str(s:List UInt8):V.flat (V.str s)=true:=rfl
theorem V.flat1_str(s:List UInt8):V.flat1 (V.str s)=true:=rfl
theorem V.flat2_str(s:List UInt8):V.flat2 (V.str s)=true:=rfl
theorem V.isBox_str(i:Nat)(s:List UInt8):V.isBox i (V.str s)=false:=rfl
theorem V.cell_nils:V.cell V.nils=true:=rfl
theorem V.cells_nils:V.cells V.nils=[V.nils]:=rfl
theorem V.ok1_nils:V.ok1 V.nils=true:=rfl
theorem V.flat_nils:V.flat V.nils=true:=rfl
theorem V.flat1_nils:V.flat1 V.nils=true:=rfl
theorem V.flat2_nils:V.flat2 V.nils=true:=rfl
theorem V.isBox_nils(i:Nat):V.isBox i V.nils=false:=rfl
theorem V.cell_slice(l o n:Nat):V.cell (V.slice l o n)=true:=rfl
theorem V.cells_slice(l o n:Nat):V.cells (V.slice l o n)=[(V.slice l o n)]:=rfl
theorem V.ok1_slice(l o n:Nat):V.ok1 (V.slice l o n)=true:=rfl
theorem V.flat_slice(l o n:Nat):V.flat (V.slice l o n)=false:=rfl
theorem V.flat1_slice(l o n:Nat):V.flat1 (V.slice l o n)=false:=rfl
theorem V.flat2_slice(l o n:Nat):V.flat2 (V.slice l o n)=false:=rfl
theorem V.isBox_slice(i:Nat)(l o n:Nat):V.isBox i (V.slice l o n)=false:=rfl
theorem V.cell_box(j o:Nat):V.cell (V.box j o)=false:=rfl
theorem V.cells_box(j o:Nat):V.cells (V.box j o)=[(V.box j o)]:=rfl
theorem V.ok1_box(j o:Nat):V.ok1 (V.box j o)=false:=rfl
theorem V.flat_box(j o:Nat):V.flat (V.box j o)=false:=rfl
theorem V.flat1_box(j o:Nat):V.flat1 (V.box j o)=false:=rfl
theorem V.flat2_box(j o:Nat):V.flat2 (V.box j o)=false:=rfl
theorem V.isBox_box(i:Nat)(j o:Nat):V.isBox i (V.box j o)=(i == j):=rfl
theorem V.cell_ptr(l o:Nat):V.cell (V.ptr l o)=true:=rfl
theorem V.cells_ptr(l o:Nat):V.cells (V.ptr l o)=[(V.ptr l o)]:=rfl
theorem V.ok1_ptr(l o:Nat):V.ok1 (V.ptr l o)=true:=rfl
theorem V.flat_ptr(l o:Nat):V.flat (V.ptr l o)=false:=rfl
theorem V.flat1_ptr(l o:Nat):V.flat1 (V.ptr l o)=false:=rfl
theorem V.flat2_ptr(l o:Nat):V.flat2 (V.ptr l o)=false:=rfl
theorem V.isBox_ptr(i:Nat)(l o:Nat):V.isBox i (V.ptr l o)=false:=rfl
theorem V.cell_ifc(b:Bool):V.cell (V.ifc b)=true:=rfl
theorem V.cells_ifc(b:Bool):V.cells (V.ifc b)=[(V.ifc b)]:=rfl
theorem V.ok1_ifc(b:Bool):V.ok1 (V.ifc b)=true:=rfl
theorem V.flat_ifc(b:Bool):V.flat (V.ifc b)=true:=rfl
theorem V.flat1_ifc(b:Bool):V.flat1 (V.ifc b)=true:=rfl
theorem V.flat2_ifc(b:Bool):V.flat2 (V.ifc b)=true:=rfl
theorem V.isBox_ifc(i:Nat)(b:Bool):V.isBox i (V.ifc b)=false:=rfl
theorem V.cell_agg(cs:List V):V.cell (V.agg cs)=false:=rfl
theorem V.cells_agg(cs:List V):V.cells (V.agg cs)=cs:=rfl
theorem V.ok1_agg(cs:List V):V.ok1 (V.agg cs)=cs.all V.cell:=rfl
theorem V.flat_agg(cs:List V):V.flat (V.agg cs)=false:=rfl
theorem V.flat1_agg(cs:List V):V.flat1 (V.agg cs)=cs.all V.flat:=rfl
theorem V.flat2_agg(cs:List V):V.flat2 (V.agg cs)=cs.all V.flat:=rfl
theorem V.isBox_agg(i:Nat)(cs:List V):V.isBox i (V.agg cs)=false:=rfl
theorem V.cell_tup(cs:List V):V.cell (V.tup cs)=false:=rfl
theorem V.cells_tup(cs:List V):V.cells (V.tup cs)=[(V.tup cs)]:=rfl
theorem V.ok1_tup(cs:List V):V.ok1 (V.tup cs)=false:=rfl
theorem V.flat_tup(cs:List V):V.flat (V.tup cs)=false:=rfl
theorem V.flat1_tup(cs:List V):V.flat1 (V.tup cs)=false:=rfl
theorem V.flat2_tup(cs:List V):V.flat2 (V.tup cs)=cs.all V.flat1:=rfl
theorem V.isBox_tup(i:Nat)(cs:List V):V.isBox i (V.tup cs)=false:=rfl
theorem me{f:AX}{args:List V}{d:Option Nat}{k:St→Prop}{st:St}{t:Iv k}(p:f args st.hp fun r h=>k (St.put ⟨st.sl,st.bx,h⟩ d r)):X9 f args d k st t:=p
theorem VX {body:ACode} {live:List Nat} {k:Bv} (I:Nat→St→Prop)
 (hs:∀ (m:Nat) (st:St) (next:St→Prop),I m st→(∀ (m':Nat) (st':St),m'<m→I m' { st' with sl:=keep live 0 st'.sl }→next st')→Bd body (DU next k) st) :
 ∀ (fuel m:Nat) (st:St),m<fuel→I m { st with sl:=keep live 0 st.sl }→Jz (Bd body) live k fuel st
 |0,m,st,h,_=>absurd h (Sv m)
 |fuel+1,m,st,h,hI=>hs m _ _ hI fun m' st' hm hI'=>VX I hs fuel m' st' (by omega) hI'
theorem lg {body:ACode} {live:List Nat} {k:Bv} {st:St} (I:Nat→St→Prop) (m:Nat) (h0:I m { st with sl:=keep live 0 st.sl })
 (hs:∀ (m:Nat) (st:St) (next:St→Prop),I m st→(∀ (m':Nat) (st':St),m'<m→I m' { st' with sl:=keep live 0 st'.sl }→next st')→Bd body (DU next k) st) :
 Bd (.loop live body) k st:=⟨m+1,VX I hs (m+1) m st (SG m) h0⟩
theorem j9 {body:ACode} {live:List Nat} {k:Bv} {st:St} (n:Nat) (I:Nat→St→Prop) (h0:I 0 { st with sl:=keep live 0 st.sl })
 (hs:∀ (i:Nat) (st:St) (next:St→Prop),i≤n→I i st→(∀ st':St,i<n→I (i+1) { st' with sl:=keep live 0 st'.sl }→next st')→Bd body (DU next k) st) :
 Bd (.loop live body) k st:=by
 refine lg (fun m st=>∃ i,i≤n∧m=n-i∧I i st) n ⟨0,FL n,rfl,h0⟩ fun m st next hI hn=>?_
 obtain⟨i,hi,hm,hI⟩:=hI
 exact hs i st next hi hI fun st' hlt hI'=>hn (n-(i+1)) st' (by omega) ⟨i+1,by omega,rfl,hI'⟩
attribute [go_sem] BI iF eL kD fX jE jU dx iW fD bV dO dn iK ez iI je kv fJ gi eq_self jf jx gH lZ bQ bz kT l9 iX eN fE dW kS du jg fL gq eY iD kR kM kB gj b9 cx dK dL ix cU dt dS S5 gQ fi gW gb fK fe gA fy fC gB iJ jd ca eU dX eX lK gI Df Ex Da ni nD nf mu put Au BZ splice V.cell_undef V.cells_undef V.ok1_undef V.flat_undef V.flat1_undef V.flat2_undef V.isBox_undef V.cell_bool V.cells_bool V.ok1_bool V.flat_bool V.flat1_bool V.flat2_bool V.isBox_bool V.cell_int V.cells_int V.ok1_int V.flat_int V.flat1_int V.flat2_int V.isBox_int V.cell_str V.cells_str V.ok1_str V.flat_str V.flat1_str V.flat2_str V.isBox_str V.cell_nils V.cells_nils V.ok1_nils V.flat_nils V.flat1_nils V.flat2_nils V.isBox_nils V.cell_slice V.cells_slice V.ok1_slice V.flat_slice V.flat1_slice V.flat2_slice V.isBox_slice V.cell_box V.cells_box V.ok1_box V.flat_box V.flat1_box V.flat2_box V.isBox_box V.cell_ptr V.cells_ptr V.ok1_ptr V.flat_ptr V.flat1_ptr V.flat2_ptr V.isBox_ptr V.cell_ifc V.cells_ifc V.ok1_ifc V.flat_ifc V.flat1_ifc V.flat2_ifc V.isBox_ifc V.cell_agg V.cells_agg V.ok1_agg V.flat_agg V.flat1_agg V.flat2_agg V.isBox_agg V.cell_tup V.cells_tup V.ok1_tup V.flat_tup V.flat1_tup V.flat2_tup V.isBox_tup clearBox keep St.put AOp.clears Ff EA BS B5 List.map DI PA Jr ME Bool.not_false Bool.true_and Option.bind S3 Ih AE AG ET not_false_eq_true IY AB Bool.true_eq_false As Az List.take List.drop and_true HV C4 I3 decide_true decide_false Int.lt_irrefl Int.le_refl beq_self_eq_true AQ Dq AA
section
variable {α:Type}
def Bs(f:α→Int→α×Int):List α→Int→List α×Int
 |[],m=>([],m)
 |a::r,m=>((f a m).1::(Bs f r (f a m).2).1,(Bs f r (f a m).2).2)
def BE(f:α→Int→α×Int)(l:List α)(m:Int)(i:Nat):List α×Int:=((Bs f (l.take i) m).1++l.drop i,(Bs f (l.take i) m).2)
theorem IX(f:α→Int→α×Int):∀ (l:List α) (m:Int),(Bs f l m).1.length=l.length
 |[],_=>rfl
 |a::r,m=>by simp only[Bs,As,IX f r]
theorem Vk(f:α→Int→α×Int):∀ (l k:List α) (m:Int),Bs f (l++k) m=((Bs f l m).1++(Bs f k (Bs f l m).2).1,(Bs f k (Bs f l m).2).2)
 |[],k,m=>rfl
 |a::r,k,m=>by simp only[BS,Bs,Vk f r k]
theorem Vd(f:α→Int→α×Int)(l:List α)(m:Int):BE f l m 0=(l,m):=rfl
theorem LL(f:α→Int→α×Int)(l:List α)(m:Int):BE f l m l.length=Bs f l m:=by simp[BE]
theorem Oo(f:α→Int→α×Int)(l:List α)(m:Int)(i:Nat):(BE f l m i).1.length=l.length:=by
 simp only[BE,BT,IX,Dp,E1];omega
theorem fF(f:α→Int→α×Int)(l:List α)(m:Int)(i:Nat)(d:α):(BE f l m i).1.getD i d=l.getD i d:=by
 simp only[BE,Cw];rcases A3 i l.length with h|h
 · rw[Cn (by rw[IX,Dp];omega),IX,Dp,Hn];congr 2;omega
 · rw[AY (by simp[IX];omega),AY h]
theorem LD(f:α→Int→α×Int)(l:List α)(m:Int){i:Nat}(hi:i<l.length)(d:α) :
 BE f l m (i+1)=((BE f l m i).1.set i (f (l.getD i d) (BE f l m i).2).1,(f (l.getD i d) (BE f l m i).2).2):=by
 have h1:l.take (i+1)=l.take i++[l.getD i d]:=by
  rw[Pc,Cw,Ar hi];rfl
 simp only[BE,h1,Vk,Bs]
 refine Prod.ext ?_ rfl
 have h2:(Bs f (l.take i) m).1.length=i:=by rw[IX,Dp];omega
 simp only
 rw[List.set_append_right _ _ (by omega),h2,My,Ms hi,List.set_cons_zero,Bh]
 rfl
end
def mn:IntKind→Int→Int
 |.i64,m=>m
 |k,m=>k.wrap m
mutual
def CT.mkI:(t:CT)→t.D→Int→t.D×Int
 |.int k,_,m=>(mn k m,IntKind.i64.wrap (m+1))
 |.bool,_,m=>((m.tmod 3 == 0:Bool),IntKind.i64.wrap (m+1))
 |.str,s,m=>(s,m)
 |.ifc,b,m=>(b,m)
 |.sl r,l,m=>Bs (RT.mkI r) l m
def RT.mkI:(r:RT)→r.D→Int→r.D×Int
 |.one t,x,m=>CT.mkI t x m
 |.cons t r,x,m=>(((CT.mkI t x.1 m).1,(RT.mkI r x.2 (CT.mkI t x.1 m).2).1),(RT.mkI r x.2 (CT.mkI t x.1 m).2).2)
end
def CT.mkT:(t:CT)→t.D→Int→t.D×Int
 |.sl r,l,m=>Bs (RT.mkI r) l m
 |_,x,m=>(x,m)
def RT.mkT:(r:RT)→r.D→Int→r.D×Int
 |.one t,x,m=>CT.mkT t x m
 |.cons t r,x,m=>(((CT.mkT t x.1 m).1,(RT.mkT r x.2 (CT.mkT t x.1 m).2).1),(RT.mkT r x.2 (CT.mkT t x.1 m).2).2)
mutual
def CT.wl:(t:CT)→t.D→Prop
 |.sl r,l=>l.length≤9223372036854775807∧∀ a:r.D,List.Mem a l→RT.wl r a
 |_,_=>True
def RT.wl:(r:RT)→r.D→Prop
 |.one t,x=>CT.wl t x
 |.cons t r,x=>CT.wl t x.1∧RT.wl r x.2
end
section
variable {h h':Ab} {ω:Nat→W} {hd:Hd} {p:List Nat}
abbrev Ik (ω:Nat→W) (hd:Hd) (p:List Nat):Nat→Prop:=fun l=>∃ q,ω l= .own hd (p++q)
abbrev MS (h:Ab) (ω:Nat→W) (hd:Hd) (p:List Nat) (r:RT) (l:List r.D) (u:V):Prop:=RC h ω (.inn hd p) (.sl .own (l.map r.enc)) u
theorem MS.len{r:RT}{l:List r.D}{u:V}(M:MS h ω hd p r l u):PC u=some (.int .i64 (l.length:Int)):=by
 unfold MS at M;generalize he:l.map r.enc=es at M
 have hl:l.length=es.length:=by rw[← he,A6]
 cases M with
 |nil=>rw[hl];rfl
 |sl _ _ _ l o n b h1 hk hc hne hn hw hle hr=>rw[hl,← hn];rfl
theorem MS.ok1{r:RT}{l:List r.D}{u:V}(M:MS h ω hd p r l u):u.ok1=true∧u.cell=true:=by
 unfold MS at M;generalize l.map r.enc=es at M;cases M<;>exact⟨rfl,rfl⟩
theorem MS.slice{r:RT}{l:List r.D}{u:V}(M:MS h ω hd p r l u)(hl:0<l.length):∃ b,u= .slice b 0 l.length:=by
 unfold MS at M;generalize he:l.map r.enc=es at M
 have hl':l.length=es.length:=by rw[← he,A6]
 cases M with
 |nil=>rw[hl'] at hl;simp at hl
 | sl _ _ _ b o n bk h1 hk hc hne hn hw hle hr=>
   obtain⟨_,rfl,_⟩:=hc;exact⟨b,by rw[hl',hn]⟩
theorem MS.upd {r:RT} {l:List r.D} {b n:Nat} (M:MS h ω hd p r l (.slice b 0 n)) {i off:Nat} (hi:i<l.length) (hoff:off<r.w) {y:r.D} {c:PV} (hy:r.enc y=An (r.enc (l.getD i r.dflt)) off [c])
 {bk:Blk} (h1:h[b]?=some bk) {cs':List V} (h1':h'[b]?=some { bk with cs:=cs' }) (hcl:cs'.length=bk.cs.length) {v:V} (hcs:∀ k,get cs' k=if k=i*r.w+off then v else get bk.cs k)
 (hO:∀ x,x≠b→(∀ q,ω x≠.own hd (p++(i*r.w+off)::q))→h'[x]?=h[x]?) (hc:RC h' ω (.inn hd (p++[i*r.w+off])) c v):MS h' ω hd p r (l.set i y) (.slice b 0 n):=by
 unfold MS at M ⊢
 rw[← LQ,hy,← EX r l i hi]
 generalize he:l.map r.enc=es at M
 have hl':l.length=es.length:=by rw[← he,A6]
 have hwr:∀ e∈es,e.length=r.w:=by rw[← he];intro e h;obtain⟨x,_,rfl⟩:=List.mem_map.1 h;exact Hg r x
 have hi':i<es.length:=by rw[← hl'];exact hi
 cases M with
 | sl _ _ _ _ o _ bk' h1b hk hch hne hn hw hle hr=>
   rw[h1] at h1b;cases h1b
   have hbw:bk.w=r.w:=by rw[← hw _ (CY (l:=es) hi')];exact hwr _ (CY hi')
   have hel:=I1 hw hi';obtain⟨hb1,_,hb3⟩:=hch
   refine RC.sl _ .own _ b 0 n { bk with cs:=cs' } h1' hk ⟨hb1,rfl,hb3⟩ (fun _ _ h=>by have:=congrArg List.length h;rw[Dm] at this;simp only[Az] at this;omega) (by rw[Dm];exact hn) (MD hw (by rw[Eh];exact hel)) (by rw[Dm];simp only[hcl];exact hle) fun k hk'=>?_
   simp only[Dm] at hk';rw[Ot hw hi' (by rw[hbw];simp only[As,Az];omega) k hk',AQ,hcs];simp only[As,Az,hbw];by_cases hkk:k=i*r.w+off
   · subst hkk;rw[Ac ⟨by omega,by omega⟩,Ac rfl,My];exact hc
   · rw[Ad (by omega),Ad hkk];have r0:=hr k hk';rw[AQ] at r0;refine r0.inn0 (f:=Ren.id) (T:=fun x=>x=b∨∃ q,ω x= .own hd (p++(i*r.w+off)::q)) ⟨fun x e=>⟨e,hO x (by rintro rfl;rw[hb1] at e;cases e) (fun q e'=>by rw[e] at e';cases e')⟩,fun x a q e hn=>⟨by rw[e];rfl,hO x (fun h=>hn (.inl h)) (fun q' e'=>hn (.inr ⟨q',e'⟩))⟩⟩ (fun x q e hT=>?_) (fun q=>rfl);rcases hT with rfl|⟨q',e'⟩
     · rw[hb1] at e;simp only[W.own.injEq] at e;have:=congrArg List.length e.2;simp at this
     · rw[e] at e';simp only[W.own.injEq,Bh,BS,B5,List.append_cancel_left_eq,Gn] at e';exact hkk e'.2.1
theorem MS.store {r:RT} {l:List r.D} {b n:Nat} (M:MS h ω hd p r l (.slice b 0 n)) {i off:Nat} (hi:i<l.length) (hoff:off<r.w) {v:V} (hv:v.flat=true) (hvc:v.cells=[v]) {y:r.D} (hy:r.enc y=An (r.enc (l.getD i r.dflt)) off [.fl v])
 (hinj:∀ l l' a q,ω l= .own a q→ω l'= .own a q→l=l') (bx:List (List V)):∃ h',Kc bx h 1 (.ptr b (i*r.w+off)) v=some (.undef,bx,h')∧Only (Ik ω hd p) h h'∧MS h' ω hd p r (l.set i y) (.slice b 0 n):=by
 have M0:=M
 unfold MS at M0
 generalize he:l.map r.enc=es at M0
 have hl':l.length=es.length:=by rw[← he,A6]
 have hwr:∀ e∈es,e.length=r.w:=by rw[← he];intro e h;obtain⟨x,_,rfl⟩:=List.mem_map.1 h;exact Hg r x
 have hi':i<es.length:=by rw[← hl'];exact hi
 cases M0 with
 | sl _ _ _ _ o _ bk h1 hk hch hne hn hw hle hr=>
   have hbw:bk.w=r.w:=by rw[← hw _ (CY (l:=es) hi')];exact hwr _ (CY hi')
   obtain⟨hb1,_,hb3⟩:=hch
   have hlt:i*r.w+off<bk.cs.length:=by
    have:(i+1)*r.w≤es.length*r.w:=Ev _ hi';rw[Co,Gk] at this;rw[hbw] at hle;omega
   have hb:b<h.length:=Bx h1
   have hset:∀ k,(h.set b { bk with cs:=splice bk.cs (i*r.w+off) [v] })[k]?=if k=b then some { bk with cs:=splice bk.cs (i*r.w+off) [v] } else h[k]?:=by
    intro k;rw[E7];by_cases hk:b=k
    · subst hk;simp[hb]
    · rw[Ad hk,Ad (fun h'=>hk h'.symm)]
   have hvcell:[v].all V.cell=true:=by
    cases v<;>first|rfl|(simp[V.flat] at hv)
   refine⟨h.set b { bk with cs:=splice bk.cs (i*r.w+off) [v] },?_,⟨by simp,fun x hx=>?_,fun x bx' hx=>?_⟩,M.upd hi hoff hy h1 (cs':=splice bk.cs (i*r.w+off) [v]) (v:=v) (by rw[hset,Ac rfl]) (DY _ _ _) (fun k=>?_) (fun x hx _=>by rw[hset,Ad hx]) (.v _ _ hv)⟩
   · have hwr':wr h b (i*r.w+off) [v]=some (h.set b { bk with cs:=splice bk.cs (i*r.w+off) [v] }):=by
      rw[wr,h1];simp only;rw[Ac ⟨hb3,by simp only[As,Az];omega⟩]
     simp only[Kc,hvc,hvcell,As,Az,hwr'];rfl
   · rw[hset,Ad];rintro rfl;exact hx ⟨[],by rw[hb1];simp⟩
   · by_cases hxb:x=b
     · subst hxb;rw[h1] at hx;cases hx;exact⟨{ bk with cs:=splice bk.cs (i*r.w+off) [v] },by rw[hset,Ac rfl],rfl,rfl,DY _ _ _⟩
     · exact⟨bx',by rw[hset,Ad hxb];exact hx,rfl,rfl,rfl⟩
   · rw[LB _ _ _ _ (by simp only[As,Az];omega)];simp only[As,Az];by_cases hkk:k=i*r.w+off
     · subst hkk;rw[Ac ⟨by omega,by omega⟩,Ac rfl,My];rfl
     · rw[Ad (by omega),Ad hkk]
theorem MS.load{r:RT}{l:List r.D}{b n:Nat}(M:MS h ω hd p r l (.slice b 0 n)){i off:Nat}(hi:i<l.length)(hoff:off<r.w){r':RT}{l':List r'.D}(hx:Aa (r.enc (l.getD i r.dflt)) off= .sl .own (l'.map r'.enc)) :
 ∃ u,O2 h none (.ptr b (i*r.w+off))=some u∧MS h ω hd (p++[i*r.w+off]) r' l' u∧∃ bk,h[b]?=some bk∧get bk.cs (i*r.w+off)=u:=by
 have M0:=M
 unfold MS at M0
 rw[← EX r l i hi] at hx
 generalize he:l.map r.enc=es at M0 hx
 have hl':l.length=es.length:=by rw[← he,A6]
 have hwr:∀ e∈es,e.length=r.w:=by rw[← he];intro e h;obtain⟨x,_,rfl⟩:=List.mem_map.1 h;exact Hg r x
 have hi':i<es.length:=by rw[← hl'];exact hi
 cases M0 with
 | sl _ _ _ _ o _ bk h1 hk hch hne hn hw hle hr=>
   have hbw:bk.w=r.w:=by rw[← hw _ (CY (l:=es) hi')];exact hwr _ (CY hi')
   have hm:(i+1)*r.w≤es.length*r.w:=Ev _ hi';rw[Co,Gk] at hm
   have hlt:i*r.w+off<bk.cs.length:=by rw[hbw] at hle;omega
   have r0:=hr (i*r.w+off) (by rw[hbw];omega);rw[AQ] at r0;have hf:Aa es.flatten (i*r.w+off)=Aa (Aw es i) off:=FE (w:=r.w) (by rw[← hbw];exact hw) i off hoff;rw[hf,hx] at r0;refine⟨get bk.cs (i*r.w+off),?_,r0,bk,h1,rfl⟩
   have e1:rd h b (i*r.w+off) 1=some ((bk.cs.drop (i*r.w+off)).take 1):=by
    rw[rd,h1];simp only;rw[Ac ⟨hk,by omega⟩]
   show (rd h b (i*r.w+off) 1).bind (BU none)=_;rw[e1];rw[Ms hlt];simp only[SX,List.take_zero,Ie,BU,Cg,Ar hlt];rfl
theorem MS.sub {r:RT} {l:List r.D} {b n:Nat} (M:MS h ω hd p r l (.slice b 0 n)) {i off:Nat} (hi:i<l.length) (hoff:off<r.w) {u:V} {bk:Blk} (h1:h[b]?=some bk) (hu:get bk.cs (i*r.w+off)=u)
 (hO:Only (Ik ω hd (p++[i*r.w+off])) h h') {r':RT} {l':List r'.D} (hr:MS h' ω hd (p++[i*r.w+off]) r' l' u) {y:r.D} (hy:r.enc y=An (r.enc (l.getD i r.dflt)) off [.sl .own (l'.map r'.enc)]) :
 Only (Ik ω hd p) h h'∧MS h' ω hd p r (l.set i y) (.slice b 0 n):=by
 have hb1:ω b= .own hd p:=by
  have M0:=M;unfold MS at M0;generalize l.map r.enc=es at M0
  cases M0 with
  |sl _ _ _ _ o _ bk h1 hk hch hne hn hw hle hr=>exact hch.1
 refine⟨hO.mono fun x ⟨q,e⟩=>⟨(i*r.w+off)::q,by rw[e];simp⟩,M.upd hi hoff hy h1 (cs':=bk.cs) (v:=u) ?_ rfl (fun k=>?_) (fun x _ hx=>hO.off x (fun⟨q,e⟩=>hx q (by rw[e];simp))) hr⟩
 · rw[hO.off b]
   · exact h1
   · rintro⟨q,e⟩;rw[hb1] at e;simp only[W.own.injEq] at e;have:=congrArg List.length e.2;simp at this
 · split
   · rename_i hk;rw[hk,hu]
   · rfl
theorem MS.frame{r:RT}{l:List r.D}{u:V}(M:MS h ω hd p r l u){i:Nat}(hi:i<l.length):MS h ω hd p r (l.set i (l.getD i r.dflt)) u:=by
 have:l.set i (l.getD i r.dflt)=l:=by
  rw[Cw,Ar hi];simp
 rw[this];exact M
theorem QJ{r:RT}{l:List r.D}{i:Nat}(hi:i<l.length)(x:r.D):(l.set i x).getD i r.dflt=x:=by
 rw[Cw,List.getElem?_set_self (by simpa using hi)];rfl
theorem MS.st {r:RT} {l:List r.D} {b n i:Nat} {x:r.D} (M:MS h ω hd p r (l.set i x) (.slice b 0 n)) (hi:i<l.length) {off:Nat} (hoff:off<r.w) {v:V} (hv:v.flat=true) (hvc:v.cells=[v]) {y:r.D} (hy:r.enc y=An (r.enc x) off [.fl v])
 (hinj:∀ l l' a q,ω l= .own a q→ω l'= .own a q→l=l') (bx:List (List V)):∃ h',Kc bx h 1 (.ptr b (i*r.w+off)) v=some (.undef,bx,h')∧Only (Ik ω hd p) h h'∧MS h' ω hd p r (l.set i y) (.slice b 0 n):=by
 obtain⟨h',e1,e2,e3⟩:=M.store (i:=i) (off:=off) (by simpa using hi) hoff hv hvc (y:=y) (by rw[QJ hi];exact hy) hinj bx
 rw[List.set_set] at e3
 exact⟨h',e1,e2,e3⟩
theorem MS.sb{r:RT}{l:List r.D}{b n i:Nat}{x:r.D}(M:MS h ω hd p r (l.set i x) (.slice b 0 n))(hi:i<l.length){off:Nat}(hoff:off<r.w){r':RT}{l':List r'.D}(hx:Aa (r.enc x) off= .sl .own (l'.map r'.enc)) :
 ∃ u,O2 h none (.ptr b (i*r.w+off))=some u∧MS h ω hd (p++[i*r.w+off]) r' l' u ∧
   ∀ (h':Ab) (l'':List r'.D) (y:r.D),Only (Ik ω hd (p++[i*r.w+off])) h h'→MS h' ω hd (p++[i*r.w+off]) r' l'' u→r.enc y=An (r.enc x) off [.sl .own (l''.map r'.enc)]→Only (Ik ω hd p) h h'∧MS h' ω hd p r (l.set i y) (.slice b 0 n):=by
 obtain⟨u,e1,e2,bk,e3,e4⟩:=M.load (i:=i) (off:=off) (by simpa using hi) hoff (r':=r') (l':=l') (by rw[QJ hi];exact hx)
 refine⟨u,e1,e2,fun h' l'' y hO hM hy=>?_⟩
 obtain⟨k1,k2⟩:=M.sub (i:=i) (off:=off) (by simpa using hi) hoff e3 e4 hO hM (y:=y) (by rw[QJ hi];exact hy)
 rw[List.set_set] at k2
 exact⟨k1,k2⟩
theorem ll{r:RT}{l:List r.D}(hw:CT.wl (.sl r) l){i:Nat}(hi:i<l.length):RT.wl r (l.getD i r.dflt):=by
 rw[Cw,Ar hi];exact hw.2 _ (CY hi)
theorem RC.beside{m:Nat}{P:List Nat}{v:PV}{u:V}{S:Nat→Prop}(r:RC h ω (.inn hd (P++[m])) v u)(hO:Only S h h')(hS:∀ l,S l→∃ c q,c≠m∧ω l= .own hd (P++c::q)):RC h' ω (.inn hd (P++[m])) v u:=by
 refine r.inn0 (f:=Ren.id) (T:=S) ⟨fun l e=>⟨e,hO.off l fun hs=>?_⟩,fun l a q e hn=>⟨by rw[e];rfl,hO.off l hn⟩⟩ (fun l q e hs=>?_) (fun q=>rfl)
 · obtain⟨c,q,_,e'⟩:=hS l hs;rw[e] at e';cases e'
 · obtain⟨c,q',hc,e'⟩:=hS l hs;rw[e] at e';simp only[W.own.injEq,Bh,BS,B5,List.append_cancel_left_eq,Gn] at e';exact hc e'.2.1.symm
theorem RC.cellV{H:Ab}{m:Md}{v:PV}{u:V}(r:RC H ω m v u)(h:v.argc=true):u.cell=true:=SP r h
theorem RC.own1{H:Ab}{m:Md}{es:List (List PV)}{u:V}(r:RC H ω m (.sl .own es) u):u.ok1=true∧u.cell=true∧u.cells=[u]:=by cases r<;>exact⟨rfl,rfl,rfl⟩
theorem RC.flat1{H:Ab}{m:Md}{x u:V}(r:RC H ω m (.fl x) u)(hx:x≠.undef):u=x:=by
 cases r with
 |undef=>exact absurd rfl hx
 |v=>rfl
theorem Yd{x:Int}(h:-9223372036854775808≤x∧x≤9223372036854775807):IntKind.i64.wrap x=x:=by
 rw[IntKind.wrap_i64];omega
theorem SQ{r:RT}{x:r.D}{j:Nat}(h:j<r.w):j<(r.enc x).length:=by rw[Hg];exact h
theorem ke{b n w:Nat}{i:Nat}(hi:i<n){k:IntKind}:Wr w (.slice b 0 n) (.int k (i:Int))=some (.ptr b (i*w)):=by
 show (if 0≤(i:Int)∧(i:Int)<n then some (V.ptr b (0+(i:Int).toNat*w)) else none)=_;rw[Ac (by omega),BA,AQ]
theorem eI{r:RT}{l:List r.D}{m:Int}{i:Nat}(hi:i<l.length){L:List r.D}{k:Int}(e:BE r.mkI l m i=(L,k)):L.length=l.length∧BE r.mkI l m (i+1)=(L.set i (r.mkI (L.getD i r.dflt) k).1,(r.mkI (L.getD i r.dflt) k).2)∧L.getD i r.dflt=l.getD i r.dflt:=by
 have h1:=Oo r.mkI l m i;have h2:=fF r.mkI l m i r.dflt;rw[e] at h1 h2;exact⟨h1,by rw[LD r.mkI l m hi r.dflt,e,← h2],h2⟩
end
theorem mG{us:List V}(h:us.length=2):∃ u0 u1,us=[u0,u1]:=by
 match us,h with
 |[u0,u1],_=>exact⟨u0,u1,rfl⟩
def SlC(s:AX)(r:RT):Prop:=∀ (h:Ab) (ω:Nat→W) (hd:Hd) (p:List Nat) (l:List r.D) (u:V) (m:Int) (Q:V→Ab→Prop),CT.wl (.sl r) l→(∀ l l' a q,ω l= .own a q→ω l'= .own a q→l=l')→MS h ω hd p r l u →
 (∀ h',Only (Ik ω hd p) h h'→MS h' ω hd p r (Bs r.mkI l m).1 u→Q (.int .i64 (Bs r.mkI l m).2) h')→s [u,.int .i64 m] h Q
def nB(r:RT):DMk:=⟨.one (.sl r),false,fun l=>CT.wl (.sl r) l,fun l m=>Bs r.mkI l m,false⟩
def YD(r:RT):DMk:=⟨r,true,fun x=>RT.wl r x,fun x m=>r.mkT x m,false⟩
theorem kQ(r:RT)(m:Int):(YD r).P.rv m= .int .i64 m:=rfl
attribute [go_sem] kQ
theorem SlC.sound{s:AX}{r:RT}(hs:SlC s r):Mq s (nB r).P:=by
 rintro h ω hd P b AM us u m K Q hinj hu hl hr ⟨x,rfl,hok,hK⟩ hQ;have hu:us=[u]:=hu;subst hu;have h0:=hr 0 (by show 0<1;omega)
 refine hs h ω hd (P++[b]) x u m Q hok hinj h0 fun h' hO hM=>?_
 refine hQ _ _ h' hK rfl (hO.mono fun l ⟨q,e⟩=>⟨0,_,q,by show 0<1;omega,rfl,by rw[e];simp⟩) fun c hc=>?_
 have:c=0:=by have:c<1:=hc;omega
 subst this;exact hM
structure Fn where
 d:DFun
 h:List HT
 q:QT
@[irreducible] def Fn.S(F:Fn):AX:=Hp F.d.er.er
@[irreducible] def Fn.P(F:Fn):Cd:=I0 F.d.er
@[irreducible] def Fn.V(F:Fn)(x:TuX F.h):F.q.D:=(shut fun x=>F0 F.d F.h F.q x).1 x
@[irreducible] def Fn.O(F:Fn)(x:TuX F.h):Prop:=(shut fun x=>FW F.d F.h F.q x).1 x
def Fn.D(F:Fn):Fg:=Gp F.h F.q F.O F.V
theorem Fn.v(F:Fn)(x:TuX F.h):F.V x=F0 F.d F.h F.q x:=by unfold Fn.V;exact congrFun (shut _).2 x
theorem Fn.o(F:Fn)(x:TuX F.h):F.O x=FW F.d F.h F.q x:=by unfold Fn.O;exact congrFun (shut _).2 x
def Fn.A(F:Fn):Prop:=Hi F.S F.P
def Fn.B(F:Fn):Prop:=H4 F.P F.D
theorem BJ{F:Fn}(o:AllP F.d.er.body.obs):F.A:=by unfold Fn.A Fn.S Fn.P;exact Vb o
theorem BR{F:Fn}(o:AllD F.d.body.obs)(st:K0 F.d F.h F.q=true)(c:∀ x,KH F.d F.h F.q x=true):F.B:=by
 unfold Fn.B Fn.P;exact VZ o st c (fun x h=>Eq.mp (F.o x) h) (fun x=>(F.v x).symm)
@[reducible] def oF (i d:Nat) (F:Fn) (args:List Opnd):DOper:=⟨i,some d,.call false F.S F.P F.D args,none,[]⟩
@[reducible] def xF (i d:Nat) (F:Fn) (args:List Opnd) (a:List Nat):DOper:=⟨i,some d,.call false F.S F.P F.D args,none,a⟩
theorem lF{P:Program}(hm:P.follows .mixedOrders=true){F:Fn}{f:FuncId}{fn:Func}{obs:List (FuncId×AX)}(hf:P.funcs[f]?=some fn)(hk:KM P fn F.d.er.er=true)(ho:KU P fn F.d.er.er=obs)(hob:AllSound P obs):Ay P f F.S:=by
 unfold Fn.S;exact Qp hm hf hk ho hob
section
set_option maxRecDepth 8000
def cu:DCode:=(.seq [2,1,0] (.region [oa 0 6 (.mv (.c (.bool false)))]) (.seq [6] (.region [om 0 7 0,om 1 8 1,oa 2 9 (.bin .geq (.t 7) (.t 8)),om 3 10 9,og 4 11 (.mv (.t 0)) 10 true,og 5 12 (.mv (.t 2)) 10 true,og 6 13 (.bin .leq (.t 11) (.t 12)) 10 true,oa 7 14 (.pick (.t 10) (.t 13) (.c (.bool false))),om 8 6 14]) .ret))
def C6:Fn:=⟨⟨3,15,0,true,[.tmp 6],cu⟩,[.one .frz (.int .i64),.one .frz (.int .i64),.one .frz (.int .i64)],.one (.one .own (.bool))⟩
theorem NX:C6.A:=BJ trivial
def Dl:Int×Int×Int→Bool:=C6.V
def IG:Int×Int×Int→Prop:=C6.O
theorem NZ:C6.B:=BR trivial (by kernel_rfl) (fun x=>by kernel_rfl)
def bh:DCode:=(.seq [0] (.region [oa 0 2 (.mv (.c (.bool false)))]) (.seq [2] (.region [om 0 3 0,oa 1 4 (.bin .geq (.t 3) (.c (.int .i64 1))),om 2 5 4,og 3 6 (.mv (.t 0)) 5 true,og 4 7 (.bin .leq (.t 6) (.c (.int .i64 56))) 5 true,oa 5 8 (.pick (.t 5) (.t 7) (.c (.bool false))),om 6 2 8]) .ret))
def GX:Fn:=⟨⟨1,9,0,true,[.tmp 2],bh⟩,[.one .frz (.int .i64)],.one (.one .own (.bool))⟩
theorem bj:GX.A:=BJ trivial
def JY:Int→Bool:=GX.V
def NN:Int→Prop:=GX.O
theorem bn:GX.B:=BR trivial (by kernel_rfl) (fun x=>by kernel_rfl)
end
section
set_option maxRecDepth 8000
def cT:DCode:=(.seq [1,0] (.region [oi 0 4 0]) (.seq [4] (.region [om 0 5 0,om 1 6 1,oa 2 7 (.bin .shr (.t 5) (.t 6)),oa 3 8 (.bin .and (.t 7) (.c (.int .i64 1))),om 4 4 8]) .ret))
def G2:Fn:=⟨⟨2,9,0,true,[.tmp 4],cT⟩,[.one .frz (.int .i64),.one .frz (.int .i64)],.one (.one .own (.int .i64))⟩
theorem dj:G2.A:=BJ trivial
def LG:Int×Int→Int:=G2.V
def Qv:Int×Int→Prop:=G2.O
theorem cL:G2.B:=BR trivial (by kernel_rfl) (fun x=>by kernel_rfl)
end
section
set_option maxRecDepth 8000
def bA:DCode:=(.seq [1,0] (.region [oa 0 4 (.mv (.c (.bool false)))]) (.seq [1,0] (.seq [10,1,0] (.region [on 0 6 0,oa 1 7 (.len (.t 6)),on 2 8 1,oa 3 9 (.len (.t 8)),oa 4 10 (.bin .neq (.t 7) (.t 9))]) (.cond (.t 10) (.seq [4] (.region [oa 0 4 (.mv (.c (.bool false)))]) .ret) .skip)) (.seq [] (.seq [5,1,0] (.region [oi 0 5 0]) (.block 0 (.loop [0,1,5] 1 (.seq [5,1,0] (.seq [14,5,1,0] (.region [om 0 11 5,on 1 12 0,oa 2 13 (.len (.t 12)),oa 3 14 (.bin .lss (.t 11) (.t 13))]) (.cond (.t 14) .skip (.exit 0))) (.seq [5,1,0] (.block 1 (.seq [25,5,1,0] (.region [on 0 17 0,om 1 18 5,xA 2 19 (.indexA 1 (.t 17) (.t 18)) (rg 2),xA 3 20 (.loadH none (.t 19)) (rg 3),on 4 21 1,om 5 22 5,xA 6 23 (.indexA 1 (.t 21) (.t 22)) [4,5],xA 7 24 (.loadH none (.t 23)) [4,5,6],xA 8 25 (.bin .neq (.t 20) (.t 24)) (rg 8)]) (.cond (.t 25) (.seq [4] (.region [oa 0 4 (.mv (.c (.bool false)))]) .ret) .skip))) (.region [om 0 15 5,oa 1 16 (.bin .add (.t 15) (.c (.int .i64 1))),om 2 5 16])))))) (.seq [4] (.region [oa 0 4 (.mv (.c (.bool true)))]) .ret))))
def GV:Fn:=⟨⟨2,26,0,true,[.tmp 4],bA⟩,[.one .frz (.sl (.one (.int .i64))),.one .frz (.sl (.one (.int .i64)))],.one (.one .own (.bool))⟩
theorem aV:GV.A:=BJ trivial
def NR:List (Int)×List (Int)→Bool:=GV.V
def NQ:List (Int)×List (Int)→Prop:=GV.O
theorem aW:GV.B:=BR trivial (by kernel_rfl) (fun x=>by kernel_rfl)
def ZO:DCode:=(.seq [3,2] (.region [oa 0 2 (.boxB 0 2 (.t 0)),oa 1 3 (.boxB 1 2 (.t 1)),oa 2 4 (.mv (.c (.bool false)))]) (.seq [3,2] (.seq [9,3,2] (.region [oa 0 5 (.fieldA 0 (.t 2)),oa 1 6 (.loadB 0 none (.t 5)),oa 2 7 (.fieldA 0 (.t 3)),oa 3 8 (.loadB 1 none (.t 7)),oa 4 9 (.bin .neq (.t 6) (.t 8))]) (.cond (.t 9) (.seq [4] (.region [oa 0 4 (.mv (.c (.bool false)))]) .ret) .skip)) (.seq [] (.seq [15] (.region [oa 0 10 (.fieldA 1 (.t 2)),oa 1 11 (.loadB 0 none (.t 10)),oa 2 12 (.fieldA 1 (.t 3)),oa 3 13 (.loadB 1 none (.t 12)),oF 4 14 GV [(.t 11),(.t 13)],oa 5 15 (.un .not (.t 14))]) (.cond (.t 15) (.seq [4] (.region [oa 0 4 (.mv (.c (.bool false)))]) .ret) .skip)) (.seq [4] (.region [oa 0 4 (.mv (.c (.bool true)))]) .ret))))
def Fx:Fn:=⟨⟨2,16,2,true,[.tmp 4],ZO⟩,[.agg [(.frz,.int .i64),(.frz,.sl (.one (.int .i64)))],.agg [(.frz,.int .i64),(.frz,.sl (.one (.int .i64)))]],.one (.one .own (.bool))⟩
theorem Uc:Fx.A:=BJ ⟨aV,trivial⟩
def F9:(Int×List (Int))×(Int×List (Int))→Bool:=Fx.V
def JQ:(Int×List (Int))×(Int×List (Int))→Prop:=Fx.O
theorem Ub:Fx.B:=BR ⟨aW,trivial⟩ (by kernel_rfl) (fun x=>by kernel_rfl)
end
section
set_option maxRecDepth 8000
def Ul:ACode:=(.seq (.region [⟨0,some 4,.mv (.c (.int .i64 0)),none,[]⟩]) (.seq (.seq (.region [⟨0,some 5,.mv (.c (.int .i64 0)),none,[]⟩]) (.block 0 (.loop [0,1,5] (.seq (.seq (.region [⟨0,some 6,.mv (.t 5),none,[]⟩,⟨1,some 7,.mv (.t 0),none,[]⟩,⟨2,some 8,.len (.t 7),none,[]⟩,⟨3,some 9,.bin .lss (.t 6) (.t 8),none,[]⟩]) (.cond (.t 9) .skip (.exit 0))) (.seq (.block 1 (.seq (.region [⟨0,some 12,.mv (.t 0),none,[]⟩,⟨1,some 13,.mv (.t 5),none,[]⟩,⟨2,some 14,.mv (.t 1),none,[]⟩,⟨3,some 15,.indexA 1 (.t 12) (.t 13),none,[]⟩,⟨4,none,.storeH 1 (.t 15) (.t 14),none,[]⟩]) (.region [⟨0,some 16,.mv (.t 1),none,[]⟩,⟨1,some 17,.bin .add (.t 16) (.c (.int .i64 1)),none,[]⟩,⟨2,some 1,.mv (.t 17),none,[]⟩]))) (.region [⟨0,some 10,.mv (.t 5),none,[]⟩,⟨1,some 11,.bin .add (.t 10) (.c (.int .i64 1)),none,[]⟩,⟨2,some 5,.mv (.t 11),none,[]⟩])))))) (.seq (.region [⟨0,some 18,.mv (.t 1),none,[]⟩,⟨1,some 4,.mv (.t 18),none,[]⟩]) .ret)))
def Qk:AFun:=⟨2,19,0,false,[.tmp 4],Ul⟩
@[irreducible] def JS:AX:=Hp Qk
@[irreducible] def Ft(x:List (Int))(m:Int):(List (Int))×Int:=(shut fun(x:List (Int)) (m:Int)=>Bs (RT.mkI (.one (.int .i64))) x m).1 x m
@[irreducible] def Ny(x:List (Int)):Prop:=(shut fun(x:List (Int))=>CT.wl (.sl (.one (.int .i64))) x).1 x
theorem T1:Ft=fun x m=>Bs (RT.mkI (.one (.int .i64))) x m:=by unfold Ft;exact(shut _).2
theorem ZF:Ny=fun x=>CT.wl (.sl (.one (.int .i64))) x:=by unfold Ny;exact(shut _).2
theorem aC:SlC JS (.one (.int .i64)):=by
 rintro h ω hd p l u m Q hok hinj hM hQ;have hn:=hM.len;have hlb:l.length≤9223372036854775807:=hok.1;unfold JS;refine Vz rfl ?_;unfold Ul;simp only[go_sem,reduceIte,reduceCtorEq,Nat.reduceAdd,Nat.reduceBEq,Int.reduceLT,Int.reduceLE,Int.reduceGT,Int.reduceGE,Int.reduceBEq,Int.reduceBNe,Nat.reduceEqDiff,Nat.reduceLeDiff,Nat.reduceLT,hn];refine j9 l.length (fun i st=>∃ h',st=⟨[u,.int .i64 (BE (RT.mkI (.one (.int .i64))) l m i).2,.undef,.undef,.undef,.int .i64 (i:Int)]++Ff 13,[],h'⟩∧Only (Ik ω hd p) h h'∧MS h' ω hd p (.one (.int .i64)) (BE (RT.mkI (.one (.int .i64))) l m i).1 u) ?_ ?_
 · refine⟨h,?_,Only.refl _ _,hM⟩;simp only[Vd,keep,Int.natCast_zero];rfl
 · rintro i st next hi ⟨h1,rfl,hO,hR⟩ hnx
   by_cases hlt:i<l.length
   · have hc:decide ((i:Int)<(l.length:Int))=true:=D4 (by omega)
     have hw:IntKind.i64.wrap ((i:Int)+1)=((i+1:Nat):Int):=by rw[Yd (by omega)];omega
     obtain⟨b,hub⟩:=hR.slice (by rw[Oo];omega);rw[Oo] at hub;subst hub
     cases hL:BE (RT.mkI (.one (.int .i64))) l m i with
     |mk L k0=>
     rw[hL] at hR;obtain⟨hLl,hs,hx0⟩:=eI hlt hL
     have hiL:i<L.length:=by omega
     have hwx:=ll hok hlt;rw[← hx0] at hwx;have R0:=MS.frame hR hiL;clear hx0;generalize hx0:List.getD L i (RT.dflt (.one (.int .i64)))=x0 at R0 hs hwx;clear hx0;have hx:=ke (b:=b) (w:=1) hlt (k:=.i64);simp only;obtain⟨h2,s0,o0,R1⟩:=MS.st R0 hiL (off:=0) (by decide) (v:=(.int .i64 k0)) rfl rfl (y:=(k0:RT.D (.one (.int .i64)))) rfl hinj [];replace s0:Kc [] h1 1 (.ptr b (i*1)) (.int .i64 k0)=some (.undef,[],h2):=s0;simp only[go_sem,reduceIte,reduceCtorEq,Nat.reduceAdd,Nat.reduceBEq,Int.reduceLT,Int.reduceLE,Int.reduceGT,Int.reduceGE,Int.reduceBEq,Int.reduceBNe,Nat.reduceEqDiff,Nat.reduceLeDiff,Nat.reduceLT,hn,hc,hw,hx,s0];exact hnx _ hlt ⟨h2,by rw[hs];rfl,(Only.trans hO o0),by rw[hs];exact R1⟩
   · have hc:decide ((i:Int)<(l.length:Int))=false:=Hc (by omega)
     have hi':i=l.length:=by omega
     subst hi';simp only[go_sem,reduceIte,reduceCtorEq,Nat.reduceAdd,Nat.reduceBEq,Int.reduceLT,Int.reduceLE,Int.reduceGT,Int.reduceGE,Int.reduceBEq,Int.reduceBNe,Nat.reduceEqDiff,Nat.reduceLeDiff,Nat.reduceLT,hn,hc];have e:=LL (RT.mkI (.one (.int .i64))) l m;rw[e] at hR ⊢;exact hQ h1 hO hR
def T0:ACode:=(.seq (.region [⟨0,some 2,.boxB 0 2 (.t 0),none,[]⟩,⟨1,some 4,.mv (.c (.int .i64 0)),none,[]⟩]) (.seq (.region [⟨0,some 5,.fieldA 1 (.t 2),none,[]⟩,⟨1,some 6,.loadB 0 none (.t 5),none,[]⟩,⟨2,some 7,.mv (.t 1),none,[]⟩,⟨3,some 8,.call JS [(.t 6),(.t 7)],none,[]⟩,⟨4,some 1,.mv (.t 8),none,[]⟩]) (.seq (.region [⟨0,some 9,.mv (.t 1),none,[]⟩,⟨1,some 4,.mv (.t 9),none,[]⟩]) .ret)))
def Qf:AFun:=⟨2,10,1,false,[.tmp 4],T0⟩
@[irreducible] def HA:AX:=Hp Qf
@[irreducible] def B0(x:Int×List (Int))(m:Int):(Int×List (Int))×Int:=(shut fun(x:Int×List (Int)) (m:Int)=>RT.mkT (.cons (.int .i64) (.one (.sl (.one (.int .i64))))) x m).1 x m
@[irreducible] def JI(x:Int×List (Int)):Prop:=(shut fun(x:Int×List (Int))=>RT.wl (.cons (.int .i64) (.one (.sl (.one (.int .i64))))) x).1 x
theorem TP:B0=fun x m=>RT.mkT (.cons (.int .i64) (.one (.sl (.one (.int .i64))))) x m:=by unfold B0;exact(shut _).2
theorem TQ:JI=fun x=>RT.wl (.cons (.int .i64) (.one (.sl (.one (.int .i64))))) x:=by unfold JI;exact(shut _).2
theorem Zq:Mq HA (YD (.cons (.int .i64) (.one (.sl (.one (.int .i64)))))).P:=by
 rintro h ω hd P b AM us u m K Q hinj hu hl hr ⟨x,rfl,hok,hK⟩ hQ;have hu:u= .agg us:=hu;subst hu;show HA [.agg us,.int .i64 m] h Q;obtain⟨u0,u1,rfl⟩:=mG hl;have c0:RC h ω (.inn hd (P++[b+0])) (CT.enc (.int .i64) x.1) u0:=hr 0 (SQ (by decide));have c1:RC h ω (.inn hd (P++[b+1])) (CT.enc (.sl (.one (.int .i64))) x.2) u1:=hr 1 (SQ (by decide));have e0:=c0.cellV rfl;have e1:=c1.cellV rfl;have g1:=(RC.own1 c1).1;have z1:=(RC.own1 c1).2.2;unfold HA;refine Vz rfl ?_;unfold T0;simp only[go_sem,reduceIte,reduceCtorEq,Nat.reduceAdd,Nat.reduceBEq,Int.reduceLT,Int.reduceLE,Int.reduceGT,Int.reduceGE,Int.reduceBEq,Int.reduceBNe,Nat.reduceEqDiff,Nat.reduceLeDiff,Nat.reduceLT,e0,e1,g1];refine me (aC h ω hd (P++[b+1]) x.2 u1 m _ hok.2 hinj c1 fun h1 O0 N0=>?_);replace N0:RC h1 ω (.inn hd (P++[b+1])) (CT.enc (.sl (.one (.int .i64))) (Bs (RT.mkI (.one (.int .i64))) x.2 m).1) u1:=N0;have b0_0:=RC.beside c0 O0 (fun l hs=>by obtain⟨q,e⟩:=hs;exact⟨b+1,q,by omega,by rw[e];simp⟩);simp only[go_sem,reduceIte,reduceCtorEq,Nat.reduceAdd,Nat.reduceBEq,Int.reduceLT,Int.reduceLE,Int.reduceGT,Int.reduceGE,Int.reduceBEq,Int.reduceBNe,Nat.reduceEqDiff,Nat.reduceLeDiff,Nat.reduceLT,e0,e1,g1]
 refine hQ _ _ h1 hK rfl ((Only.mono O0 fun l hs=>by obtain⟨q,e⟩:=hs;exact⟨1,_,q,SQ (by decide),rfl,by rw[e];simp⟩)) fun c hc=>?_
 have hc:c<2:=hc;rcases (show c=0∨c=1 by omega) with rfl|rfl
 · exact b0_0
 · exact N0
def Qd:DMk:=⟨(.cons (.int .i64) (.one (.sl (.one (.int .i64))))),true,JI,B0,false⟩
theorem Y9:Mq HA (DMk.P Qd):=by unfold Qd;rw[TQ,TP];exact Zq
def aj:DCode:=(.seq [1,0] (.region [oi 0 4 0]) (.seq [1] (.seq [5,1,0] (.region [oi 0 5 0]) (.block 0 (.loop [0,1,5] 1 (.seq [5,1,0] (.seq [9,5,1,0] (.region [om 0 6 5,on 1 7 0,oa 2 8 (.len (.t 7)),oa 3 9 (.bin .lss (.t 6) (.t 8))]) (.cond (.t 9) .skip (.exit 0))) (.seq [5,1,0] (.block 1 (.seq [5,1,0] (.seq [17,5,1,0] (.region [on 0 12 0,om 1 13 5,oa 2 14 (.indexA 1 (.t 12) (.t 13)),oa 3 15 (.loadH none (.t 14)),om 4 16 1,oa 5 17 (.bin .neq (.t 15) (.t 16))]) (.cond (.t 17) (.seq [4] (.region [oi 0 4 (-1)]) .ret) .skip)) (.region [om 0 18 1,oa 1 19 (.bin .add (.t 18) (.c (.int .i64 1))),om 2 1 19]))) (.region [om 0 10 5,oa 1 11 (.bin .add (.t 10) (.c (.int .i64 1))),om 2 5 11])))))) (.seq [4] (.region [om 0 20 1,om 1 4 20]) .ret)))
def GQ:Fn:=⟨⟨2,21,0,true,[.tmp 4],aj⟩,[.one .frz (.sl (.one (.int .i64))),.one .frz (.int .i64)],.one (.one .own (.int .i64))⟩
theorem ai:GQ.A:=BJ trivial
def Ln:List (Int)×Int→Int:=GQ.V
def NC:List (Int)×Int→Prop:=GQ.O
theorem ae:GQ.B:=BR trivial (by kernel_rfl) (fun x=>by kernel_rfl)
def Zm:DCode:=(.seq [2,1] (.region [oa 0 2 (.boxB 0 2 (.t 0)),oi 1 4 0]) (.seq [1] (.region [oa 0 5 (.fieldA 1 (.t 2)),oa 1 6 (.loadB 0 none (.t 5)),om 2 7 1,oF 3 8 GQ [(.t 6),(.t 7)],om 4 1 8]) (.seq [1] (.seq [10,1] (.region [om 0 9 1,oa 1 10 (.bin .lss (.t 9) (.c (.int .i64 0)))]) (.cond (.t 10) (.seq [4] (.region [oi 0 4 (-1)]) .ret) .skip)) (.seq [4] (.region [om 0 11 1,om 1 4 11]) .ret))))
def Fm:Fn:=⟨⟨2,12,1,true,[.tmp 4],Zm⟩,[.agg [(.frz,.int .i64),(.frz,.sl (.one (.int .i64)))],.one .frz (.int .i64)],.one (.one .own (.int .i64))⟩
theorem TV:Fm.A:=BJ ⟨ai,trivial⟩
def Fo:(Int×List (Int))×Int→Int:=Fm.V
def Lf:(Int×List (Int))×Int→Prop:=Fm.O
theorem TX:Fm.B:=BR ⟨ae,trivial⟩ (by kernel_rfl) (fun x=>by kernel_rfl)
end
section
set_option maxRecDepth 8000
def Z3:DCode:=(.seq [1] (.region [oa 0 1 (.boxB 0 2 (.t 0)),oa 1 2 (.mv (.c (.bool false)))]) (.seq [1] (.seq [3,1] (.region [oi 0 3 0]) (.block 0 (.loop [1,3] 1 (.seq [3,1] (.seq [8,3,1] (.region [om 0 4 3,oa 1 5 (.fieldA 1 (.t 1)),oa 2 6 (.loadB 0 none (.t 5)),oa 3 7 (.len (.t 6)),oa 4 8 (.bin .lss (.t 4) (.t 7))]) (.cond (.t 8) .skip (.exit 0))) (.seq [3,1] (.block 1 (.seq [35,3,1] (.region [oa 0 11 (.fieldA 1 (.t 1)),xA 1 12 (.loadB 0 none (.t 11)) (rg 1),om 2 13 3,xA 3 14 (.indexA 1 (.t 12) (.t 13)) (rg 3),xA 4 15 (.loadH none (.t 14)) (rg 4),xF 5 16 C6 [(.t 15),(.c (.int .i64 1)),(.c (.int .i64 56))] (rg 5),xA 6 17 (.un .not (.t 16)) (rg 6),xA 7 18 (.mv (.t 17)) (rg 7),⟨8,some 19,.a false (.mv (.t 3)) none,(some (18,false)),[0,1,2,3,4,5,6,7]⟩,⟨9,some 20,.a false (.bin .gtr (.t 19) (.c (.int .i64 0))) none,(some (18,false)),[0,1,2,3,4,5,6,7,8]⟩,⟨10,some 21,.a false (.mv (.t 20)) none,(some (18,false)),[0,1,2,3,4,5,6,7,8,9]⟩,⟨11,some 22,.a false (.fieldA 1 (.t 1)) none,(some (21,true)),[0,1,2,3,4,5,6,7,8,9,10]⟩,⟨12,some 23,.a false (.loadB 0 none (.t 22)) none,(some (21,true)),[0,1,2,3,4,5,6,7,8,9,10,11]⟩,⟨13,some 24,.a false (.mv (.t 3)) none,(some (21,true)),[0,1,2,3,4,5,6,7,8,9,10]⟩,⟨14,some 25,.a false (.bin .sub (.t 24) (.c (.int .i64 1))) none,(some (21,true)),[0,1,2,3,4,5,6,7,8,9,10,13]⟩,⟨15,some 26,.a false (.indexA 1 (.t 23) (.t 25)) none,(some (21,true)),[0,1,2,3,4,5,6,7,8,9,10,11,12,13,14]⟩,⟨16,some 27,.a false (.loadH none (.t 26)) none,(some (21,true)),[0,1,2,3,4,5,6,7,8,9,10,11,12,13,14,15]⟩,⟨17,some 28,.a false (.fieldA 1 (.t 1)) none,(some (21,true)),[0,1,2,3,4,5,6,7,8,9,10]⟩,⟨18,some 29,.a false (.loadB 0 none (.t 28)) none,(some (21,true)),[0,1,2,3,4,5,6,7,8,9,10,17]⟩,⟨19,some 30,.a false (.mv (.t 3)) none,(some (21,true)),[0,1,2,3,4,5,6,7,8,9,10]⟩,⟨20,some 31,.a false (.indexA 1 (.t 29) (.t 30)) none,(some (21,true)),[0,1,2,3,4,5,6,7,8,9,10,17,18,19]⟩,⟨21,some 32,.a false (.loadH none (.t 31)) none,(some (21,true)),[0,1,2,3,4,5,6,7,8,9,10,17,18,19,20]⟩,⟨22,some 33,.a false (.bin .geq (.t 27) (.t 32)) none,(some (21,true)),[0,1,2,3,4,5,6,7,8,9,10,11,12,13,14,15,16,17,18,19,20,21]⟩,⟨23,some 34,.a false (.pick (.t 21) (.t 33) (.c (.bool false))) none,(some (18,false)),[0,1,2,3,4,5,6,7,8,9,10,11,12,13,14,15,16,17,18,19,20,21,22]⟩,xA 24 35 (.pick (.t 18) (.c (.bool true)) (.t 34)) (rg 24)]) (.cond (.t 35) (.seq [2] (.region [oa 0 2 (.mv (.c (.bool false)))]) .ret) .skip))) (.region [om 0 9 3,oa 1 10 (.bin .add (.t 9) (.c (.int .i64 1))),om 2 3 10])))))) (.seq [2] (.region [oa 0 36 (.fieldA 0 (.t 1)),oa 1 37 (.loadB 0 none (.t 36)),oF 2 38 C6 [(.t 37),(.c (.int .i64 0)),(.c (.int .i64 15))],om 3 2 38]) .ret)))
def GS:Fn:=⟨⟨1,39,1,true,[.tmp 2],Z3⟩,[.agg [(.frz,.int .i64),(.frz,.sl (.one (.int .i64)))]],.one (.one .own (.bool))⟩
theorem Z8:GS.A:=BJ ⟨NX,NX,trivial⟩
def DE:Int×List (Int)→Bool:=GS.V
def Ll:Int×List (Int)→Prop:=GS.O
theorem ZP:GS.B:=BR ⟨NZ,NZ,trivial⟩ (by kernel_rfl) (fun x=>by kernel_rfl)
def aB:DCode:=(.seq [1] (.region [oa 0 1 (.boxB 0 2 (.t 0)),oa 1 2 (.mv (.c (.bool false)))]) (.seq [1] (.seq [12,1] (.region [oa 0 5 (.fieldA 0 (.t 1)),oa 1 6 (.loadB 0 none (.t 5)),oa 2 7 (.bin .lss (.t 6) (.c (.int .i64 0))),om 3 8 7,og 4 9 (.fieldA 0 (.t 1)) 8 false,og 5 10 (.loadB 0 none (.t 9)) 8 false,og 6 11 (.bin .gtr (.t 10) (.c (.int .i64 15))) 8 false,oa 7 12 (.pick (.t 8) (.c (.bool true)) (.t 11))]) (.cond (.t 12) (.seq [2] (.region [oa 0 2 (.mv (.c (.bool false)))]) .ret) .skip)) (.seq [] (.seq [16,15,14,1] (.region [oa 0 13 (.fieldA 1 (.t 1)),oa 1 14 (.loadB 0 none (.t 13)),oa 2 15 (.len (.t 14)),oi 3 16 0]) (.block 0 (.loop [1,14,15,16] 1 (.seq [17,16,15,14,1] (.region [oa 0 17 (.bin .lss (.t 16) (.t 15))]) (.seq [16,15,14,1] (.cond (.t 17) .skip (.exit 0)) (.seq [16,15,14,1] (.block 1 (.seq [16,15,14,4,3,1] (.region [om 0 18 16,oa 1 19 (.indexA 1 (.t 14) (.t 16)),oa 2 20 (.loadH none (.t 19)),om 3 3 18,om 4 4 20]) (.seq [37,16,15,14,1] (.region [om 0 21 4,oF 1 22 GX [(.t 21)],oa 2 23 (.un .not (.t 22)),om 3 24 23,og 4 25 (.mv (.t 3)) 24 false,og 5 26 (.bin .gtr (.t 25) (.c (.int .i64 0))) 24 false,og 6 27 (.mv (.t 26)) 24 false,og 7 28 (.fieldA 1 (.t 1)) 27 true,og 8 29 (.loadB 0 none (.t 28)) 27 true,og 9 30 (.mv (.t 3)) 27 true,og 10 31 (.bin .sub (.t 30) (.c (.int .i64 1))) 27 true,og 11 32 (.indexA 1 (.t 29) (.t 31)) 27 true,og 12 33 (.loadH none (.t 32)) 27 true,og 13 34 (.mv (.t 4)) 27 true,og 14 35 (.bin .geq (.t 33) (.t 34)) 27 true,og 15 36 (.pick (.t 27) (.t 35) (.c (.bool false))) 24 false,oa 16 37 (.pick (.t 24) (.c (.bool true)) (.t 36))]) (.cond (.t 37) (.seq [2] (.region [oa 0 2 (.mv (.c (.bool false)))]) .ret) .skip)))) (.region [oa 0 38 (.bin .add (.t 16) (.c (.int .i64 1))),om 1 16 38]))))))) (.seq [2] (.region [oa 0 2 (.mv (.c (.bool true)))]) .ret))))
def Fy:Fn:=⟨⟨1,39,1,true,[.tmp 2],aB⟩,[.agg [(.frz,.int .i64),(.frz,.sl (.one (.int .i64)))]],.one (.one .own (.bool))⟩
theorem Uf:Fy.A:=BJ ⟨bj,trivial⟩
def Ga:Int×List (Int)→Bool:=Fy.V
def JO:Int×List (Int)→Prop:=Fy.O
theorem T7:Fy.B:=BR ⟨bn,trivial⟩ (by kernel_rfl) (fun x=>by kernel_rfl)
end
open Go.RowKit
theorem HRel.below{ι:Am}{σ:Ab}{w w':World}(H:HRel ι σ w)(B:Below w.heap.size w w'):HRel ι σ w':=by
 have far:∀ (j:Nat) (b:Blk),σ[j]?=some b→b.k≠.dead→w'.heap[(ι j).b]?=w.heap[(ι j).b]?:=fun j b hj hbk=>B.block _ (H.there j b hj hbk)
 refine⟨fun l blk h hd i v hv=>?_,fun l blk h hk=>?_,H.apart,fun l blk h hd=>Hh (H.there l blk h hd) B.size⟩
 · obtain⟨c,x,hx,hr⟩:=H.cells l blk h hd i v hv;exact⟨c,x,by rw[O5 (w:=w) (far l blk h hd)];exact hx,hr⟩
 · obtain⟨g1,g2,arr,e,g3,g4⟩:=H.own l blk h hk;exact⟨g1,g2,arr,e,by rw[far l blk h (by rw[hk];decide)];exact g3,g4⟩
theorem Step.below{ι:Am}{σ:Ab}{w w':World}(B:Below w.heap.size w w'):Step ι σ w ι σ w':=
 { Step.refl ι σ w with frame:=fun b hb _=>B.block b hb,size:=B.size,os:=B.os,output:=B.output,tape:=B.tape }
def BC(xs:List (List UInt8))(sep:List UInt8):List UInt8:=sep.intercalate xs
def Lq:AX:=fun args h Q=>∃ (u:V) (sep:List UInt8) (xs:List (List UInt8)),args=[u,.str sep]∧xs.length≤140737488355328∧(BC xs sep).length≤140737488355328 ∧
 ((xs=[]∧(u= .nils∨∃ l o,u= .slice l o 0))∨∃ (l o:Nat) (b:Blk),u= .slice l o xs.length∧0<xs.length∧h[l]?=some b∧b.k≠.dead∧∀ (k:Nat) x,xs[k]?=some x→b.cs[o+k]?=some (.str x))∧Q (.str (BC xs sep)) h
def iC(P:Program)(g:FuncId):Prop:=
 (∀ (bk o c:Nat) (xs:List ByteArray) (sep:ByteArray) (w:World),(∀ (j:Nat) x,xs[j]?=some x→w.cell? ⟨bk,o+j,none⟩=some (.string x))→bk<w.heap.size→xs.length≤140737488355328→xs.length≤c→(Lib.join (xs.map (·.data.toList)) sep.data.toList).length≤140737488355328 →
  Calls P g #[.slice (some ⟨bk,o,none⟩) xs.length c,.string sep] w fun e w'=>e= .returned (.string ⟨(Lib.join (xs.map (·.data.toList)) sep.data.toList).toArray⟩)∧Below w.heap.size w w') ∧
 ∀ (a:Option Addr) (c:Nat) (sep:ByteArray) (w:World),Calls P g #[.slice a 0 c,.string sep] w fun e w'=>e= .returned (.string ⟨#[]⟩)∧w'=w
theorem dV{P:Program}{g:FuncId}(hs:iC P g):Ay P g Lq:=by
 rintro Φ ι σ w args xs Q hΦ H hargs ⟨u,sep,ss,rfl,hn,hlen,hu,hQ⟩;have hl:=hargs.1
 match xs,hl with
 | [x, y], _=>
   have hy:=EY (hargs.2 1 _ _ rfl rfl (fun _=>0));have hx:=hargs.2 0 _ _ rfl rfl (fun _=>0);subst hy;rcases hu with⟨rfl,hu⟩|⟨l,o,b,rfl,hpos,hb,hk,hc⟩
   · have key:∃ a c,x= .slice a 0 c:=by
      rcases hu with rfl|⟨l,o,rfl⟩
      · obtain⟨a,rfl⟩:=Ki hx;exact⟨a,0,rfl⟩
      · obtain⟨_,_,⟨c,rfl,_⟩|⟨_,a,rfl⟩⟩:=DZ hx
        · exact⟨_,c,rfl⟩
        · exact⟨a,0,rfl⟩
     obtain⟨a,c,rfl⟩:=key;refine(hs.2 a c ⟨sep.toArray⟩ w).mono ?_;rintro e w' ⟨rfl,rfl⟩;exact⟨_,.str (BC [] sep),σ,ι,rfl,hQ,hΦ,fun β=>.str _,H,.refl _ _ _⟩
   · have hl:Φ l=none:=(Sa hx).1 l o _ rfl
     have hb':(kill Φ σ)[l]?=some b:=by rw[Ko hl];exact hb
     obtain⟨b1,g1,hc1⟩:=DZ hx;rw[hb'] at g1;cases g1;rcases hc1 with⟨c,rfl,c1,c2⟩|⟨h0,_⟩
     · have hbs:∀ (s:List UInt8),(ByteArray.mk s.toArray).data.toList=s:=fun s=>by simp
       have e1:(ss.map fun s=>ByteArray.mk s.toArray).map (·.data.toList)=ss:=by
        rw[List.map_map];simp[Function.comp_def]
       have hcall:=hs.1 (ι l).b ((ι l).o+o) c (ss.map fun s=>ByteArray.mk s.toArray) ⟨sep.toArray⟩ w (fun j x hx=>by
        rw[E3] at hx
        cases hj:ss[j]? with
        |none=>rw[hj] at hx;cases hx
        | some s=>
          rw[hj] at hx;cases hx;obtain⟨_,z,q1,q2⟩:=H.cells l b hb' hk (o+j) _ (hc j s hj)
          rw[KE,q1,EY (q2 (fun _=>0))]) (H.there l b hb' hk) (by simpa using hn) (by simpa using c1) (by rw[e1,hbs];exact hlen)
       rw[A6,e1,hbs] at hcall;refine hcall.mono ?_;rintro e w' ⟨rfl,B⟩;exact⟨_,.str (BC ss sep),σ,ι,rfl,hQ,hΦ,fun β=>.str _,H.below B,Step.below B⟩
     · omega
def Ci:List UInt8:=[97,32,98,32,99,32,100,32,101,32,102,32,103,32,104,32,105,32,106,32,107,32,108,32,109,32,110,32,111,32,112,32,113,32,114,32,115,32,116,32,117,32,118,32,119,32,120,32,121,32,122,32,49,32,50,32,51,32,52,32,53,32,54,32,55,32,56,32,57,32,48,32,101,110,116,101,114,32,101,115,99,32,98,97,99,107,32,116,97,98,32,115,112,97,99,101,32,109,105,110,117,115,32,101,113,117,97,108,32,108,101,102,116,32,114,105,103,104,116,32,117,112,32,100,111,119,110,32,102,49,32,102,50,32,102,51,32,102,52,32,102,53,32,102,54,32,102,55,32,102,56,32,102,57]
def Bo:List (List UInt8):=[[97],[98],[99],[100],[101],[102],[103],[104],[105],[106],[107],[108],[109],[110],[111],[112],[113],[114],[115],[116],[117],[118],[119],[120],[121],[122],[49],[50],[51],[52],[53],[54],[55],[56],[57],[48],[101,110,116,101,114],[101,115,99],[98,97,99,107],[116,97,98],[115,112,97,99,101],[109,105,110,117,115],[101,113,117,97,108],[108,101,102,116],[114,105,103,104,116],[117,112],[100,111,119,110],[102,49],[102,50],[102,51],[102,52],[102,53],[102,54],[102,55],[102,56],[102,57]]
def HC:AX:=fun args h Q=>args=[.str Ci,.str [32]]∧Q (.slice h.length 0 56) (h++[⟨.own,1,Bo.map .str⟩])
def VY(P:Program)(g:FuncId):Prop:=∀ (w:World),Calls P g #[.string ⟨Ci.toArray⟩,.string ⟨#[32]⟩] w fun e w'=>∃ T,e= .returned (.slice (some ⟨w.heap.size,0,none⟩) 56 56)∧w'=w.alloc (.cells (Bo.map fun s=>Value.string ⟨s.toArray⟩).toArray T)
theorem dC{P:Program}{g:FuncId}(hs:VY P g):Ay P g HC:=by
 rintro Φ ι σ w args xs Q hΦ H hargs ⟨rfl,hQ⟩;have hl:=hargs.1
 match xs,hl with
 | [x, y],_=>
   have hx:=EY (hargs.2 0 _ _ rfl rfl (fun _=>0));have hy:=EY (hargs.2 1 _ _ rfl rfl (fun _=>0));subst hx;subst hy;refine(hs w).mono ?_;rintro e w' ⟨T,rfl,rfl⟩
   have hcl:RelCells ι (kill Φ σ) (Bo.map .str) (Bo.map fun s=>Value.string ⟨s.toArray⟩).toArray.toList:=by
    refine⟨by simp,fun i v hv=>?_⟩;rw[E3] at hv
    cases hi:Bo[i]? with
    |none=>rw[hi] at hv;cases hv
    | some s=>
      rw[hi] at hv;cases hv;exact⟨rfl,.string ⟨s.toArray⟩,by simp[hi],fun β=>.str s⟩
   have B:BRel ι (kill Φ σ) (fun _=>0) [] w w:=⟨fun i cs h=>by simp at h,fun i cs h=>by simp at h,fun i j cs ds _ h=>by simp at h,fun i cs l blk h=>by simp at h⟩;have S:SRel ι (kill Φ σ) (fun _=>0) [] #[]:=⟨AA _,fun i=>by rw[show get [] i=V.undef from rfl];exact Rel.undef _⟩;obtain⟨g1,_,_,g2⟩:=Km H B S (Bo.map fun s=>Value.string ⟨s.toArray⟩).toArray T 1 (Bo.map .str) hcl;rw[← G4 hΦ] at g1 g2;refine⟨_,.slice σ.length 0 56,_,_,rfl,hQ,hΦ.push _,fun β=>?_,g1,g2⟩;have hlen:(kill Φ σ).length=σ.length:=CB Φ σ;rw[G4 hΦ];have:=Rel.slice (ι:=upd ι (kill Φ σ).length ⟨w.heap.size,0,(Bo.map fun s=>Value.string ⟨s.toArray⟩).toArray.size⟩) (σ:=kill Φ σ++[⟨.own,1,Bo.map .str⟩]) (β:=β) σ.length 0 56 56 ⟨.own,1,Bo.map .str⟩ (by rw[← hlen];simp) (by decide) (by rw[← hlen,Bw];simp[show Bo.length=56 from rfl]) (by decide);rw[← hlen,Bw] at this;rw[← hlen];simpa using this
def K6:AX:=fun args h Q=>∃ (s:List UInt8) (b:UInt8),args=[.str s,.str [b]]∧Q (.int .i64 (Lib.indexByte s b)) h
def ft(P:Program)(g:FuncId):Prop:=∀ (s:ByteArray) (c:UInt8) (w:World),Calls P g #[.string s,.string ⟨#[c]⟩] w fun e w'=>e= .returned (.int .i64 (Lib.indexByte s.data.toList c))∧w'=w
theorem cW{P:Program}{g:FuncId}(hs:ft P g):Ay P g K6:=by
 rintro Φ ι σ w args xs Q hΦ H hargs ⟨s,b,rfl,hQ⟩;have hl:=hargs.1
 match xs,hl with
 | [x,y],_=>
   have hx:=EY (hargs.2 0 _ _ rfl rfl (fun _=>0));have hy:=EY (hargs.2 1 _ _ rfl rfl (fun _=>0));subst hx;subst hy;refine(hs ⟨s.toArray⟩ b w).mono ?_;rintro e w' ⟨rfl,rfl⟩;exact⟨_,.int .i64 (Lib.indexByte s b),σ,ι,rfl,hQ,hΦ,fun β=>by simpa using Rel.int .i64 _,H,.refl _ _ _⟩
section
set_option maxRecDepth 8000
def pL(hs:List HT)(q:QT)(ok:TuX hs→Prop)(v:TuX hs→q.D):Cd:=fun args H Q=>∃ x:TuX hs,DV.encL (Dy hs x)=args∧ok x∧Q (q.dv (v x)).enc H
theorem V3(hs:List HT)(q:QT)(ok:TuX hs→Prop)(v:TuX hs→q.D):H4 (pL hs q ok v) (Gp hs q ok v):=by
 intro args g w Q h hg hQ;unfold Gp at h
 cases hx:Fh hs args with
 |none=>rw[hx] at h;cases h
 | some x=>
   rw[hx] at h;simp only[Ah,Ak] at h;obtain⟨rfl,rfl⟩:=h;exact⟨x,MK hx,hg,hQ []⟩
theorem Xk{h h0:Ab}{ω0 ω:Nat→W}{ρ:Nat→Nat}{args:List PV}{us:List V}{H:List (List PV)}(R:RS h0 ω0 ω ρ ⟨args,[],H⟩ ⟨us,[],h⟩ X0)(x:V)(hx:x.flat=true):RS h0 ω0 ω ρ ⟨[],[],H⟩ ⟨[],[],h⟩ (X1 (.fl x) x):=by
 have e:∀ p:List Nat,((PV.fl x).fcell p= .fl .undef)∨((PV.fl x).fcell p= .fl x∧x.fcell p=x):=by
  intro p
  match p with
  |[]=>exact .inl rfl
  |[0]=>right;cases x<;>first|exact⟨rfl,rfl⟩|cases hx
  |[n+1]=>exact .inl rfl
  |_::_::_=>exact .inl (by simp[PV.fcell])
 refine(R.forget).handx ?_ (fun p=>?_) (fun p i pb tp=>?_)
 · cases x<;>first|trivial|(refine⟨fun us h=>?_,fun us h=>?_⟩<;>cases h)|cases hx
 · rcases e p with e|⟨e1,e2⟩
   · rw[e];exact .undef _ _
   · rw[e1,e2];exact .v _ _ hx
 · rcases e p with e|⟨e1,e2⟩
   · rw[e];simp[PV.q]
   · rw[e1];simp[PV.q]
theorem XO(x:V):(PV.fl x).nob:=by
 intro p hb pb tp
 match p with
 |[]=>simp[PV.fcell,PV.q]
 |[0]=>simp[PV.fcell,PV.q]
 |[n+1]=>simp[PV.fcell,PV.q]
 |_::_::_=>simp[PV.fcell,PV.q]
theorem Ky{h0:Ab}{ω0 ω:Nat→W}{ρ:Nat→Nat}{st:PS}{us:St}(R:RS h0 ω0 ω ρ st us X0)(t:Nat){v:PV}(hv:Aa st.sl t=v)(h1:∀ cs,v≠.agg cs)(h2:∀ vs,v≠.tup vs)(h3:v≠.fl .undef):RC us.hp ω (.at (.s t) [0]) v (get us.sl t):=by
 have r:RC us.hp ω (.at (.s t) [0]) ((Aa st.sl t).fcell [0]) ((get us.sl t).fcell [0]):=R.core.rc (.s t) [0];have sh:=R.sh t;rw[hv] at r sh
 have e1:v.fcell [0]=v:=by cases v<;>first|rfl|exact absurd rfl (h1 _)|exact absurd rfl (h2 _)
 have e2:(get us.sl t).fcell [0]=get us.sl t:=by
  have s1:(∀ us',get us.sl t≠.agg us')∧∀ us',get us.sl t≠.tup us':=by
   cases v with
   |agg cs=>exact absurd rfl (h1 _)
   |tup vs=>exact absurd rfl (h2 _)
   |fl x=>cases x<;>first|exact absurd rfl h3|exact sh
   |_=>exact sh
  generalize get us.sl t=u at s1
  cases u<;>first|rfl|exact absurd rfl (s1.1 _)|exact absurd rfl (s1.2 _)
 rw[e1,e2] at r;exact r
def Jl(l:List (List UInt8)):List (List PV):=l.map fun s=>[.fl (.str s)]
theorem eC(l:List (List UInt8)):(Jl l).flatten=l.map fun s=>.fl (.str s):=by
 induction l with
 |nil=>rfl
 |cons n r ih=>simpa [Jl] using ih
theorem fp{l:List (List UInt8)}{k:Nat}(h:k<l.length):Aa (Jl l).flatten k= .fl (.str (l[k])):=by
 rw[eC,C7,E3,Ar h];rfl
def Up:List HT:=[.one .frz (.sl (.one .str)),.one .frz .str]
def Ur:QT:=.one (.one .own .str)
@[irreducible] def JU(x:List (List UInt8)×List UInt8):List UInt8:=(shut fun(x:List (List UInt8)×List UInt8)=>BC x.1 x.2).1 x
@[irreducible] def JR(x:List (List UInt8)×List UInt8):Prop:=(shut fun(x:List (List UInt8)×List UInt8)=>x.1.length≤140737488355328∧(BC x.1 x.2).length≤140737488355328).1 x
theorem Um (x):JU x=BC x.1 x.2:=by unfold JU;exact congrFun (shut _).2 x
theorem Uj (x):JR x=(x.1.length≤140737488355328∧(BC x.1 x.2).length≤140737488355328):=by unfold JR;exact congrFun (shut _).2 x
def Uu:Fg:=Gp Up Ur JR JU
@[irreducible] def Lr:Cd:=pL Up Ur JR JU
theorem aR:H4 Lr Uu:=by unfold Lr;exact V3 _ _ _ _
theorem aT:Hi Lq Lr:=by
 unfold Lr;rintro h ω0 ρ args us H Q K R hloc ⟨⟨(xs:List (List UInt8)),(sep:List UInt8)⟩,rfl,hok,hQ⟩ hK;have hlen:=R.lsl
 match us,hlen with
 | [u1,u2],_=>
   have c1:RC h ω0 (.at (.s 0) [0]) (.sl .frz (Jl xs)) u1:=Ky (us:=⟨[u1,u2],[],h⟩) R 0 rfl (by simp) (by simp) (by simp);have c2:RC h ω0 (.at (.s 1) [0]) (.fl (.str sep)) u2:=Ky (us:=⟨[u1,u2],[],h⟩) R 1 rfl (by simp) (by simp) (by simp)
   have e2:u2= .str sep:=by cases c2;rfl
   subst e2;have hok:JR (xs,sep):=hok;have hQ:Q (.fl (.str (JU (xs,sep)))) H:=hQ;rw[Uj] at hok;rw[Um] at hQ;refine⟨u1,sep,xs,rfl,hok.1,hok.2,?_,hK _ _ _ _ _ _ hQ (Xk R _ rfl) (XO _)⟩;generalize hes:Jl xs=es at c1
   have hxl:es.length=xs.length:=by rw[← hes];simp[Jl]
   cases c1 with
   |nil=>exact .inl ⟨D7 (by rw[← hxl];rfl),.inl rfl⟩
   | sl _ _ _ l o n b hb hk hc hne hn hw hle hr=>
     subst hes;rcases Mu xs.length with h0|h0
     · exact .inl ⟨D7 h0,.inr ⟨l,o,by rw[hn,hxl,h0]⟩⟩
     · refine .inr ⟨l,o,b,by rw[hn,hxl],h0,hb,hk,fun k x hx=>?_⟩
       have hkl:k<xs.length:=by
        rcases A3 k xs.length with h|h
        · exact h
        · rw[AY h] at hx;cases hx
       have hbw:b.w=1:=by
        obtain⟨y,ys,rfl⟩:=List.exists_cons_of_length_pos h0;have:=hw [.fl (.str y)] (by simp[Jl]);simpa using this.symm
       rw[hxl,hbw,DN] at hle hr;have r:=hr k hkl;rw[fp hkl] at r;rw[Ar hkl] at hx;cases hx
       have e:get b.cs (o+k)= .str (xs[k]):=by
        generalize get b.cs (o+k)=z at r
        cases r with
        |v=>rfl
       rw[Cg,Ar (show o+k<b.cs.length by omega)] at e;rw[Ar (show o+k<b.cs.length by omega)];simpa using e
def Z1:DCode:=(.seq [2] (.region [⟨0,some 2,.a false (.litSlice 1 56 (Bo.map fun _=>.str []) (Bo.zipIdx.map fun x=>(x.2,1,.c (.str x.1)))) (some (.one .str)),none,[]⟩]) .ret)
def Ee:DFun:=⟨2,3,0,false,[.tmp 2],Z1⟩
theorem iB(Q:V→Ab→Prop)(h:Ab):Hp Ee.er.er [.str Ci,.str [32]] h Q→HC [.str Ci,.str [32]] h Q:=by
 intro hs;refine⟨rfl,?_⟩
 have e:Hp Ee.er.er [.str Ci,.str [32]] h Q=(2=2∧Q (.slice h.length 0 56) (h++[⟨.own,1,Bo.map .str⟩])):=by kernel_rfl
 exact(e▸hs).2
def Fv:List HT:=[.one .frz .str,.one .frz .str]
def Fw:QT:=.one (.one .own (.sl (.one .str)))
@[irreducible] def DD(x:List UInt8×List UInt8):List (List UInt8):=(shut fun x=>F0 Ee Fv Fw x).1 x
@[irreducible] def HB(x:List UInt8×List UInt8):Prop:=(shut fun x=>(x.1=Ci∧x.2=[32])∧FW Ee Fv Fw x).1 x
theorem NB (x):DD x=Bo:=by unfold DD;exact(congrFun (shut _).2 x).trans (by kernel_rfl)
theorem Ua (x):HB x=((x.1=Ci∧x.2=[32])∧True):=by unfold HB;exact(congrFun (shut _).2 x).trans (by kernel_rfl)
def NJ:Fg:=Gp Fv Fw HB DD
@[irreducible] def JT:Cd:=fun args H Q=>args=[.fl (.str Ci),.fl (.str [32])]∧I0 Ee.er args H Q
theorem T6:Hi HC JT:=by
 unfold JT;rintro h ω0 ρ args us H Q K R hloc ⟨rfl,hp⟩ hK;have hlen:=R.lsl
 match us,hlen with
 | [u1,u2],_=>
   have c1:RC h ω0 (.at (.s 0) [0]) (.fl (.str Ci)) u1:=Ky (us:=⟨[u1,u2],[],h⟩) R 0 rfl (by simp) (by simp) (by simp);have c2:RC h ω0 (.at (.s 1) [0]) (.fl (.str [32])) u2:=Ky (us:=⟨[u1,u2],[],h⟩) R 1 rfl (by simp) (by simp) (by simp)
   have e1:u1= .str Ci:=by cases c1;rfl
   have e2:u2= .str [32]:=by cases c2;rfl
   subst e1;subst e2;exact iB K h (Vb (f:=Ee.er) trivial h ω0 ρ _ _ H Q K R hloc hp hK)
theorem Ud:H4 JT NJ:=by
 intro args g w Q h hg hQ;have h0:=h;unfold NJ Gp at h
 cases hx:Fh Fv args with
 |none=>rw[hx] at h;cases h
 | some x=>
   rw[hx] at h;simp only[Ah,Ak] at h;obtain⟨rfl,rfl⟩:=h;have hg':HB x:=hg
   have ho:HB x=((x.1=Ci∧x.2=[32])∧FW Ee Fv Fw x):=by unfold HB;exact congrFun (shut _).2 x
   have hv:F0 Ee Fv Fw x=DD x:=by unfold DD;exact(congrFun (shut _).2 x).symm
   rw[ho] at hg';have hd:=VZ (f:=Ee) (hs:=Fv) (q:=Fw) trivial (by kernel_rfl) (fun x=>by kernel_rfl) (ok:=FW Ee Fv Fw) (v:=F0 Ee Fv Fw) (fun _ h=>h) (fun _=>rfl);unfold JT;refine⟨?_,hd args (.p (FW Ee Fv Fw x)) (Fw.dv (F0 Ee Fv Fw x)) Q (by unfold Gp;rw[hx]) hg'.2 fun H=>by rw[hv];exact hQ H⟩;obtain⟨⟨a,b⟩,_⟩:=hg';rw[← MK hx];obtain⟨x1,x2⟩:=x;have a:x1=Ci:=a;have b:x2=[32]:=b;subst a;subst b;rfl
def TI:List HT:=[.one .frz .str,.one .frz .str]
def TK:QT:=.one (.one .own (.int .i64))
@[irreducible] def C5(x:List UInt8×List UInt8):Int:=(shut fun(x:List UInt8×List UInt8)=>Lib.indexByte x.1 (x.2.getD 0 0)).1 x
@[irreducible] def Hy(x:List UInt8×List UInt8):Prop:=(shut fun(x:List UInt8×List UInt8)=>x.2.length=1).1 x
theorem P2 (x):C5 x=Lib.indexByte x.1 (x.2.getD 0 0):=by unfold C5;exact congrFun (shut _).2 x
theorem P1 (x):Hy x=(x.2.length=1):=by unfold Hy;exact congrFun (shut _).2 x
def TJ:Fg:=Gp TI TK Hy C5
@[irreducible] def K5:Cd:=pL TI TK Hy C5
theorem YJ:H4 K5 TJ:=by unfold K5;exact V3 _ _ _ _
theorem YI:Hi K6 K5:=by
 unfold K5;rintro h ω0 ρ args us H Q K R hloc ⟨⟨(s:List UInt8),(sep:List UInt8)⟩,rfl,hok,hQ⟩ hK;have hlen:=R.lsl
 match us,hlen with
 | [u1,u2],_=>
   have c1:RC h ω0 (.at (.s 0) [0]) (.fl (.str s)) u1:=Ky (us:=⟨[u1,u2],[],h⟩) R 0 rfl (by simp) (by simp) (by simp);have c2:RC h ω0 (.at (.s 1) [0]) (.fl (.str sep)) u2:=Ky (us:=⟨[u1,u2],[],h⟩) R 1 rfl (by simp) (by simp) (by simp)
   have e1:u1= .str s:=by cases c1;rfl
   have e2:u2= .str sep:=by cases c2;rfl
   subst e1;subst e2;have hok:Hy (s,sep):=hok;have hQ:Q (.fl (.int .i64 (C5 (s,sep)))) H:=hQ;rw[P1] at hok;rw[P2] at hQ;obtain⟨b,rfl⟩:=List.length_eq_one_iff.1 hok;exact⟨s,b,rfl,hK _ _ _ _ _ _ hQ (Xk R _ rfl) (XO _)⟩
end
section
set_option maxRecDepth 8000
def ZK:DCode:=(.seq [1,0] (.region [oa 0 4 (.mv (.c .nils))]) (.seq [5,1,0] (.region [⟨0,some 8,.a false (.litSlice 1 0 [] []) (some (.one (.str))),none,[]⟩,om 1 5 8]) (.seq [6,5,1,0] (.region [oi 0 6 0]) (.seq [5] (.seq [7,6,5,1,0] (.region [oi 0 7 0]) (.block 0 (.loop [0,1,5,6,7] 1 (.seq [7,6,5,1,0] (.seq [12,7,6,5,1,0] (.region [om 0 9 7,om 1 10 0,oa 2 11 (.lenT (.t 10)),oa 3 12 (.bin .leq (.t 9) (.t 11))]) (.cond (.t 12) .skip (.exit 0))) (.seq [7,6,5,1,0] (.block 1 (.seq [25,7,6,5,1,0] (.region [om 0 15 7,om 1 16 0,oa 2 17 (.lenT (.t 16)),oa 3 18 (.bin .eql (.t 15) (.t 17)),om 4 19 18,og 5 20 (.mv (.t 0)) 19 false,og 6 21 (.mv (.t 7)) 19 false,og 7 22 (.index (.t 20) (.t 21)) 19 false,og 8 23 (.mv (.t 1)) 19 false,og 9 24 (.bin .eql (.t 22) (.t 23)) 19 false,oa 10 25 (.pick (.t 19) (.c (.bool true)) (.t 24))]) (.cond (.t 25) (.seq [7,5,1,0] (.region [om 0 26 5,om 1 27 0,om 2 28 6,om 3 29 7,oa 4 30 (.substr (.t 27) (some (.t 28)) (some (.t 29))),⟨5,some 31,.a false (.litSlice 1 1 [(.str [])] [(0,1,(.t 30))]) (some (.one (.str))),none,[]⟩,oa 6 32 (.app 1 (.t 26) (.t 31)),om 7 5 32]) (.region [om 0 33 7,oa 1 34 (.bin .add (.t 33) (.c (.int .i64 1))),om 2 6 34])) .skip))) (.region [om 0 13 7,oa 1 14 (.bin .add (.t 13) (.c (.int .i64 1))),om 2 7 14])))))) (.seq [4] (.region [om 0 35 5,om 1 4 35]) .ret)))))
def Ef:Fn:=⟨⟨2,36,0,false,[.tmp 4],ZK⟩,[.one .frz (.str),.one .frz (.int .u8)],.one (.one .own (.sl (.one (.str))))⟩
theorem Qe:Ef.A:=BJ trivial
def Be:List UInt8×Int→List (List UInt8):=Ef.V
def JM:List UInt8×Int→Prop:=Ef.O
theorem Qc:Ef.B:=BR trivial (by kernel_rfl) (fun x=>by kernel_rfl)
def aN:DCode:=(.seq [] (.region [oa 0 0 (.mv (.c .nils))]) (.seq [0] (.region [oF 0 1 Ef [(.c (.str [97,32,98,32,99,32,100,32,101,32,102,32,103,32,104,32,105,32,106,32,107,32,108,32,109,32,110,32,111,32,112,32,113,32,114,32,115,32,116,32,117,32,118,32,119,32,120,32,121,32,122,32,49,32,50,32,51,32,52,32,53,32,54,32,55,32,56,32,57,32,48,32,101,110,116,101,114,32,101,115,99,32,98,97,99,107,32,116,97,98,32,115,112,97,99,101,32,109,105,110,117,115,32,101,113,117,97,108,32,108,101,102,116,32,114,105,103,104,116,32,117,112,32,100,111,119,110,32,102,49,32,102,50,32,102,51,32,102,52,32,102,53,32,102,54,32,102,55,32,102,56,32,102,57])),(.c (.int .u8 32))],om 1 0 1]) .ret))
def GU:Fn:=⟨⟨0,2,0,false,[.tmp 0],aN⟩,[],.one (.one .own (.sl (.one (.str))))⟩
theorem aL:GU.A:=BJ ⟨Qe,trivial⟩
def JV:Unit→List (List UInt8):=GU.V
def NK:Unit→Prop:=GU.O
theorem aH:GU.B:=BR ⟨Qc,trivial⟩ (by kernel_rfl) (fun x=>by kernel_rfl)
def Z2:DCode:=(.seq [0] (.region [oa 0 2 (.mv (.c (.str [])))]) (.seq [0] (.seq [5,0] (.region [om 0 3 0,oF 1 4 C6 [(.t 3),(.c (.int .i64 1)),(.c (.int .i64 56))],oa 2 5 (.un .not (.t 4))]) (.cond (.t 5) (.seq [2] (.region [oa 0 2 (.mv (.c (.str [])))]) .ret) .skip)) (.seq [2] (.region [oF 0 6 GU [],om 1 7 0,oa 2 8 (.bin .sub (.t 7) (.c (.int .i64 1))),oa 3 9 (.indexA 1 (.t 6) (.t 8)),ob 4 10 (.loadH none (.t 9)),om 5 2 10]) .ret)))
def Fu:Fn:=⟨⟨1,11,0,true,[.tmp 2],Z2⟩,[.one .frz (.int .i64)],.one (.one .own (.str))⟩
theorem T8:Fu.A:=BJ ⟨NX,aL,trivial⟩
def B1:Int→List UInt8:=Fu.V
def Lk:Int→Prop:=Fu.O
theorem T9:Fu.B:=BR ⟨NZ,aH,trivial⟩ (by kernel_rfl) (fun x=>by kernel_rfl)
def Zn:DCode:=(.seq [0] (.region [oa 0 2 (.mv (.c (.str [])))]) (.seq [3,0] (.region [oa 0 3 (.mv (.c (.str [])))]) (.seq [3] (.seq [4,3,0] (.region [oi 0 4 0]) (.block 0 (.loop [0,3,4] 1 (.seq [4,3,0] (.seq [10,4,3,0] (.region [om 0 5 4,oa 1 6 (.bin .lss (.t 5) (.c (.int .i64 4))),om 2 7 6,og 3 8 (.mv (.t 0)) 7 true,⟨4,some 9,.call false C6.S C6.P C6.D [(.t 8),(.c (.int .i64 1)),(.c (.int .i64 15))],(some (7,true)),[]⟩,oa 5 10 (.pick (.t 7) (.t 9) (.c (.bool false)))]) (.cond (.t 10) .skip (.exit 0))) (.seq [4,3,0] (.block 1 (.seq [17,4,3,0] (.region [om 0 13 0,om 1 14 4,oa 2 15 (.bin .shr (.t 13) (.t 14)),oa 3 16 (.bin .and (.t 15) (.c (.int .i64 1))),oa 4 17 (.bin .eql (.t 16) (.c (.int .i64 1)))]) (.cond (.t 17) (.region [om 0 18 3,om 1 19 4,om 2 20 4,oa 3 21 (.bin .add (.t 20) (.c (.int .i64 1))),oa 4 22 (.substr (.c (.str [67,83,65,71])) (some (.t 19)) (some (.t 21))),oa 5 23 (.bin .add (.t 18) (.t 22)),om 6 3 23]) .skip))) (.region [om 0 11 4,oa 1 12 (.bin .add (.t 11) (.c (.int .i64 1))),om 2 4 12])))))) (.seq [2] (.region [om 0 24 3,om 1 2 24]) .ret))))
def Fq:Fn:=⟨⟨1,25,0,true,[.tmp 2],Zn⟩,[.one .frz (.int .i64)],.one (.one .own (.str))⟩
theorem TT:Fq.A:=BJ ⟨NX,trivial⟩
def DB:Int→List UInt8:=Fq.V
def JK:Int→Prop:=Fq.O
theorem TS:Fq.B:=BR ⟨NZ,trivial⟩ (by kernel_rfl) (fun x=>by kernel_rfl)
def aA:DCode:=(.seq [1,0] (.region [oa 0 4 (.mv (.c (.str [])))]) (.seq [5,1,0] (.region [⟨0,some 7,.a false (.litSlice 1 0 [] []) (some (.one (.int .u8))),none,[]⟩,om 1 5 7]) (.seq [5] (.seq [6,5,1,0] (.region [oi 0 6 0]) (.block 0 (.loop [0,1,5,6] 1 (.seq [6,5,1,0] (.seq [11,6,5,1,0] (.region [om 0 8 6,on 1 9 0,oa 2 10 (.len (.t 9)),oa 3 11 (.bin .lss (.t 8) (.t 10))]) (.cond (.t 11) .skip (.exit 0))) (.seq [6,5,1,0] (.block 1 (.seq [6,5,1,0] (.seq [15,6,5,1,0] (.region [om 0 14 6,oa 1 15 (.bin .gtr (.t 14) (.c (.int .i64 0)))]) (.cond (.t 15) (.region [om 0 16 5,om 1 17 1,oa 2 18 (.app 1 (.t 16) (.t 17)),om 3 5 18]) .skip)) (.region [om 0 19 5,on 1 20 0,om 2 21 6,oa 3 22 (.indexA 1 (.t 20) (.t 21)),oa 4 23 (.loadH none (.t 22)),oa 5 24 (.app 1 (.t 19) (.t 23)),om 6 5 24]))) (.region [om 0 12 6,oa 1 13 (.bin .add (.t 12) (.c (.int .i64 1))),om 2 6 13])))))) (.seq [4] (.region [on 0 25 5,oa 1 26 (.bstr (.t 25)),om 2 4 26]) .ret))))
def GO:Fn:=⟨⟨2,27,0,true,[.tmp 4],aA⟩,[.one .frz (.sl (.one (.str))),.one .frz (.str)],.one (.one .own (.str))⟩
theorem ZQ:GO.A:=BJ trivial
def Lo:List (List UInt8)×List UInt8→List UInt8:=GO.V
def NH:List (List UInt8)×List UInt8→Prop:=GO.O
theorem aD:GO.B:=BR trivial (by kernel_rfl) (fun x=>by kernel_rfl)
def YY:DCode:=(.seq [1] (.region [oa 0 1 (.boxB 0 2 (.t 0)),oa 1 2 (.mv (.c (.str [])))]) (.seq [1] (.seq [7,1] (.region [oa 0 5 (.loadB 0 (some 2) (.t 1)),oF 1 6 GS [(.t 5)],oa 2 7 (.un .not (.t 6))]) (.cond (.t 7) (.seq [2] (.region [oa 0 2 (.mv (.c (.str [])))]) .ret) .skip)) (.seq [3,1] (.region [⟨0,some 8,.a false (.litSlice 1 0 [] []) (some (.one (.str))),none,[]⟩,om 1 3 8]) (.seq [3,1] (.seq [4,3,1] (.region [oi 0 4 0]) (.block 0 (.loop [1,3,4] 1 (.seq [4,3,1] (.seq [13,4,3,1] (.region [om 0 9 4,oa 1 10 (.fieldA 1 (.t 1)),oa 2 11 (.loadB 0 none (.t 10)),oa 3 12 (.len (.t 11)),oa 4 13 (.bin .lss (.t 9) (.t 12))]) (.cond (.t 13) .skip (.exit 0))) (.seq [4,3,1] (.block 1 (.region [om 0 16 3,oa 1 17 (.fieldA 1 (.t 1)),oa 2 18 (.loadB 0 none (.t 17)),om 3 19 4,oa 4 20 (.indexA 1 (.t 18) (.t 19)),oa 5 21 (.loadH none (.t 20)),oF 6 22 Fu [(.t 21)],⟨7,some 23,.a false (.litSlice 1 1 [(.str [])] [(0,1,(.t 22))]) (some (.one (.str))),none,[]⟩,oa 8 24 (.app 1 (.t 16) (.t 23)),om 9 3 24])) (.region [om 0 14 4,oa 1 15 (.bin .add (.t 14) (.c (.int .i64 1))),om 2 4 15])))))) (.seq [2] (.region [oa 0 25 (.fieldA 0 (.t 1)),oa 1 26 (.loadB 0 none (.t 25)),oF 2 27 Fq [(.t 26)],oa 3 28 (.bin .add (.t 27) (.c (.str [58]))),on 4 29 3,oF 5 30 GO [(.t 29),(.c (.str [44]))],oa 6 31 (.bin .add (.t 28) (.t 30)),om 7 2 31]) .ret)))))
def GJ:Fn:=⟨⟨1,32,1,true,[.tmp 2],YY⟩,[.agg [(.frz,.int .i64),(.frz,.sl (.one (.int .i64)))]],.one (.one .own (.str))⟩
theorem Y5:GJ.A:=BJ ⟨Z8,T8,TT,ZQ,trivial⟩
def Ed:Int×List (Int)→List UInt8:=GJ.V
def K9:Int×List (Int)→Prop:=GJ.O
theorem Y4:GJ.B:=BR ⟨ZP,T9,TS,aD,trivial⟩ (by kernel_rfl) (fun x=>by kernel_rfl)
def Z0:DCode:=(.seq [0] (.region [oa 0 2 (.mv (.c (.str [])))]) (.seq [0] (.seq [8,0] (.region [om 0 3 0,oa 1 4 (.bin .lss (.t 3) (.c (.int .i64 1))),om 2 5 4,og 3 6 (.mv (.t 0)) 5 false,og 4 7 (.bin .gtr (.t 6) (.c (.int .i64 56))) 5 false,oa 5 8 (.pick (.t 5) (.c (.bool true)) (.t 7))]) (.cond (.t 8) (.seq [2] (.region [oa 0 2 (.mv (.c (.str [])))]) .ret) .skip)) (.seq [2] (.region [oc 0 9 HC JT NJ [(.c (.str [97,32,98,32,99,32,100,32,101,32,102,32,103,32,104,32,105,32,106,32,107,32,108,32,109,32,110,32,111,32,112,32,113,32,114,32,115,32,116,32,117,32,118,32,119,32,120,32,121,32,122,32,49,32,50,32,51,32,52,32,53,32,54,32,55,32,56,32,57,32,48,32,101,110,116,101,114,32,101,115,99,32,98,97,99,107,32,116,97,98,32,115,112,97,99,101,32,109,105,110,117,115,32,101,113,117,97,108,32,108,101,102,116,32,114,105,103,104,116,32,117,112,32,100,111,119,110,32,102,49,32,102,50,32,102,51,32,102,52,32,102,53,32,102,54,32,102,55,32,102,56,32,102,57])),(.c (.str [32]))],om 1 10 0,oa 2 11 (.bin .sub (.t 10) (.c (.int .i64 1))),oa 3 12 (.indexA 1 (.t 9) (.t 11)),ob 4 13 (.loadH none (.t 12)),om 5 2 13]) .ret)))
def GR:Fn:=⟨⟨1,14,0,true,[.tmp 2],Z0⟩,[.one .frz (.int .i64)],.one (.one .own (.str))⟩
theorem Z4:GR.A:=BJ ⟨T6,trivial⟩
def Lp:Int→List UInt8:=GR.V
def NG:Int→Prop:=GR.O
theorem ax:GR.B:=BR ⟨Ud,trivial⟩ (by kernel_rfl) (fun x=>by kernel_rfl)
def Zj:DCode:=(.seq [0] (.region [oa 0 2 (.mv (.c (.str [])))]) (.seq [0] (.seq [11,0] (.region [om 0 6 0,oa 1 7 (.bin .lss (.t 6) (.c (.int .i64 1))),om 2 8 7,og 3 9 (.mv (.t 0)) 8 false,og 4 10 (.bin .gtr (.t 9) (.c (.int .i64 15))) 8 false,oa 5 11 (.pick (.t 8) (.c (.bool true)) (.t 10))]) (.cond (.t 11) (.seq [2] (.region [oa 0 2 (.mv (.c (.str [])))]) .ret) .skip)) (.seq [3,0] (.region [oa 0 3 (.mv (.c (.str [])))]) (.seq [3] (.seq [14,13,12,3,0] (.region [⟨0,some 12,.a false (.litSlice 1 4 [(.str []),(.str []),(.str []),(.str [])] [(0,1,(.c (.str [67]))),(1,1,(.c (.str [83]))),(2,1,(.c (.str [65]))),(3,1,(.c (.str [71])))]) (some (.one (.str))),none,[]⟩,oa 1 13 (.len (.t 12)),oi 2 14 0]) (.block 0 (.loop [0,3,12,13,14] 1 (.seq [15,14,13,12,3,0] (.region [oa 0 15 (.bin .lss (.t 14) (.t 13))]) (.seq [14,13,12,3,0] (.cond (.t 15) .skip (.exit 0)) (.seq [14,13,12,3,0] (.block 1 (.seq [14,13,12,5,4,3,0] (.region [om 0 16 14,oa 1 17 (.indexA 1 (.t 12) (.t 14)),oa 2 18 (.loadH none (.t 17)),om 3 4 16,om 4 5 18]) (.seq [22,14,13,12,5,3,0] (.region [om 0 19 0,om 1 20 4,oF 2 21 G2 [(.t 19),(.t 20)],oa 3 22 (.bin .eql (.t 21) (.c (.int .i64 1)))]) (.cond (.t 22) (.region [om 0 23 3,om 1 24 5,oa 2 25 (.bin .add (.t 23) (.t 24)),om 3 3 25]) .skip)))) (.region [oa 0 26 (.bin .add (.t 14) (.c (.int .i64 1))),om 1 14 26]))))))) (.seq [2] (.region [om 0 27 3,om 1 2 27]) .ret)))))
def Fp:Fn:=⟨⟨1,28,0,true,[.tmp 2],Zj⟩,[.one .frz (.int .i64)],.one (.one .own (.str))⟩
theorem TW:Fp.A:=BJ ⟨dj,trivial⟩
def Hz:Int→List UInt8:=Fp.V
def JL:Int→Prop:=Fp.O
theorem TU:Fp.B:=BR ⟨cL,trivial⟩ (by kernel_rfl) (fun x=>by kernel_rfl)
def aa:DCode:=(.seq [1,0] (.region [oa 0 4 (.mv (.c (.str [])))]) (.seq [4] (.region [on 0 5 0,om 1 6 1,oc 2 7 Lq Lr Uu [(.t 5),(.t 6)],om 3 4 7]) .ret))
def GP:Fn:=⟨⟨2,8,0,true,[.tmp 4],aa⟩,[.one .frz (.sl (.one (.str))),.one .frz (.str)],.one (.one .own (.str))⟩
theorem az:GP.A:=BJ ⟨aT,trivial⟩
def Lm:List (List UInt8)×List UInt8→List UInt8:=GP.V
def NI:List (List UInt8)×List UInt8→Prop:=GP.O
theorem ZR:GP.B:=BR ⟨aR,trivial⟩ (by kernel_rfl) (fun x=>by kernel_rfl)
def YZ:DCode:=(.seq [1] (.region [oa 0 1 (.boxB 0 2 (.t 0)),oa 1 2 (.mv (.c (.str [])))]) (.seq [1] (.seq [8,1] (.region [oa 0 6 (.loadB 0 (some 2) (.t 1)),oF 1 7 Fy [(.t 6)],oa 2 8 (.un .not (.t 7))]) (.cond (.t 8) (.seq [2] (.region [oa 0 2 (.mv (.c (.str [])))]) .ret) .skip)) (.seq [3,1] (.region [oa 0 3 (.mv (.c .nils))]) (.seq [3,1] (.seq [12,11,10,3,1] (.region [oa 0 9 (.fieldA 1 (.t 1)),oa 1 10 (.loadB 0 none (.t 9)),oa 2 11 (.len (.t 10)),oi 3 12 0]) (.block 0 (.loop [1,3,10,11,12] 1 (.seq [13,12,11,10,3,1] (.region [oa 0 13 (.bin .lss (.t 12) (.t 11))]) (.seq [12,11,10,3,1] (.cond (.t 13) .skip (.exit 0)) (.seq [12,11,10,3,1] (.block 1 (.seq [12,11,10,5,3,1] (.region [oa 0 14 (.indexA 1 (.t 10) (.t 12)),oa 1 15 (.loadH none (.t 14)),om 2 5 15]) (.region [om 0 16 3,om 1 17 5,oF 2 18 GR [(.t 17)],⟨3,some 19,.a false (.litSlice 1 1 [(.str [])] [(0,1,(.t 18))]) (some (.one (.str))),none,[]⟩,oa 4 20 (.app 1 (.t 16) (.t 19)),om 5 3 20]))) (.region [oa 0 21 (.bin .add (.t 12) (.c (.int .i64 1))),om 1 12 21]))))))) (.seq [2] (.region [oa 0 22 (.fieldA 0 (.t 1)),oa 1 23 (.loadB 0 none (.t 22)),oF 2 24 Fp [(.t 23)],oa 3 25 (.bin .add (.t 24) (.c (.str [58]))),on 4 26 3,oF 5 27 GP [(.t 26),(.c (.str [44]))],oa 6 28 (.bin .add (.t 25) (.t 27)),om 7 2 28]) .ret)))))
def Fk:Fn:=⟨⟨1,29,1,true,[.tmp 2],YZ⟩,[.agg [(.frz,.int .i64),(.frz,.sl (.one (.int .i64)))]],.one (.one .own (.str))⟩
theorem YV:Fk.A:=BJ ⟨Uf,Z4,TW,az,trivial⟩
def Lc:Int×List (Int)→List UInt8:=Fk.V
def K7:Int×List (Int)→Prop:=Fk.O
theorem Y0:Fk.B:=BR ⟨T7,ax,TU,ZR,trivial⟩ (by kernel_rfl) (fun x=>by kernel_rfl)
end
section
set_option maxRecDepth 8000
def Zx:DCode:=(.seq [0] (.region [oi 0 2 0]) (.seq [] (.seq [3,0] (.region [oi 0 3 1]) (.block 0 (.loop [0,3] 1 (.seq [3,0] (.seq [5,3,0] (.region [om 0 4 3,oa 1 5 (.bin .leq (.t 4) (.c (.int .i64 15)))]) (.cond (.t 5) .skip (.exit 0))) (.seq [3,0] (.block 1 (.seq [11,3,0] (.region [om 0 8 3,oF 1 9 Fq [(.t 8)],om 2 10 0,oa 3 11 (.bin .eql (.t 9) (.t 10))]) (.cond (.t 11) (.seq [2] (.region [om 0 12 3,om 1 2 12]) .ret) .skip))) (.region [om 0 6 3,oa 1 7 (.bin .add (.t 6) (.c (.int .i64 1))),om 2 3 7])))))) (.seq [2] (.region [oi 0 2 0]) .ret)))
def GM:Fn:=⟨⟨1,13,0,true,[.tmp 2],Zx⟩,[.one .frz (.str)],.one (.one .own (.int .i64))⟩
theorem Zu:GM.A:=BJ ⟨TT,trivial⟩
def CQ:List UInt8→Int:=GM.V
def Nw:List UInt8→Prop:=GM.O
theorem ZC:GM.B:=BR ⟨TS,trivial⟩ (by kernel_rfl) (fun x=>by kernel_rfl)
def bg:DCode:=(.seq [0] (.region [oi 0 2 0]) (.seq [] (.seq [3,0] (.region [oi 0 3 1]) (.block 0 (.loop [0,3] 1 (.seq [3,0] (.seq [5,3,0] (.region [om 0 4 3,oa 1 5 (.bin .leq (.t 4) (.c (.int .i64 56)))]) (.cond (.t 5) .skip (.exit 0))) (.seq [3,0] (.block 1 (.seq [11,3,0] (.region [om 0 8 3,oF 1 9 Fu [(.t 8)],om 2 10 0,oa 3 11 (.bin .eql (.t 9) (.t 10))]) (.cond (.t 11) (.seq [2] (.region [om 0 12 3,om 1 2 12]) .ret) .skip))) (.region [om 0 6 3,oa 1 7 (.bin .add (.t 6) (.c (.int .i64 1))),om 2 3 7])))))) (.seq [2] (.region [oi 0 2 0]) .ret)))
def GW:Fn:=⟨⟨1,13,0,true,[.tmp 2],bg⟩,[.one .frz (.str)],.one (.one .own (.int .i64))⟩
theorem bG:GW.A:=BJ ⟨T8,trivial⟩
def Fz:List UInt8→Int:=GW.V
def NP:List UInt8→Prop:=GW.O
theorem aX:GW.B:=BR ⟨T9,trivial⟩ (by kernel_rfl) (fun x=>by kernel_rfl)
def Y6:DCode:=(.seq [2,0] (.region [oa 0 2 (.allocB 0 [(.int .i64 0),.nils]),oa 1 3 (.mv (.c (.bool false)))]) (.seq [4,2,0] (.region [om 0 8 0,oF 1 9 Ef [(.t 8),(.c (.int .u8 58))],on 2 4 9]) (.seq [4,2,0] (.seq [12,4,2,0] (.region [on 0 10 4,oa 1 11 (.len (.t 10)),oa 2 12 (.bin .neq (.t 11) (.c (.int .i64 2)))]) (.cond (.t 12) (.seq [3,2] (.region [oa 0 13 (.build [(.int .i64 0),.nils] []),os 1 (.storeB 0 2 (.t 2) (.t 13)),oa 2 3 (.mv (.c (.bool false)))]) .ret) .skip)) (.seq [5,4,2,0] (.region [on 0 14 4,oa 1 15 (.indexA 1 (.t 14) (.c (.int .i64 0))),oa 2 16 (.loadH none (.t 15)),oF 3 17 GM [(.t 16)],⟨4,some 18,.a false (.litSlice 1 0 [] []) (some (.one (.int .i64))),none,[]⟩,oa 5 19 (.build [(.int .i64 0),.nils] [(0,1,(.t 17)),(1,1,(.t 18))]),oa 6 5 (.allocB 1 [(.int .i64 0),.nils]),os 7 (.storeB 1 2 (.t 5) (.t 19))]) (.seq [5,2,0] (.seq [23,5,4,2,0] (.region [on 0 20 4,oa 1 21 (.indexA 1 (.t 20) (.c (.int .i64 1))),oa 2 22 (.loadH none (.t 21)),oa 3 23 (.bin .neq (.t 22) (.c (.str [])))]) (.cond (.t 23) (.seq [6,5,2,0] (.region [on 0 24 4,oa 1 25 (.indexA 1 (.t 24) (.c (.int .i64 1))),oa 2 26 (.loadH none (.t 25)),oF 3 27 Ef [(.t 26),(.c (.int .u8 44))],on 4 6 27]) (.seq [7,6,5,2,0] (.region [oi 0 7 0]) (.block 0 (.loop [0,2,5,6,7] 1 (.seq [7,6,5,2,0] (.seq [31,7,6,5,2,0] (.region [om 0 28 7,on 1 29 6,oa 2 30 (.len (.t 29)),oa 3 31 (.bin .lss (.t 28) (.t 30))]) (.cond (.t 31) .skip (.exit 0))) (.seq [7,6,5,2,0] (.block 1 (.region [oa 0 34 (.fieldA 1 (.t 5)),xB 1 35 (.loadB 1 none (.t 34)) (rg 1),on 2 36 6,om 3 37 7,xA 4 38 (.indexA 1 (.t 36) (.t 37)) [2,3],xA 5 39 (.loadH none (.t 38)) [2,3,4],xF 6 40 GW [(.t 39)] [2,3,4,5],⟨7,some 41,.a false (.litSlice 1 1 [(.int .i64 0)] [(0,1,(.t 40))]) (some (.one (.int .i64))),none,[2,3,4,5,6]⟩,xA 8 42 (.app 1 (.t 35) (.t 41)) (rg 8),xA 9 43 (.fieldA 1 (.t 5)) (rg 9),xS 10 (.storeB 1 1 (.t 43) (.t 42)) (rg 10)])) (.region [om 0 32 7,oa 1 33 (.bin .add (.t 32) (.c (.int .i64 1))),om 2 7 33]))))))) .skip)) (.seq [5,2] (.seq [47,5,2] (.region [oa 0 44 (.loadB 1 (some 2) (.t 5)),oF 1 45 GJ [(.t 44)],om 2 46 0,oa 3 47 (.bin .neq (.t 45) (.t 46))]) (.cond (.t 47) (.seq [3,2] (.region [oa 0 48 (.build [(.int .i64 0),.nils] []),os 1 (.storeB 0 2 (.t 2) (.t 48)),oa 2 3 (.mv (.c (.bool false)))]) .ret) .skip)) (.seq [3,2] (.region [ob 0 49 (.loadB 1 (some 2) (.t 5)),os 1 (.storeB 0 2 (.t 2) (.t 49)),oa 2 3 (.mv (.c (.bool true)))]) .ret)))))))
def GK:Fn:=⟨⟨1,50,2,false,[.cell 2 (some 2),.tmp 3],Y6⟩,[.one .frz (.str)],.tup [.agg [(.own,.int .i64),(.own,.sl (.one (.int .i64)))],.one .own (.bool)]⟩
theorem Y7:GK.A:=BJ ⟨Qe,Zu,Qe,bG,Y5,trivial⟩
def Cz:List UInt8→(Int×List (Int))×Bool:=GK.V
def Ns:List UInt8→Prop:=GK.O
theorem Zh:GK.B:=BR ⟨Qc,ZC,Qc,aX,Y4,trivial⟩ (by kernel_rfl) (fun x=>by kernel_rfl)
def YL:DCode:=(.seq [1,0] (.region [oa 0 4 (.mv (.c (.str []))),oa 1 5 (.mv (.c (.str []))),oa 2 6 (.mv (.c (.bool false)))]) (.seq [0] (.seq [7,1,0] (.region [om 0 8 0,om 1 9 1,oc 2 10 K6 K5 TJ [(.t 8),(.t 9)],om 3 7 10]) (.seq [12,7,1,0] (.region [om 0 11 7,oa 1 12 (.bin .geq (.t 11) (.c (.int .i64 0)))]) (.cond (.t 12) (.seq [6,5,4] (.region [om 0 13 0,om 1 14 7,xA 2 15 (.substr (.t 13) none (some (.t 14))) (rg 2),om 3 16 0,om 4 17 7,om 5 18 1,xA 6 19 (.lenT (.t 18)) [5],xA 7 20 (.bin .add (.t 17) (.t 19)) [4,5,6],xA 8 21 (.substr (.t 16) (some (.t 20)) none) [3,4,5,6,7],xA 9 4 (.mv (.t 15)) [0,1,2],xA 10 5 (.mv (.t 21)) (rg 10),xA 11 6 (.mv (.c (.bool true))) (rg 11)]) .ret) .skip))) (.seq [6,5,4] (.region [om 0 22 0,om 1 4 22,oa 2 5 (.mv (.c (.str []))),oa 3 6 (.mv (.c (.bool false)))]) .ret)))
def GH:Fn:=⟨⟨2,23,0,true,[.tmp 4,.tmp 5,.tmp 6],YL⟩,[.one .frz (.str),.one .frz (.str)],.tup [.one .own (.str),.one .own (.str),.one .own (.bool)]⟩
theorem YM:GH.A:=BJ ⟨YI,trivial⟩
def P4:List UInt8×List UInt8→List UInt8×List UInt8×Bool:=GH.V
def P3:List UInt8×List UInt8→Prop:=GH.O
theorem YN:GH.B:=BR ⟨YJ,trivial⟩ (by kernel_rfl) (fun x=>by kernel_rfl)
def bt:DCode:=(.seq [1,0] (.region [oa 0 4 (.mv (.c (.str []))),oa 1 5 (.mv (.c (.str []))),oa 2 6 (.mv (.c (.bool false)))]) (.seq [6,5,4] (.region [om 0 7 0,om 1 8 1,oF 2 9 GH [(.t 7),(.t 8)],oa 3 10 (.extract (.t 9) 0),oa 4 11 (.extract (.t 9) 1),oa 5 12 (.extract (.t 9) 2),om 6 4 10,om 7 5 11,om 8 6 12]) .ret))
def GY:Fn:=⟨⟨2,13,0,true,[.tmp 4,.tmp 5,.tmp 6],bt⟩,[.one .frz (.str),.one .frz (.str)],.tup [.one .own (.str),.one .own (.str),.one .own (.bool)]⟩
theorem bC:GY.A:=BJ ⟨YM,trivial⟩
def Bt:List UInt8×List UInt8→List UInt8×List UInt8×Bool:=GY.V
def JW:List UInt8×List UInt8→Prop:=GY.O
theorem bB:GY.B:=BR ⟨YN,trivial⟩ (by kernel_rfl) (fun x=>by kernel_rfl)
def ZL:DCode:=(.seq [0] (.region [oi 0 2 0]) (.seq [] (.seq [3,0] (.region [oi 0 3 1]) (.block 0 (.loop [0,3] 1 (.seq [3,0] (.seq [5,3,0] (.region [om 0 4 3,oa 1 5 (.bin .leq (.t 4) (.c (.int .i64 15)))]) (.cond (.t 5) .skip (.exit 0))) (.seq [3,0] (.block 1 (.seq [11,3,0] (.region [om 0 8 3,oF 1 9 Fp [(.t 8)],om 2 10 0,oa 3 11 (.bin .eql (.t 9) (.t 10))]) (.cond (.t 11) (.seq [2] (.region [om 0 12 3,om 1 2 12]) .ret) .skip))) (.region [om 0 6 3,oa 1 7 (.bin .add (.t 6) (.c (.int .i64 1))),om 2 3 7])))))) (.seq [2] (.region [oi 0 2 0]) .ret)))
def GL:Fn:=⟨⟨1,13,0,true,[.tmp 2],ZL⟩,[.one .frz (.str)],.one (.one .own (.int .i64))⟩
theorem ZN:GL.A:=BJ ⟨TW,trivial⟩
def F8:List UInt8→Int:=GL.V
def Nz:List UInt8→Prop:=GL.O
theorem ZI:GL.B:=BR ⟨TU,trivial⟩ (by kernel_rfl) (fun x=>by kernel_rfl)
def ZJ:DCode:=(.seq [1,0] (.region [oa 0 4 (.mv (.c .nils))]) (.seq [5,1,0] (.region [oa 0 5 (.mv (.c .nils))]) (.seq [6,5,1,0] (.region [oi 0 6 0]) (.seq [6,5,0] (.seq [7,6,5,1,0] (.region [oi 0 7 0]) (.block 0 (.loop [0,1,5,6,7] 1 (.seq [7,6,5,1,0] (.seq [11,7,6,5,1,0] (.region [om 0 8 7,om 1 9 0,oa 2 10 (.lenT (.t 9)),oa 3 11 (.bin .lss (.t 8) (.t 10))]) (.cond (.t 11) .skip (.exit 0))) (.seq [7,6,5,1,0] (.block 1 (.seq [18,7,6,5,1,0] (.region [om 0 14 0,om 1 15 7,oa 2 16 (.index (.t 14) (.t 15)),om 3 17 1,oa 4 18 (.bin .eql (.t 16) (.t 17))]) (.cond (.t 18) (.seq [7,5,1,0] (.region [om 0 19 5,om 1 20 0,om 2 21 6,om 3 22 7,oa 4 23 (.substr (.t 20) (some (.t 21)) (some (.t 22))),⟨5,some 24,.a false (.litSlice 1 1 [(.str [])] [(0,1,(.t 23))]) (some (.one (.str))),none,[]⟩,oa 6 25 (.app 1 (.t 19) (.t 24)),om 7 5 25]) (.region [om 0 26 7,oa 1 27 (.bin .add (.t 26) (.c (.int .i64 1))),om 2 6 27])) .skip))) (.region [om 0 12 7,oa 1 13 (.bin .add (.t 12) (.c (.int .i64 1))),om 2 7 13])))))) (.seq [4] (.region [om 0 28 5,om 1 29 0,om 2 30 6,oa 3 31 (.substr (.t 29) (some (.t 30)) none),⟨4,some 32,.a false (.litSlice 1 1 [(.str [])] [(0,1,(.t 31))]) (some (.one (.str))),none,[]⟩,oa 5 33 (.app 1 (.t 28) (.t 32)),om 6 4 33]) .ret)))))
def GN:Fn:=⟨⟨2,34,0,false,[.tmp 4],ZJ⟩,[.one .frz (.str),.one .frz (.int .u8)],.one (.one .own (.sl (.one (.str))))⟩
theorem Zz:GN.A:=BJ trivial
def Fs:List UInt8×Int→List (List UInt8):=GN.V
def Nx:List UInt8×Int→Prop:=GN.O
theorem ZE:GN.B:=BR trivial (by kernel_rfl) (fun x=>by kernel_rfl)
def bD:DCode:=(.seq [0] (.region [oi 0 2 0]) (.seq [] (.seq [7,6,5,0] (.region [oc 0 5 HC JT NJ [(.c (.str [97,32,98,32,99,32,100,32,101,32,102,32,103,32,104,32,105,32,106,32,107,32,108,32,109,32,110,32,111,32,112,32,113,32,114,32,115,32,116,32,117,32,118,32,119,32,120,32,121,32,122,32,49,32,50,32,51,32,52,32,53,32,54,32,55,32,56,32,57,32,48,32,101,110,116,101,114,32,101,115,99,32,98,97,99,107,32,116,97,98,32,115,112,97,99,101,32,109,105,110,117,115,32,101,113,117,97,108,32,108,101,102,116,32,114,105,103,104,116,32,117,112,32,100,111,119,110,32,102,49,32,102,50,32,102,51,32,102,52,32,102,53,32,102,54,32,102,55,32,102,56,32,102,57])),(.c (.str [32]))],oa 1 6 (.len (.t 5)),oi 2 7 0]) (.block 0 (.loop [0,5,6,7] 1 (.seq [8,7,6,5,0] (.region [oa 0 8 (.bin .lss (.t 7) (.t 6))]) (.seq [7,6,5,0] (.cond (.t 8) .skip (.exit 0)) (.seq [7,6,5,0] (.block 1 (.seq [7,6,5,4,3,0] (.region [om 0 9 7,oa 1 10 (.indexA 1 (.t 5) (.t 7)),oa 2 11 (.loadH none (.t 10)),om 3 3 9,om 4 4 11]) (.seq [14,7,6,5,3,0] (.region [om 0 12 4,om 1 13 0,oa 2 14 (.bin .eql (.t 12) (.t 13))]) (.cond (.t 14) (.seq [2] (.region [om 0 15 3,oa 1 16 (.bin .add (.t 15) (.c (.int .i64 1))),om 2 2 16]) .ret) .skip)))) (.region [oa 0 17 (.bin .add (.t 7) (.c (.int .i64 1))),om 1 7 17]))))))) (.seq [2] (.region [oi 0 2 0]) .ret)))
def GZ:Fn:=⟨⟨1,18,0,true,[.tmp 2],bD⟩,[.one .frz (.str)],.one (.one .own (.int .i64))⟩
theorem bu:GZ.A:=BJ ⟨T6,trivial⟩
def JZ:List UInt8→Int:=GZ.V
def NL:List UInt8→Prop:=GZ.O
theorem bd:GZ.B:=BR ⟨Ud,trivial⟩ (by kernel_rfl) (fun x=>by kernel_rfl)
def Zi:DCode:=(.seq [2,0] (.region [oa 0 2 (.allocB 0 [(.int .i64 0),.nils]),oa 1 3 (.mv (.c (.bool false)))]) (.seq [6,5,4,2,0] (.region [om 0 11 0,oF 1 12 GY [(.t 11),(.c (.str [58]))],om 2 10 12,oa 3 13 (.extract (.t 10) 0),oa 4 14 (.extract (.t 10) 1),oa 5 15 (.extract (.t 10) 2),om 6 4 13,om 7 5 14,om 8 6 15]) (.seq [5,4,2,0] (.seq [17,5,4,2,0] (.region [om 0 16 6,oa 1 17 (.un .not (.t 16))]) (.cond (.t 17) (.seq [3,2] (.region [oa 0 18 (.build [(.int .i64 0),.nils] []),os 1 (.storeB 0 2 (.t 2) (.t 18)),oa 2 3 (.mv (.c (.bool false)))]) .ret) .skip)) (.seq [7,5,2,0] (.region [om 0 19 4,oF 1 20 GL [(.t 19)],oa 2 21 (.build [(.int .i64 0),.nils] [(0,1,(.t 20))]),oa 3 7 (.allocB 1 [(.int .i64 0),.nils]),os 4 (.storeB 1 2 (.t 7) (.t 21))]) (.seq [7,2,0] (.seq [23,7,5,2,0] (.region [om 0 22 5,oa 1 23 (.bin .neq (.t 22) (.c (.str [])))]) (.cond (.t 23) (.seq [27,26,25,7,2,0] (.region [om 0 24 5,oF 1 25 GN [(.t 24),(.c (.int .u8 44))],oa 2 26 (.len (.t 25)),oi 3 27 0]) (.block 0 (.loop [0,2,7,25,26,27] 1 (.seq [28,27,26,25,7,2,0] (.region [oa 0 28 (.bin .lss (.t 27) (.t 26))]) (.seq [27,26,25,7,2,0] (.cond (.t 28) .skip (.exit 0)) (.seq [27,26,25,7,2,0] (.block 1 (.seq [27,26,25,9,7,2,0] (.region [oa 0 29 (.indexA 1 (.t 25) (.t 27)),oa 1 30 (.loadH none (.t 29)),om 2 9 30]) (.region [oa 0 31 (.fieldA 1 (.t 7)),xB 1 32 (.loadB 1 none (.t 31)) (rg 1),om 2 33 9,xF 3 34 GZ [(.t 33)] [2],⟨4,some 35,.a false (.litSlice 1 1 [(.int .i64 0)] [(0,1,(.t 34))]) (some (.one (.int .i64))),none,[2,3]⟩,xA 5 36 (.app 1 (.t 32) (.t 35)) (rg 5),xA 6 37 (.fieldA 1 (.t 7)) (rg 6),xS 7 (.storeB 1 1 (.t 37) (.t 36)) (rg 7)]))) (.region [oa 0 38 (.bin .add (.t 27) (.c (.int .i64 1))),om 1 27 38]))))))) .skip)) (.seq [7,2] (.seq [47,7,2] (.region [oa 0 39 (.loadB 1 (some 2) (.t 7)),oF 1 40 Fy [(.t 39)],oa 2 41 (.un .not (.t 40)),om 3 42 41,og 4 43 (.loadB 1 (some 2) (.t 7)) 42 false,⟨5,some 44,.call false Fk.S Fk.P Fk.D [(.t 43)],(some (42,false)),[]⟩,og 6 45 (.mv (.t 0)) 42 false,og 7 46 (.bin .neq (.t 44) (.t 45)) 42 false,oa 8 47 (.pick (.t 42) (.c (.bool true)) (.t 46))]) (.cond (.t 47) (.seq [3,2] (.region [oa 0 48 (.build [(.int .i64 0),.nils] []),os 1 (.storeB 0 2 (.t 2) (.t 48)),oa 2 3 (.mv (.c (.bool false)))]) .ret) .skip)) (.seq [3,2] (.region [ob 0 49 (.loadB 1 (some 2) (.t 7)),os 1 (.storeB 0 2 (.t 2) (.t 49)),oa 2 3 (.mv (.c (.bool true)))]) .ret)))))))
def Fl:Fn:=⟨⟨1,50,2,false,[.cell 2 (some 2),.tmp 3],Zi⟩,[.one .frz (.str)],.tup [.agg [(.own,.int .i64),(.own,.sl (.one (.int .i64)))],.one .own (.bool)]⟩
theorem TR:Fl.A:=BJ ⟨bC,ZN,Zz,bu,Uf,YV,trivial⟩
def A0:List UInt8→(Int×List (Int))×Bool:=Fl.V
def Lb:List UInt8→Prop:=Fl.O
theorem TO:Fl.B:=BR ⟨bB,ZI,ZE,bd,T7,Y0,trivial⟩ (by kernel_rfl) (fun x=>by kernel_rfl)
def YS:DCode:=(.seq [0] (.region [oa 0 2 (.mv (.c (.bool false)))]) (.seq [0] (.seq [13,0] (.region [om 0 11 0,oa 1 12 (.lenT (.t 11)),oa 2 13 (.bin .gtr (.t 12) (.c (.int .i64 1048576)))]) (.cond (.t 13) (.seq [2] (.region [oa 0 2 (.mv (.c (.bool true)))]) .ret) .skip)) (.seq [4,3,0] (.region [om 0 15 0,oF 1 16 GK [(.t 15)],om 2 14 16,oa 3 17 (.extract (.t 14) 0),oa 4 18 (.extract (.t 14) 1),oa 5 3 (.allocB 0 [(.int .i64 0),.nils]),os 6 (.storeB 0 2 (.t 3) (.t 17)),om 7 4 18]) (.seq [6,5,4,3,0] (.region [om 0 20 0,oF 1 21 Fl [(.t 20)],om 2 19 21,oa 3 22 (.extract (.t 19) 0),oa 4 23 (.extract (.t 19) 1),oa 5 5 (.allocB 1 [(.int .i64 0),.nils]),os 6 (.storeB 1 2 (.t 5) (.t 22)),om 7 6 23]) (.seq [5,4,3,0] (.seq [32,5,4,3,0] (.region [oa 0 24 (.loadB 1 (some 2) (.t 5)),oa 1 25 (.loadB 0 (some 2) (.t 3)),oF 2 26 Fx [(.t 24),(.t 25)],oa 3 27 (.un .not (.t 26)),om 4 28 27,og 5 29 (.mv (.t 6)) 28 false,og 6 30 (.mv (.t 4)) 28 false,og 7 31 (.eqB true (.t 29) (.t 30)) 28 false,oa 8 32 (.pick (.t 28) (.c (.bool true)) (.t 31))]) (.cond (.t 32) (.seq [2] (.region [oa 0 2 (.mv (.c (.bool false)))]) .ret) .skip)) (.seq [7,5,4,3,0] (.region [oi 0 7 1]) (.seq [7,5,4,3,0] (.region [oa 0 33 (.loadB 1 (some 2) (.t 5)),om 1 34 7,⟨2,some 35,.mark HA Qd (.t 33) (.t 34),none,[]⟩,om 3 7 35]) (.seq [8,7,5,4,3,0] (.region [oi 0 8 1]) (.seq [8,7,5,4,3,0] (.region [oa 0 36 (.loadB 1 (some 2) (.t 5)),om 1 37 8,oF 2 38 Fm [(.t 36),(.t 37)],om 3 8 38]) (.seq [8,7,5,4,3,0] (.seq [40,8,7,5,4,3,0] (.region [om 0 39 8,oa 1 40 (.bin .lss (.t 39) (.c (.int .i64 0)))]) (.cond (.t 40) (.seq [2] (.region [oa 0 2 (.mv (.c (.bool false)))]) .ret) .skip)) (.seq [7,5,4,3,0] (.seq [43,7,5,4,3,0] (.region [om 0 41 8,om 1 42 7,oa 2 43 (.bin .neq (.t 41) (.t 42))]) (.cond (.t 43) (.seq [2] (.region [oa 0 2 (.mv (.c (.bool false)))]) .ret) .skip)) (.seq [10,9,7,5,4,3] (.region [om 0 45 0,oF 1 46 Fl [(.t 45)],om 2 44 46,oa 3 47 (.extract (.t 44) 0),oa 4 48 (.extract (.t 44) 1),oa 5 9 (.allocB 2 [(.int .i64 0),.nils]),os 6 (.storeB 2 2 (.t 9) (.t 47)),om 7 10 48]) (.seq [7,5] (.seq [57,7,5] (.region [oa 0 49 (.loadB 2 (some 2) (.t 9)),oa 1 50 (.loadB 0 (some 2) (.t 3)),oF 2 51 Fx [(.t 49),(.t 50)],oa 3 52 (.un .not (.t 51)),om 4 53 52,og 5 54 (.mv (.t 10)) 53 false,og 6 55 (.mv (.t 4)) 53 false,og 7 56 (.eqB true (.t 54) (.t 55)) 53 false,oa 8 57 (.pick (.t 53) (.c (.bool true)) (.t 56))]) (.cond (.t 57) (.seq [2] (.region [oa 0 2 (.mv (.c (.bool false)))]) .ret) .skip)) (.seq [8,7,5] (.region [oi 0 8 1]) (.seq [8,7] (.region [oa 0 58 (.loadB 1 (some 2) (.t 5)),om 1 59 8,oF 2 60 Fm [(.t 58),(.t 59)],om 3 8 60]) (.seq [8,7] (.seq [62,8,7] (.region [om 0 61 8,oa 1 62 (.bin .lss (.t 61) (.c (.int .i64 0)))]) (.cond (.t 62) (.seq [2] (.region [oa 0 2 (.mv (.c (.bool false)))]) .ret) .skip)) (.seq [] (.seq [65] (.region [om 0 63 8,om 1 64 7,oa 2 65 (.bin .neq (.t 63) (.t 64))]) (.cond (.t 65) (.seq [2] (.region [oa 0 2 (.mv (.c (.bool false)))]) .ret) .skip)) (.seq [2] (.region [oa 0 2 (.mv (.c (.bool true)))]) .ret))))))))))))))))))
def EO:Fn:=⟨⟨1,66,3,true,[.tmp 2],YS⟩,[.one .frz (.str)],.one (.one .own (.bool))⟩
theorem YO:EO.A:=BJ ⟨Y7,TR,Uc,Y9,TV,TR,Uc,TV,trivial⟩
def Nj:List UInt8→Bool:=EO.V
def Ni:List UInt8→Prop:=EO.O
end
section
set_option maxRecDepth 100000
def ID(x:List UInt8)(x0:Int):Bool:=(bAnd (iLe x0 15) (bNot (sEq (DB x0) x)))
def IE(x0:Int):Int:=(iAdd .i64 x0 1)
def Y8(x0:Int):Prop:=(((iLe x0 15)=true→(JK x0))∧((iLe x0 15)=false→True))
theorem Zy (x):CQ x=(bSel (iLe (AF (ID x) IE 1) 15) (AF (ID x) IE 1) 0):=(GM.v x).trans (by kernel_rfl)
theorem ZG (x):Nw x=(LoopOk (ID x) IE Y8 1):=(GM.o x).trans (by kernel_rfl)
def JP(x:List UInt8)(x0:Int):Bool:=(bAnd (iLe x0 56) (bNot (sEq (B1 x0) x)))
def Li(x0:Int):Int:=(iAdd .i64 x0 1)
def ND(x0:Int):Prop:=(((iLe x0 56)=true→(Lk x0))∧((iLe x0 56)=false→True))
theorem aZ (x):Fz x=(bSel (iLe (AF (JP x) Li 1) 56) (AF (JP x) Li 1) 0):=(GW.v x).trans (by kernel_rfl)
theorem bq (x):NP x=(LoopOk (JP x) Li ND 1):=(GW.o x).trans (by kernel_rfl)
def JF(x:List UInt8)(x0:(Int×(List Int))):Bool:=(iLt x0.1 (lLen (Be ((lGet (Be (x,58)) (iNat 1) []),44))))
def JG(x:List UInt8)(x0:(Int×(List Int))):(Int×(List Int)):=((iAdd .i64 x0.1 1),(lApp x0.2 [(Fz (lGet (Be ((lGet (Be (x,58)) (iNat 1) []),44)) (iNat x0.1) []))]))
def P5(x:List UInt8)(x0:(Int×(List Int))):Prop:=(((iLt x0.1 (lLen (Be ((lGet (Be (x,58)) (iNat 1) []),44))))=true→((((0:Int)≤x0.1)∧(x0.1<(((List.length (Be ((lGet (Be (x,58)) (iNat 1) []),44))):Int))))∧(((iNat x0.1)<(List.length (Be ((lGet (Be (x,58)) (iNat 1) []),44))))∧((NP (lGet (Be ((lGet (Be (x,58)) (iNat 1) []),44)) (iNat x0.1) []))∧(A5 (((List.length x0.2)+(List.length [(Fz (lGet (Be ((lGet (Be (x,58)) (iNat 1) []),44)) (iNat x0.1) []))]))*1))))))∧((iLt x0.1 (lLen (Be ((lGet (Be (x,58)) (iNat 1) []),44))))=false→True))
theorem Zg (x):Cz x=(bSel (iNe (lLen (Be (x,58))) 2) ((0,[]),false) (bSel (sNe (Ed ((CQ (lGet (Be (x,58)) (iNat 0) [])),(bSel (sNe (lGet (Be (x,58)) (iNat 1) []) []) (AF (JF x) (JG x) (0,[])).2 []))) x) ((0,[]),false) (((CQ (lGet (Be (x,58)) (iNat 0) [])),(bSel (sNe (lGet (Be (x,58)) (iNat 1) []) []) (AF (JF x) (JG x) (0,[])).2 [])),true))):=(GK.v x).trans (by kernel_rfl)
theorem Zf (x):Ns x=((JM (x,58))∧(((iNe (lLen (Be (x,58))) 2)=true→True)∧((iNe (lLen (Be (x,58))) 2)=false→((((0:Int)≤0)∧((0:Int)<(((List.length (Be (x,58))):Int))))∧(((iNat 0)<(List.length (Be (x,58))))∧((Nw (lGet (Be (x,58)) (iNat 0) []))∧(((((0:Int)≤1)∧((1:Int)<(((List.length (Be (x,58))):Int))))∧(((iNat 1)<(List.length (Be (x,58))))∧(((sNe (lGet (Be (x,58)) (iNat 1) []) [])=true→((((0:Int)≤1)∧((1:Int)<(((List.length (Be (x,58))):Int))))∧(((iNat 1)<(List.length (Be (x,58))))∧((JM ((lGet (Be (x,58)) (iNat 1) []),44))∧(LoopOk (JF x) (JG x) (P5 x) (0,[]))))))∧((sNe (lGet (Be (x,58)) (iNat 1) []) [])=false→True))))∧(K9 ((CQ (lGet (Be (x,58)) (iNat 0) [])),(bSel (sNe (lGet (Be (x,58)) (iNat 1) []) []) (AF (JF x) (JG x) (0,[])).2 [])))))))))):=(GK.o x).trans (by kernel_rfl)
theorem TL (x):P4 x=(bSel (iGe (C5 x) 0) ((lSub x.1 0 (iNat (C5 x))),(lSub x.1 (iNat (iAdd .i64 (C5 x) (lLen x.2))) (lN x.1)),true) (x.1,[],false)):=(GH.v x).trans (by kernel_rfl)
theorem TM (x):P3 x=((Hy x)∧(((iGe (C5 x) 0)=true→((((0:Int)≤(C5 x))∧((0≤(iNat (C5 x)))∧((iNat (C5 x))≤(List.length x.1))))∧(((0:Int)≤(iAdd .i64 (C5 x) (lLen x.2)))∧(((iNat (iAdd .i64 (C5 x) (lLen x.2)))≤(lN x.1))∧((lN x.1)≤(List.length x.1))))))∧((iGe (C5 x) 0)=false→True))):=(GH.o x).trans (by kernel_rfl)
theorem Ut (x):Bt x=(P4 x):=(GY.v x).trans (by kernel_rfl)
theorem Us (x):JW x=(P3 x):=(GY.o x).trans (by kernel_rfl)
def Le(x:List UInt8)(x0:Int):Bool:=(bAnd (iLe x0 15) (bNot (sEq (Hz x0) x)))
def Nr(x0:Int):Int:=(iAdd .i64 x0 1)
def Za(x0:Int):Prop:=(((iLe x0 15)=true→(JL x0))∧((iLe x0 15)=false→True))
theorem ZM (x):F8 x=(bSel (iLe (AF (Le x) Nr 1) 15) (AF (Le x) Nr 1) 0):=(GL.v x).trans (by kernel_rfl)
theorem ZH (x):Nz x=(LoopOk (Le x) Nr Za 1):=(GL.o x).trans (by kernel_rfl)
def F7(x:List UInt8×Int)(x0:((List (List UInt8))×(Int×Int))):Bool:=(iLt x0.2.2 (lLen x.1))
def GI(x:List UInt8×Int)(x0:((List (List UInt8))×(Int×Int))):((List (List UInt8))×(Int×Int)):=((bSel (iEq (sGet x.1 x0.2.2) x.2) (lApp x0.1 [(lSub x.1 (iNat x0.2.1) (iNat x0.2.2))]) x0.1),(bSel (iEq (sGet x.1 x0.2.2) x.2) (iAdd .i64 x0.2.2 1) x0.2.1),(iAdd .i64 x0.2.2 1))
def P8(x:List UInt8×Int)(x0:((List (List UInt8))×(Int×Int))):Prop:=(((iLt x0.2.2 (lLen x.1))=true→((((0:Int)≤x0.2.2)∧(x0.2.2<(((List.length x.1):Int))))∧(((iEq (sGet x.1 x0.2.2) x.2)=true→(((((0:Int)≤x0.2.1)∧((0:Int)≤x0.2.2))∧(((iNat x0.2.1)≤(iNat x0.2.2))∧((iNat x0.2.2)≤(List.length x.1))))∧(A5 (((List.length x0.1)+(List.length [(lSub x.1 (iNat x0.2.1) (iNat x0.2.2))]))*1))))∧((iEq (sGet x.1 x0.2.2) x.2)=false→True))))∧((iLt x0.2.2 (lLen x.1))=false→True))
theorem Zw (x):Fs x=(lApp (AF (F7 x) (GI x) ([],0,0)).1 [(lSub x.1 (iNat (AF (F7 x) (GI x) ([],0,0)).2.1) (lN x.1))]):=(GN.v x).trans (by kernel_rfl)
theorem ZB (x):Nx x=((LoopOk (F7 x) (GI x) (P8 x) ([],0,0))∧((((0:Int)≤(AF (F7 x) (GI x) ([],0,0)).2.1)∧(((iNat (AF (F7 x) (GI x) ([],0,0)).2.1)≤(lN x.1))∧((lN x.1)≤(List.length x.1))))∧(A5 (((List.length (AF (F7 x) (GI x) ([],0,0)).1)+(List.length [(lSub x.1 (iNat (AF (F7 x) (GI x) ([],0,0)).2.1) (lN x.1))]))*1)))):=(GN.o x).trans (by kernel_rfl)
def JN(x:List UInt8)(x0:Int):Bool:=(bAnd (iLt x0 (lLen (DD ([(97:UInt8),32,98,32,99,32,100,32,101,32,102,32,103,32,104,32,105,32,106,32,107,32,108,32,109,32,110,32,111,32,112,32,113,32,114,32,115,32,116,32,117,32,118,32,119,32,120,32,121,32,122,32,49,32,50,32,51,32,52,32,53,32,54,32,55,32,56,32,57,32,48,32,101,110,116,101,114,32,101,115,99,32,98,97,99,107,32,116,97,98,32,115,112,97,99,101,32,109,105,110,117,115,32,101,113,117,97,108,32,108,101,102,116,32,114,105,103,104,116,32,117,112,32,100,111,119,110,32,102,49,32,102,50,32,102,51,32,102,52,32,102,53,32,102,54,32,102,55,32,102,56,32,102,57],[(32:UInt8)])))) (bNot (sEq (lGet (DD ([(97:UInt8),32,98,32,99,32,100,32,101,32,102,32,103,32,104,32,105,32,106,32,107,32,108,32,109,32,110,32,111,32,112,32,113,32,114,32,115,32,116,32,117,32,118,32,119,32,120,32,121,32,122,32,49,32,50,32,51,32,52,32,53,32,54,32,55,32,56,32,57,32,48,32,101,110,116,101,114,32,101,115,99,32,98,97,99,107,32,116,97,98,32,115,112,97,99,101,32,109,105,110,117,115,32,101,113,117,97,108,32,108,101,102,116,32,114,105,103,104,116,32,117,112,32,100,111,119,110,32,102,49,32,102,50,32,102,51,32,102,52,32,102,53,32,102,54,32,102,55,32,102,56,32,102,57],[(32:UInt8)])) (iNat x0) []) x)))
def Lj(x0:Int):Int:=(iAdd .i64 x0 1)
def NF(x0:Int):Prop:=(((iLt x0 (lLen (DD ([(97:UInt8),32,98,32,99,32,100,32,101,32,102,32,103,32,104,32,105,32,106,32,107,32,108,32,109,32,110,32,111,32,112,32,113,32,114,32,115,32,116,32,117,32,118,32,119,32,120,32,121,32,122,32,49,32,50,32,51,32,52,32,53,32,54,32,55,32,56,32,57,32,48,32,101,110,116,101,114,32,101,115,99,32,98,97,99,107,32,116,97,98,32,115,112,97,99,101,32,109,105,110,117,115,32,101,113,117,97,108,32,108,101,102,116,32,114,105,103,104,116,32,117,112,32,100,111,119,110,32,102,49,32,102,50,32,102,51,32,102,52,32,102,53,32,102,54,32,102,55,32,102,56,32,102,57],[(32:UInt8)]))))=true→((((0:Int)≤x0)∧(x0<(((List.length (DD ([(97:UInt8),32,98,32,99,32,100,32,101,32,102,32,103,32,104,32,105,32,106,32,107,32,108,32,109,32,110,32,111,32,112,32,113,32,114,32,115,32,116,32,117,32,118,32,119,32,120,32,121,32,122,32,49,32,50,32,51,32,52,32,53,32,54,32,55,32,56,32,57,32,48,32,101,110,116,101,114,32,101,115,99,32,98,97,99,107,32,116,97,98,32,115,112,97,99,101,32,109,105,110,117,115,32,101,113,117,97,108,32,108,101,102,116,32,114,105,103,104,116,32,117,112,32,100,111,119,110,32,102,49,32,102,50,32,102,51,32,102,52,32,102,53,32,102,54,32,102,55,32,102,56,32,102,57],[(32:UInt8)]))):Int))))∧((iNat x0)<(List.length (DD ([(97:UInt8),32,98,32,99,32,100,32,101,32,102,32,103,32,104,32,105,32,106,32,107,32,108,32,109,32,110,32,111,32,112,32,113,32,114,32,115,32,116,32,117,32,118,32,119,32,120,32,121,32,122,32,49,32,50,32,51,32,52,32,53,32,54,32,55,32,56,32,57,32,48,32,101,110,116,101,114,32,101,115,99,32,98,97,99,107,32,116,97,98,32,115,112,97,99,101,32,109,105,110,117,115,32,101,113,117,97,108,32,108,101,102,116,32,114,105,103,104,116,32,117,112,32,100,111,119,110,32,102,49,32,102,50,32,102,51,32,102,52,32,102,53,32,102,54,32,102,55,32,102,56,32,102,57],[(32:UInt8)]))))))∧((iLt x0 (lLen (DD ([(97:UInt8),32,98,32,99,32,100,32,101,32,102,32,103,32,104,32,105,32,106,32,107,32,108,32,109,32,110,32,111,32,112,32,113,32,114,32,115,32,116,32,117,32,118,32,119,32,120,32,121,32,122,32,49,32,50,32,51,32,52,32,53,32,54,32,55,32,56,32,57,32,48,32,101,110,116,101,114,32,101,115,99,32,98,97,99,107,32,116,97,98,32,115,112,97,99,101,32,109,105,110,117,115,32,101,113,117,97,108,32,108,101,102,116,32,114,105,103,104,116,32,117,112,32,100,111,119,110,32,102,49,32,102,50,32,102,51,32,102,52,32,102,53,32,102,54,32,102,55,32,102,56,32,102,57],[(32:UInt8)]))))=false→True))
theorem bE (x):JZ x=(bSel (iLt (AF (JN x) Lj 0) (lLen (DD ([(97:UInt8),32,98,32,99,32,100,32,101,32,102,32,103,32,104,32,105,32,106,32,107,32,108,32,109,32,110,32,111,32,112,32,113,32,114,32,115,32,116,32,117,32,118,32,119,32,120,32,121,32,122,32,49,32,50,32,51,32,52,32,53,32,54,32,55,32,56,32,57,32,48,32,101,110,116,101,114,32,101,115,99,32,98,97,99,107,32,116,97,98,32,115,112,97,99,101,32,109,105,110,117,115,32,101,113,117,97,108,32,108,101,102,116,32,114,105,103,104,116,32,117,112,32,100,111,119,110,32,102,49,32,102,50,32,102,51,32,102,52,32,102,53,32,102,54,32,102,55,32,102,56,32,102,57],[(32:UInt8)])))) (iAdd .i64 (AF (JN x) Lj 0) 1) 0):=(GZ.v x).trans (by kernel_rfl)
theorem bw (x):NL x=((HB ([(97:UInt8),32,98,32,99,32,100,32,101,32,102,32,103,32,104,32,105,32,106,32,107,32,108,32,109,32,110,32,111,32,112,32,113,32,114,32,115,32,116,32,117,32,118,32,119,32,120,32,121,32,122,32,49,32,50,32,51,32,52,32,53,32,54,32,55,32,56,32,57,32,48,32,101,110,116,101,114,32,101,115,99,32,98,97,99,107,32,116,97,98,32,115,112,97,99,101,32,109,105,110,117,115,32,101,113,117,97,108,32,108,101,102,116,32,114,105,103,104,116,32,117,112,32,100,111,119,110,32,102,49,32,102,50,32,102,51,32,102,52,32,102,53,32,102,54,32,102,55,32,102,56,32,102,57],[(32:UInt8)]))∧(LoopOk (JN x) Lj NF 0)):=(GZ.o x).trans (by kernel_rfl)
def F5(x:List UInt8)(x0:(Int×(List Int))):Bool:=(iLt x0.1 (lLen (Fs ((Bt (x,[(58:UInt8)])).2.1,44))))
def F6(x:List UInt8)(x0:(Int×(List Int))):(Int×(List Int)):=((iAdd .i64 x0.1 1),(lApp x0.2 [(JZ (lGet (Fs ((Bt (x,[(58:UInt8)])).2.1,44)) (iNat x0.1) []))]))
def P6(x:List UInt8)(x0:(Int×(List Int))):Prop:=(((iLt x0.1 (lLen (Fs ((Bt (x,[(58:UInt8)])).2.1,44))))=true→((((0:Int)≤x0.1)∧(x0.1<(((List.length (Fs ((Bt (x,[(58:UInt8)])).2.1,44))):Int))))∧(((iNat x0.1)<(List.length (Fs ((Bt (x,[(58:UInt8)])).2.1,44))))∧((NL (lGet (Fs ((Bt (x,[(58:UInt8)])).2.1,44)) (iNat x0.1) []))∧(A5 (((List.length x0.2)+(List.length [(JZ (lGet (Fs ((Bt (x,[(58:UInt8)])).2.1,44)) (iNat x0.1) []))]))*1))))))∧((iLt x0.1 (lLen (Fs ((Bt (x,[(58:UInt8)])).2.1,44))))=false→True))
theorem Ze (x):A0 x=(bSel (bNot (Bt (x,[(58:UInt8)])).2.2) ((0,[]),false) (bSel (bOr (bNot (Ga ((F8 (Bt (x,[(58:UInt8)])).1),(bSel (sNe (Bt (x,[(58:UInt8)])).2.1 []) (AF (F5 x) (F6 x) (0,[])).2 [])))) (sNe (Lc ((F8 (Bt (x,[(58:UInt8)])).1),(bSel (sNe (Bt (x,[(58:UInt8)])).2.1 []) (AF (F5 x) (F6 x) (0,[])).2 []))) x)) ((0,[]),false) (((F8 (Bt (x,[(58:UInt8)])).1),(bSel (sNe (Bt (x,[(58:UInt8)])).2.1 []) (AF (F5 x) (F6 x) (0,[])).2 [])),true))):=(Fl.v x).trans (by kernel_rfl)
theorem Zc (x):Lb x=((JW (x,[(58:UInt8)]))∧(((bNot (Bt (x,[(58:UInt8)])).2.2)=true→True)∧((bNot (Bt (x,[(58:UInt8)])).2.2)=false→((Nz (Bt (x,[(58:UInt8)])).1)∧((((sNe (Bt (x,[(58:UInt8)])).2.1 [])=true→((Nx ((Bt (x,[(58:UInt8)])).2.1,44))∧(LoopOk (F5 x) (F6 x) (P6 x) (0,[]))))∧((sNe (Bt (x,[(58:UInt8)])).2.1 [])=false→True))∧((JO ((F8 (Bt (x,[(58:UInt8)])).1),(bSel (sNe (Bt (x,[(58:UInt8)])).2.1 []) (AF (F5 x) (F6 x) (0,[])).2 [])))∧(((bNot (Ga ((F8 (Bt (x,[(58:UInt8)])).1),(bSel (sNe (Bt (x,[(58:UInt8)])).2.1 []) (AF (F5 x) (F6 x) (0,[])).2 []))))=true→True)∧((bNot (Ga ((F8 (Bt (x,[(58:UInt8)])).1),(bSel (sNe (Bt (x,[(58:UInt8)])).2.1 []) (AF (F5 x) (F6 x) (0,[])).2 []))))=false→(K7 ((F8 (Bt (x,[(58:UInt8)])).1),(bSel (sNe (Bt (x,[(58:UInt8)])).2.1 []) (AF (F5 x) (F6 x) (0,[])).2 []))))))))))):=(Fl.o x).trans (by kernel_rfl)
theorem YQ (x):Nj x=(bOr (iGt (lLen x) 1048576) (bAnd (bNot (bOr (bNot (F9 ((A0 x).1,(Cz x).1))) (bNot (bIff (A0 x).2 (Cz x).2)))) (bAnd (bNot (iLt (Fo (((A0 x).1.1,(B0 (A0 x).1 1).1.2),1)) 0)) (bAnd (bNot (iNe (Fo (((A0 x).1.1,(B0 (A0 x).1 1).1.2),1)) (B0 (A0 x).1 1).2)) (bAnd (bNot (bOr (bNot (F9 ((A0 x).1,(Cz x).1))) (bNot (bIff (A0 x).2 (Cz x).2)))) (bAnd (bNot (iLt (Fo (((A0 x).1.1,(B0 (A0 x).1 1).1.2),1)) 0)) (bNot (iNe (Fo (((A0 x).1.1,(B0 (A0 x).1 1).1.2),1)) (B0 (A0 x).1 1).2)))))))):=(EO.v x).trans (by kernel_rfl)
theorem YP (x):Ni x=(((iGt (lLen x) 1048576)=true→True)∧((iGt (lLen x) 1048576)=false→((Ns x)∧((Lb x)∧((JQ ((A0 x).1,(Cz x).1))∧(((bOr (bNot (F9 ((A0 x).1,(Cz x).1))) (bNot (bIff (A0 x).2 (Cz x).2)))=true→True)∧((bOr (bNot (F9 ((A0 x).1,(Cz x).1))) (bNot (bIff (A0 x).2 (Cz x).2)))=false→((((List.length (A0 x).1.2)=(List.length (A0 x).1.2))∧(DMk.ok (DMk.mk (RT.cons (CT.int IntKind.i64) (RT.one (CT.sl (RT.one (CT.int IntKind.i64))))) true JI B0 false) (A0 x).1))∧((Lf (((A0 x).1.1,(B0 (A0 x).1 1).1.2),1))∧(((iLt (Fo (((A0 x).1.1,(B0 (A0 x).1 1).1.2),1)) 0)=true→True)∧((iLt (Fo (((A0 x).1.1,(B0 (A0 x).1 1).1.2),1)) 0)=false→(((iNe (Fo (((A0 x).1.1,(B0 (A0 x).1 1).1.2),1)) (B0 (A0 x).1 1).2)=true→True)∧((iNe (Fo (((A0 x).1.1,(B0 (A0 x).1 1).1.2),1)) (B0 (A0 x).1 1).2)=false→((Lb x)∧((JQ ((A0 x).1,(Cz x).1))∧(((bOr (bNot (F9 ((A0 x).1,(Cz x).1))) (bNot (bIff (A0 x).2 (Cz x).2)))=true→True)∧((bOr (bNot (F9 ((A0 x).1,(Cz x).1))) (bNot (bIff (A0 x).2 (Cz x).2)))=false→(Lf (((A0 x).1.1,(B0 (A0 x).1 1).1.2),1))))))))))))))))))):=(EO.o x).trans (by kernel_rfl)
attribute [irreducible] CQ Nw Fz NP Cz Ns P4 P3 Bt JW F8 Nz Fs Nx JZ NL A0 Lb Nj Ni
end
section
set_option maxRecDepth 100000
def Ld(x:List UInt8×Int)(x0:((List (List UInt8))×(Int×Int))):Bool:=(iLe x0.2.2 (lLen x.1))
def Nq(x:List UInt8×Int)(x0:((List (List UInt8))×(Int×Int))):((List (List UInt8))×(Int×Int)):=((bSel (bOr (iEq x0.2.2 (lLen x.1)) (iEq (sGet x.1 x0.2.2) x.2)) (lApp x0.1 [(lSub x.1 (iNat x0.2.1) (iNat x0.2.2))]) x0.1),(bSel (bOr (iEq x0.2.2 (lLen x.1)) (iEq (sGet x.1 x0.2.2) x.2)) (iAdd .i64 x0.2.2 1) x0.2.1),(iAdd .i64 x0.2.2 1))
def P7(x:List UInt8×Int)(x0:((List (List UInt8))×(Int×Int))):Prop:=(((iLe x0.2.2 (lLen x.1))=true→((((iEq x0.2.2 (lLen x.1))=true→True)∧((iEq x0.2.2 (lLen x.1))=false→(((0:Int)≤x0.2.2)∧(x0.2.2<(((List.length x.1):Int))))))∧(((bOr (iEq x0.2.2 (lLen x.1)) (iEq (sGet x.1 x0.2.2) x.2))=true→(((((0:Int)≤x0.2.1)∧((0:Int)≤x0.2.2))∧(((iNat x0.2.1)≤(iNat x0.2.2))∧((iNat x0.2.2)≤(List.length x.1))))∧(A5 (((List.length x0.1)+(List.length [(lSub x.1 (iNat x0.2.1) (iNat x0.2.2))]))*1))))∧((bOr (iEq x0.2.2 (lLen x.1)) (iEq (sGet x.1 x0.2.2) x.2))=false→True))))∧((iLe x0.2.2 (lLen x.1))=false→True))
theorem ZD (x):Be x=(AF (Ld x) (Nq x) ([],0,0)).1:=(Ef.v x).trans (by kernel_rfl)
theorem Zv (x):JM x=(LoopOk (Ld x) (Nq x) (P7 x) ([],0,0)):=(Ef.o x).trans (by kernel_rfl)
theorem aI (x):JV x=(Be ([(97:UInt8),32,98,32,99,32,100,32,101,32,102,32,103,32,104,32,105,32,106,32,107,32,108,32,109,32,110,32,111,32,112,32,113,32,114,32,115,32,116,32,117,32,118,32,119,32,120,32,121,32,122,32,49,32,50,32,51,32,52,32,53,32,54,32,55,32,56,32,57,32,48,32,101,110,116,101,114,32,101,115,99,32,98,97,99,107,32,116,97,98,32,115,112,97,99,101,32,109,105,110,117,115,32,101,113,117,97,108,32,108,101,102,116,32,114,105,103,104,116,32,117,112,32,100,111,119,110,32,102,49,32,102,50,32,102,51,32,102,52,32,102,53,32,102,54,32,102,55,32,102,56,32,102,57],32)):=(GU.v x).trans (by kernel_rfl)
theorem aP (x):NK x=(JM ([(97:UInt8),32,98,32,99,32,100,32,101,32,102,32,103,32,104,32,105,32,106,32,107,32,108,32,109,32,110,32,111,32,112,32,113,32,114,32,115,32,116,32,117,32,118,32,119,32,120,32,121,32,122,32,49,32,50,32,51,32,52,32,53,32,54,32,55,32,56,32,57,32,48,32,101,110,116,101,114,32,101,115,99,32,98,97,99,107,32,116,97,98,32,115,112,97,99,101,32,109,105,110,117,115,32,101,113,117,97,108,32,108,101,102,116,32,114,105,103,104,116,32,117,112,32,100,111,119,110,32,102,49,32,102,50,32,102,51,32,102,52,32,102,53,32,102,54,32,102,55,32,102,56,32,102,57],32)):=(GU.o x).trans (by kernel_rfl)
theorem Qh (x):B1 x=(bSel (bNot (Dl (x,1,56))) [] (lGet (JV PUnit.unit) (iNat (iSub .i64 x 1)) [])):=(Fu.v x).trans (by kernel_rfl)
theorem aq (x):Lk x=((IG (x,1,56))∧(((bNot (Dl (x,1,56)))=true→True)∧((bNot (Dl (x,1,56)))=false→((NK PUnit.unit)∧((((0:Int)≤(iSub .i64 x 1))∧((iSub .i64 x 1)<(((List.length (JV PUnit.unit)):Int))))∧((iNat (iSub .i64 x 1))<(List.length (JV PUnit.unit)))))))):=(Fu.o x).trans (by kernel_rfl)
def IC(x:Int)(x0:((List UInt8)×Int)):Bool:=(bAnd (iLt x0.2 4) (Dl (x,1,15)))
def La(x:Int)(x0:((List UInt8)×Int)):((List UInt8)×Int):=((bSel (iEq (iAnd .i64 (iShr .i64 x x0.2) 1) 1) (sAdd x0.1 (lSub [(67:UInt8),83,65,71] (iNat x0.2) (iNat (iAdd .i64 x0.2 1)))) x0.1),(iAdd .i64 x0.2 1))
def JH(x:Int)(x0:((List UInt8)×Int)):Prop:=((((iLt x0.2 4)=true→(IG (x,1,15)))∧((iLt x0.2 4)=false→True))∧(((bAnd (iLt x0.2 4) (Dl (x,1,15)))=true→(((0:Int)≤x0.2)∧(((iEq (iAnd .i64 (iShr .i64 x x0.2) 1) 1)=true→(((((0:Int)≤x0.2)∧((0:Int)≤(iAdd .i64 x0.2 1)))∧(((iNat x0.2)≤(iNat (iAdd .i64 x0.2 1)))∧((iNat (iAdd .i64 x0.2 1))≤(List.length [(67:UInt8),83,65,71]))))∧(((List.length x0.1)+(List.length (lSub [(67:UInt8),83,65,71] (iNat x0.2) (iNat (iAdd .i64 x0.2 1)))))≤9223372036854775807)))∧((iEq (iAnd .i64 (iShr .i64 x x0.2) 1) 1)=false→True))))∧((bAnd (iLt x0.2 4) (Dl (x,1,15)))=false→True)))
theorem Zs (x):DB x=(AF (IC x) (La x) ([],0)).1:=(Fq.v x).trans (by kernel_rfl)
theorem Zo (x):JK x=(LoopOk (IC x) (La x) (JH x) ([],0)):=(Fq.o x).trans (by kernel_rfl)
def Lg(x:List (List UInt8)×List UInt8)(x0:((List Int)×Int)):Bool:=(iLt x0.2 (lLen x.1))
def Nv(x:List (List UInt8)×List UInt8)(x0:((List Int)×Int)):((List Int)×Int):=((lApp (bSel (iGt x0.2 0) (lApp x0.1 (sRow x.2)) x0.1) (sRow (lGet x.1 (iNat x0.2) []))),(iAdd .i64 x0.2 1))
def Nt(x:List (List UInt8)×List UInt8)(x0:((List Int)×Int)):Prop:=(((iLt x0.2 (lLen x.1))=true→((((iGt x0.2 0)=true→(A5 (((List.length x0.1)+(List.length (sRow x.2)))*1)))∧((iGt x0.2 0)=false→True))∧((((0:Int)≤x0.2)∧(x0.2<(((List.length x.1):Int))))∧(((iNat x0.2)<(List.length x.1))∧(A5 (((List.length (bSel (iGt x0.2 0) (lApp x0.1 (sRow x.2)) x0.1))+(List.length (sRow (lGet x.1 (iNat x0.2) []))))*1))))))∧((iLt x0.2 (lLen x.1))=false→True))
theorem Z7 (x):Lo x=(rowS (AF (Lg x) (Nv x) ([],0)).1):=(GO.v x).trans (by kernel_rfl)
theorem al (x):NH x=(LoopOk (Lg x) (Nv x) (Nt x) ([],0)):=(GO.o x).trans (by kernel_rfl)
def IA(x:Int×List (Int))(x0:((List (List UInt8))×Int)):Bool:=(iLt x0.2 (lLen x.2))
def JD(x:Int×List (Int))(x0:((List (List UInt8))×Int)):((List (List UInt8))×Int):=((lApp x0.1 [(B1 (lGet x.2 (iNat x0.2) 0))]),(iAdd .i64 x0.2 1))
def Nl(x:Int×List (Int))(x0:((List (List UInt8))×Int)):Prop:=(((iLt x0.2 (lLen x.2))=true→((((0:Int)≤x0.2)∧(x0.2<(((List.length x.2):Int))))∧(((iNat x0.2)<(List.length x.2))∧((Lk (lGet x.2 (iNat x0.2) 0))∧(A5 (((List.length x0.1)+(List.length [(B1 (lGet x.2 (iNat x0.2) 0))]))*1))))))∧((iLt x0.2 (lLen x.2))=false→True))
theorem TN (x):Ed x=(bSel (bNot (DE x)) [] (sAdd (sAdd (DB x.1) [(58:UInt8)]) (Lo ((AF (IA x) (JD x) ([],0)).1,[(44:UInt8)])))):=(GJ.v x).trans (by kernel_rfl)
theorem Y3 (x):K9 x=((Ll x)∧(((bNot (DE x))=true→True)∧((bNot (DE x))=false→((LoopOk (IA x) (JD x) (Nl x) ([],0))∧((JK x.1)∧((((List.length (DB x.1))+(List.length [(58:UInt8)]))≤9223372036854775807)∧((NH ((AF (IA x) (JD x) ([],0)).1,[(44:UInt8)]))∧(((List.length (sAdd (DB x.1) [(58:UInt8)]))+(List.length (Lo ((AF (IA x) (JD x) ([],0)).1,[(44:UInt8)]))))≤9223372036854775807)))))))):=(GJ.o x).trans (by kernel_rfl)
theorem au (x):Lp x=(bSel (bOr (iLt x 1) (iGt x 56)) [] (lGet (DD ([(97:UInt8),32,98,32,99,32,100,32,101,32,102,32,103,32,104,32,105,32,106,32,107,32,108,32,109,32,110,32,111,32,112,32,113,32,114,32,115,32,116,32,117,32,118,32,119,32,120,32,121,32,122,32,49,32,50,32,51,32,52,32,53,32,54,32,55,32,56,32,57,32,48,32,101,110,116,101,114,32,101,115,99,32,98,97,99,107,32,116,97,98,32,115,112,97,99,101,32,109,105,110,117,115,32,101,113,117,97,108,32,108,101,102,116,32,114,105,103,104,116,32,117,112,32,100,111,119,110,32,102,49,32,102,50,32,102,51,32,102,52,32,102,53,32,102,54,32,102,55,32,102,56,32,102,57],[(32:UInt8)])) (iNat (iSub .i64 x 1)) [])):=(GR.v x).trans (by kernel_rfl)
theorem ah (x):NG x=(((bOr (iLt x 1) (iGt x 56))=true→True)∧((bOr (iLt x 1) (iGt x 56))=false→((HB ([(97:UInt8),32,98,32,99,32,100,32,101,32,102,32,103,32,104,32,105,32,106,32,107,32,108,32,109,32,110,32,111,32,112,32,113,32,114,32,115,32,116,32,117,32,118,32,119,32,120,32,121,32,122,32,49,32,50,32,51,32,52,32,53,32,54,32,55,32,56,32,57,32,48,32,101,110,116,101,114,32,101,115,99,32,98,97,99,107,32,116,97,98,32,115,112,97,99,101,32,109,105,110,117,115,32,101,113,117,97,108,32,108,101,102,116,32,114,105,103,104,116,32,117,112,32,100,111,119,110,32,102,49,32,102,50,32,102,51,32,102,52,32,102,53,32,102,54,32,102,55,32,102,56,32,102,57],[(32:UInt8)]))∧((((0:Int)≤(iSub .i64 x 1))∧((iSub .i64 x 1)<(((List.length (DD ([(97:UInt8),32,98,32,99,32,100,32,101,32,102,32,103,32,104,32,105,32,106,32,107,32,108,32,109,32,110,32,111,32,112,32,113,32,114,32,115,32,116,32,117,32,118,32,119,32,120,32,121,32,122,32,49,32,50,32,51,32,52,32,53,32,54,32,55,32,56,32,57,32,48,32,101,110,116,101,114,32,101,115,99,32,98,97,99,107,32,116,97,98,32,115,112,97,99,101,32,109,105,110,117,115,32,101,113,117,97,108,32,108,101,102,116,32,114,105,103,104,116,32,117,112,32,100,111,119,110,32,102,49,32,102,50,32,102,51,32,102,52,32,102,53,32,102,54,32,102,55,32,102,56,32,102,57],[(32:UInt8)]))):Int))))∧((iNat (iSub .i64 x 1))<(List.length (DD ([(97:UInt8),32,98,32,99,32,100,32,101,32,102,32,103,32,104,32,105,32,106,32,107,32,108,32,109,32,110,32,111,32,112,32,113,32,114,32,115,32,116,32,117,32,118,32,119,32,120,32,121,32,122,32,49,32,50,32,51,32,52,32,53,32,54,32,55,32,56,32,57,32,48,32,101,110,116,101,114,32,101,115,99,32,98,97,99,107,32,116,97,98,32,115,112,97,99,101,32,109,105,110,117,115,32,101,113,117,97,108,32,108,101,102,116,32,114,105,103,104,116,32,117,112,32,100,111,119,110,32,102,49,32,102,50,32,102,51,32,102,52,32,102,53,32,102,54,32,102,55,32,102,56,32,102,57],[(32:UInt8)])))))))):=(GR.o x).trans (by kernel_rfl)
def K8(x0:((List UInt8)×Int)):Bool:=(iLt x0.2 (lLen [[(67:UInt8)],[(83:UInt8)],[(65:UInt8)],[(71:UInt8)]]))
def Np(x:Int)(x0:((List UInt8)×Int)):((List UInt8)×Int):=((bSel (iEq (LG (x,x0.2)) 1) (sAdd x0.1 (lGet [[(67:UInt8)],[(83:UInt8)],[(65:UInt8)],[(71:UInt8)]] (iNat x0.2) [])) x0.1),(iAdd .i64 x0.2 1))
def Nn(x:Int)(x0:((List UInt8)×Int)):Prop:=(((iLt x0.2 (lLen [[(67:UInt8)],[(83:UInt8)],[(65:UInt8)],[(71:UInt8)]]))=true→((((0:Int)≤x0.2)∧(x0.2<(((List.length [[(67:UInt8)],[(83:UInt8)],[(65:UInt8)],[(71:UInt8)]]):Int))))∧(((iNat x0.2)<(List.length [[(67:UInt8)],[(83:UInt8)],[(65:UInt8)],[(71:UInt8)]]))∧((Qv (x,x0.2))∧(((iEq (LG (x,x0.2)) 1)=true→(((List.length x0.1)+(List.length (lGet [[(67:UInt8)],[(83:UInt8)],[(65:UInt8)],[(71:UInt8)]] (iNat x0.2) [])))≤9223372036854775807))∧((iEq (LG (x,x0.2)) 1)=false→True))))))∧((iLt x0.2 (lLen [[(67:UInt8)],[(83:UInt8)],[(65:UInt8)],[(71:UInt8)]]))=false→True))
theorem Zr (x):Hz x=(bSel (bOr (iLt x 1) (iGt x 15)) [] (AF K8 (Np x) ([],0)).1):=(Fp.v x).trans (by kernel_rfl)
theorem Zp (x):JL x=(((bOr (iLt x 1) (iGt x 15))=true→True)∧((bOr (iLt x 1) (iGt x 15))=false→(LoopOk K8 (Np x) (Nn x) ([],0)))):=(Fp.o x).trans (by kernel_rfl)
theorem Z6 (x):Lm x=(JU x):=(GP.v x).trans (by kernel_rfl)
theorem aF (x):NI x=(JR x):=(GP.o x).trans (by kernel_rfl)
def IB(x:Int×List (Int))(x0:((List (List UInt8))×Int)):Bool:=(iLt x0.2 (lLen x.2))
def JE(x:Int×List (Int))(x0:((List (List UInt8))×Int)):((List (List UInt8))×Int):=((lApp x0.1 [(Lp (lGet x.2 (iNat x0.2) 0))]),(iAdd .i64 x0.2 1))
def Nk(x:Int×List (Int))(x0:((List (List UInt8))×Int)):Prop:=(((iLt x0.2 (lLen x.2))=true→((((0:Int)≤x0.2)∧(x0.2<(((List.length x.2):Int))))∧(((iNat x0.2)<(List.length x.2))∧((NG (lGet x.2 (iNat x0.2) 0))∧(A5 (((List.length x0.1)+(List.length [(Lp (lGet x.2 (iNat x0.2) 0))]))*1))))))∧((iLt x0.2 (lLen x.2))=false→True))
theorem YX (x):Lc x=(bSel (bNot (Ga x)) [] (sAdd (sAdd (Hz x.1) [(58:UInt8)]) (Lm ((AF (IB x) (JE x) ([],0)).1,[(44:UInt8)])))):=(Fk.v x).trans (by kernel_rfl)
theorem YW (x):K7 x=((JO x)∧(((bNot (Ga x))=true→True)∧((bNot (Ga x))=false→((LoopOk (IB x) (JE x) (Nk x) ([],0))∧((JL x.1)∧((((List.length (Hz x.1))+(List.length [(58:UInt8)]))≤9223372036854775807)∧((NI ((AF (IB x) (JE x) ([],0)).1,[(44:UInt8)]))∧(((List.length (sAdd (Hz x.1) [(58:UInt8)]))+(List.length (Lm ((AF (IB x) (JE x) ([],0)).1,[(44:UInt8)]))))≤9223372036854775807)))))))):=(Fk.o x).trans (by kernel_rfl)
attribute [irreducible] Be JM JV NK B1 Lk DB JK Lo NH Ed K9 Lp NG Hz JL Lm NI Lc K7
end
section
set_option maxRecDepth 100000
def JJ(x:Int×List (Int))(x0:Int):Bool:=(bAnd (iLt x0 (lLen x.2)) (bNot (bOr (bNot (Dl ((lGet x.2 (iNat x0) 0),1,56))) (bAnd (iGt x0 0) (iGe (lGet x.2 (iNat (iSub .i64 x0 1)) 0) (lGet x.2 (iNat x0) 0))))))
def Lh(x0:Int):Int:=(iAdd .i64 x0 1)
def Qa(x:Int×List (Int))(x0:Int):Prop:=(((iLt x0 (lLen x.2))=true→((((0:Int)≤x0)∧(x0<(((List.length x.2):Int))))∧(((iNat x0)<(List.length x.2))∧((IG ((lGet x.2 (iNat x0) 0),1,56))∧(((bNot (Dl ((lGet x.2 (iNat x0) 0),1,56)))=true→True)∧((bNot (Dl ((lGet x.2 (iNat x0) 0),1,56)))=false→(((iGt x0 0)=true→((((0:Int)≤(iSub .i64 x0 1))∧((iSub .i64 x0 1)<(((List.length x.2):Int))))∧(((iNat (iSub .i64 x0 1))<(List.length x.2))∧((((0:Int)≤x0)∧(x0<(((List.length x.2):Int))))∧((iNat x0)<(List.length x.2))))))∧((iGt x0 0)=false→True))))))))∧((iLt x0 (lLen x.2))=false→True))
theorem ZY (x):DE x=(bAnd (bNot (iLt (AF (JJ x) Lh 0) (lLen x.2))) (Dl (x.1,0,15))):=(GS.v x).trans (by kernel_rfl)
theorem aG (x):Ll x=((LoopOk (JJ x) Lh (Qa x) 0)∧(((iLt (AF (JJ x) Lh 0) (lLen x.2))=true→True)∧((iLt (AF (JJ x) Lh 0) (lLen x.2))=false→(IG (x.1,0,15))))):=(GS.o x).trans (by kernel_rfl)
def Nu(x:Int×List (Int))(x0:Int):Bool:=(bAnd (iLt x0 (lLen x.2)) (bNot (bOr (bNot (JY (lGet x.2 (iNat x0) 0))) (bAnd (iGt x0 0) (iGe (lGet x.2 (iNat (iSub .i64 x0 1)) 0) (lGet x.2 (iNat x0) 0))))))
def Qb(x0:Int):Int:=(iAdd .i64 x0 1)
def P9(x:Int×List (Int))(x0:Int):Prop:=(((iLt x0 (lLen x.2))=true→((((0:Int)≤x0)∧(x0<(((List.length x.2):Int))))∧(((iNat x0)<(List.length x.2))∧((NN (lGet x.2 (iNat x0) 0))∧(((bNot (JY (lGet x.2 (iNat x0) 0)))=true→True)∧((bNot (JY (lGet x.2 (iNat x0) 0)))=false→(((iGt x0 0)=true→((((0:Int)≤(iSub .i64 x0 1))∧((iSub .i64 x0 1)<(((List.length x.2):Int))))∧((iNat (iSub .i64 x0 1))<(List.length x.2))))∧((iGt x0 0)=false→True))))))))∧((iLt x0 (lLen x.2))=false→True))
theorem ZS (x):Ga x=(bAnd (bNot (bOr (iLt x.1 0) (iGt x.1 15))) (bNot (iLt (AF (Nu x) Qb 0) (lLen x.2)))):=(Fy.v x).trans (by kernel_rfl)
theorem ZX (x):JO x=(((bOr (iLt x.1 0) (iGt x.1 15))=true→True)∧((bOr (iLt x.1 0) (iGt x.1 15))=false→(LoopOk (Nu x) Qb (P9 x) 0))):=(Fy.o x).trans (by kernel_rfl)
attribute [irreducible] DE Ll Ga JO
end
section
set_option maxRecDepth 100000
theorem cY (x):LG x=(iAnd .i64 (iShr .i64 x.1 x.2) 1):=(G2.v x).trans (by kernel_rfl)
theorem dw (x):Qv x=((0:Int)≤x.2):=(G2.o x).trans (by kernel_rfl)
attribute [irreducible] LG Qv
end
section
set_option maxRecDepth 100000
theorem Lt (x):Dl x=(bAnd (iGe x.1 x.2.1) (iLe x.1 x.2.2)):=(C6.v x).trans (by kernel_rfl)
theorem NY (x):IG x=True:=(C6.o x).trans (by kernel_rfl)
theorem aY (x):JY x=(bAnd (iGe x 1) (iLe x 56)):=(GX.v x).trans (by kernel_rfl)
theorem br (x):NN x=True:=(GX.o x).trans (by kernel_rfl)
attribute [irreducible] Dl IG JY NN
end
theorem B4(a:Bool):bNot a=!a:=by simp only[KB]
theorem BL(a b:Bool):bAnd a b=(a&&b):=by simp only[S7]
theorem Et(a b:Bool):bOr a b=(a||b):=by simp only[Ys]
theorem RV(a b:Bool):bIff a b=(a == b):=by simp only[Xw]
theorem CU{α:Type}(c:Bool)(x y:α):bSel c x y=if c=true then x else y:=by cases c<;>simp[E5,E8]
theorem Mn(a b:Int):iEq a b=decide (a=b):=by
 rw[PI];by_cases h:a=b<;>simp[h]
theorem E9(a b:Int):iNe a b=!decide (a=b):=by
 rw[Yo];by_cases h:a=b<;>simp[h]
theorem Bf(a b:Int):iLt a b=decide (a<b):=by simp only[Yg]
theorem D9(a b:Int):iLe a b=decide (a≤b):=by simp only[Yw]
theorem FP(a b:Int):iGt a b=decide (b<a):=by simp only[Yq]
theorem E2(a b:Int):iGe a b=decide (b≤a):=by simp only[Yj]
theorem Pm(a b:List UInt8):sEq a b=(a == b):=by simp only[Ym]
theorem SY(a b:List UInt8):sNe a b=!(a == b):=by simp only[Yu]
section
variable {α:Type}
theorem AP(l:List α):lLen l=(l.length:Int):=by simp only[S9]
theorem Gx(l:List α):lN l=l.length:=by simp only[M3]
theorem B3(l:List α)(j:Nat)(d:α):lGet l j d=l.getD j d:=by simp only[Kx]
theorem HS(l:List α)(j:Nat)(x:α):lSet l j x=l.set j x:=by simp only[Mk]
theorem Eo(l:List α)(a b:Nat):lSub l a b=(l.drop a).take (b-a):=by simp only[S6]
theorem DH(l m:List α):lApp l m=l++m:=by simp only[Jf]
theorem HZ(n:Int)(x:α):lRep n x=List.replicate n.toNat x:=by simp only[X7]
theorem Bu(a:Int):iNat a=a.toNat:=by simp only[Tc]
theorem RY(a b:List UInt8):sAdd a b=a++b:=by simp only[XD]
end
def BD(n:Int):Prop:=-9223372036854775808≤n∧n≤9223372036854775807
theorem wrap_i64{n:Int}(h:BD n):IntKind.i64.wrap n=n:=by
 obtain⟨h1,h2⟩:=h;show (if decide (n % 18446744073709551616≥9223372036854775808)=true then n % 18446744073709551616-18446744073709551616 else n % 18446744073709551616)=n;simp only[B7];split<;>omega
theorem Ck{a b:Int}(h:BD (a+b)):iAdd .i64 a b=a+b:=by rw[SD];exact wrap_i64 h
theorem EP{a b:Int}(h:BD (a-b)):iSub .i64 a b=a-b:=by rw[XH];exact wrap_i64 h
theorem HH{a b:Int}(h:BD (a*b)):iMul .i64 a b=a*b:=by rw[Xz];exact wrap_i64 h
theorem e8{a:Int}(h:BD a):iConv .i64 a=a:=by rw[R6];exact wrap_i64 h
theorem HN{a b:Int}(ha:0≤a)(h:BD (a / b)):iQuo .i64 a b=a / b:=by
 rw[X6];rw[Int.tdiv_eq_ediv_of_nonneg ha];exact wrap_i64 h
theorem HU{a b:Int}(ha:0≤a):iRem a b=a % b:=by rw[Sy];exact Int.tmod_eq_emod_of_nonneg ha
section
variable {X:Type} {c:X→Bool} {f:X→X} {p:X→Prop}
theorem RM(I:X→Prop)(m:X→Nat)(h:∀ x,I x→p x∧(c x=true→I (f x)∧m (f x)<m x)){x0:X}(h0:I x0) :
 LoopOk c f p x0∧I (AF c f x0)∧c (AF c f x0)=false:=by
 have go:∀ (n:Nat) (x:X),m x<n→I x→∃ y,LoopTo c f p x y∧I y∧c y=false:=by
  intro n
  induction n with
  |zero=>intro x hm;exact absurd hm (Sv _)
  | succ n ih=>
    intro x hm hI;obtain⟨h1,h2⟩:=h x hI
    cases hc:c x with
    |false=>exact⟨x,.stop h1 hc,hI,hc⟩
    | true=>
      obtain⟨h3,h4⟩:=h2 hc;obtain⟨y,h5,h6,h7⟩:=ih (f x) (by omega) h3;exact⟨y,.go h1 hc h5,h6,h7⟩
 obtain⟨y,h1,h2,h3⟩:=go _ x0 (SG _) h0
 rw[h1.val]
 exact⟨⟨y,h1⟩,h2,h3⟩
theorem FC(n:Nat)(st:Nat→X){x0:X}(h0:st 0=x0)(hs:∀ k,k<n→p (st k)∧c (st k)=true∧f (st k)=st (k+1))(he:p (st n)∧c (st n)=false):LoopOk c f p x0∧AF c f x0=st n:=by
 have go:∀ k,k≤n→LoopTo c f p (st (n-k)) (st n):=by
  intro k
  induction k with
  |zero=>intro _;exact .stop he.1 he.2
  | succ k ih=>
    intro hk;obtain⟨h1,h2,h3⟩:=hs (n-(k+1)) (by omega);refine .go h1 h2 ?_;rw[h3,show n-(k+1)+1=n-k by omega];exact ih (by omega)
 have:=go n (AA _);rw[My,h0] at this;exact⟨⟨_,this⟩,this.val⟩
end
def CW(t:Nat→Bool):Nat→Nat→Nat
 |0,i=>i
 |k+1,i=>if t i then i else CW t k (i+1)
theorem J4(t:Nat→Bool):∀ k i,i≤CW t k i∧CW t k i≤i+k
 |0,i=>⟨AA _,AA _⟩
 | k+1,i=>by
   unfold CW
   split
   · omega
   · have:=J4 t k (i+1);omega
theorem Oa(t:Nat→Bool):∀ k i,CW t k i<i+k→t (CW t k i)=true
 |0,i,h=>by unfold CW at h;omega
 | k + 1,i,h=>by
   unfold CW at h ⊢
   split
   · rename_i ht;exact ht
   · rename_i ht
     rw[Ad ht] at h
     exact Oa t k (i+1) (by omega)
theorem QC(t:Nat→Bool):∀ k i j,i≤j→j<CW t k i→t j=false
 |0,i,j,h,h'=>by unfold CW at h';omega
 | k + 1,i,j,h,h'=>by
   unfold CW at h'
   split at h'
   · omega
   · rename_i ht
     by_cases hj:j=i
     · subst hj;simpa using ht
     · exact QC t k (i+1) j (by omega) h'
theorem QZ{c:Int→Bool}{f:Int→Int}{p:Int→Prop}(n:Nat)(t:Nat→Bool)(hn:(n:Int)≤9223372036854775806)(hc:∀ i:Nat,i≤n→c i=(decide (i<n)&&!t i))(hf:∀ i:Nat,i<n→f i=iAdd .i64 i 1)(hp:∀ i:Nat,i≤n→p i) :
 LoopOk c f p 0∧AF c f 0=(CW t n 0:Nat):=by
 have hle:=J4 t n 0
 refine FC (CW t n 0) (fun k=>(k:Int)) rfl (fun k hk=>?_) ⟨hp _ (by omega),?_⟩
 · have hk':k<n:=by omega
   refine⟨hp k (by omega),?_,?_⟩
   · rw[hc k (by omega),QC t n 0 k (by omega) hk];simp[hk']
   · rw[hf k hk',Ck (by unfold BD;omega)];omega
 · rw[hc _ (by omega)]
   by_cases h:CW t n 0<n
   · rw[Oa t n 0 (by omega)];simp
   · simp[h]
theorem Qu{t:Nat→Bool}{n:Nat}:CW t n 0=n↔∀ i,i<n→t i=false:=by
 constructor
 · intro h i hi;exact QC t n 0 i (by omega) (by omega)
 · intro h;have hle:=J4 t n 0;rcases A3 (CW t n 0) n with h1|h1
   · have:=Oa t n 0 (by omega);rw[h _ h1] at this;cases this
   · omega
theorem Xj{α:Type}{c:Int→Bool}{f:Int→Int}{p:Int→Prop}(a b:List α)(d:α)(ne:Nat→Bool)(hl:a.length=b.length)(hne:∀ i,i<a.length→(ne i=false↔a.getD i d=b.getD i d))(hn:(a.length:Int)≤9223372036854775806)(hc:∀ i:Nat,i≤a.length→c i=(decide (i<a.length)&&!ne i))(hf:∀ i:Nat,i<a.length→f i=iAdd .i64 i 1)(hp:∀ i:Nat,i≤a.length→p i) :
 LoopOk c f p 0∧(AF c f 0<(a.length:Int)↔a≠b):=by
 obtain⟨h1,h2⟩:=QZ a.length ne hn hc hf hp
 refine⟨h1,?_⟩
 rw[h2]
 have hle:=J4 ne a.length 0
 constructor
 · intro h hab
   subst hab;have:=Oa ne a.length 0 (by omega);rw[(hne _ (by omega)).2 rfl] at this;cases this
 · intro h
   rcases A3 (CW ne a.length 0) a.length with h3|h3
   · omega
   · exfalso;apply h
     have h4:CW ne a.length 0=a.length:=by omega
     rw[Qu] at h4
     refine SI hl fun i hi hi'=>?_
     have:=(hne i hi).1 (h4 i hi);rw[Cw,Cw,Ar hi,Ar hi'] at this;simpa using this
theorem mA{α:Type}{c:Int→Bool}{f:Int→Int}{p:Int→Prop}(a b:List α)(d:α)(ne:Nat→Bool)(hl:a.length=b.length)(hne:∀ i,i<a.length→(ne i=false↔a.getD i d=b.getD i d))(hn:(a.length:Int)≤9223372036854775806)(hc:∀ i:Nat,i≤a.length→c i=(decide (i<a.length)&&!ne i))(hf:∀ i:Nat,i<a.length→f i=iAdd .i64 i 1)(hp:∀ i:Nat,i≤a.length→p i):LoopOk c f p 0:=(Xj a b d ne hl hne hn hc hf hp).1
theorem nA{α:Type}{c:Int→Bool}{f:Int→Int}(a b:List α)(d:α)(ne:Nat→Bool)(hl:a.length=b.length)(hne:∀ i,i<a.length→(ne i=false↔a.getD i d=b.getD i d))(hn:(a.length:Int)≤9223372036854775806)(hc:∀ i:Nat,i≤a.length→c i=(decide (i<a.length)&&!ne i))(hf:∀ i:Nat,i<a.length→f i=iAdd .i64 i 1):AF c f 0<(a.length:Int)↔a≠b:=(Xj (p:=fun _=>True) a b d ne hl hne hn hc hf (fun _ _=>trivial)).2
theorem Rk{α:Type}(x:List α)(i:Nat)(d:α)(h:i<x.length):x.getD i d∈x:=by
 rw[Cw,Ar h];exact CY h
theorem W5(a b c:Int):Dl (a,b,c)=(decide (b≤a)&&decide (a≤c)):=by rw[Lt];simp only[BL,E2,D9]
theorem L3 (x):IG x:=by rw[NY];trivial
theorem fY(n:Int):JY n=(decide (1≤n)&&decide (n≤56)):=by rw[aY];simp only[BL,E2,D9]
theorem Oz (x):NN x:=by rw[br];trivial
section
set_option maxRecDepth 100000
theorem Z9 (x):Ln x=(bSel (iLt (AF (fun(x0:(Int×Int))=>(bAnd (iLt x0.2 (lLen x.1)) (bNot (iNe (lGet x.1 (iNat x0.2) 0) x0.1)))) (fun(x0:(Int×Int))=>((iAdd .i64 x0.1 1),(iAdd .i64 x0.2 1))) (x.2,0)).2 (lLen x.1)) (-1) (AF (fun(x0:(Int×Int))=>(bAnd (iLt x0.2 (lLen x.1)) (bNot (iNe (lGet x.1 (iNat x0.2) 0) x0.1)))) (fun(x0:(Int×Int))=>((iAdd .i64 x0.1 1),(iAdd .i64 x0.2 1))) (x.2,0)).1):=(GQ.v x).trans (by kernel_rfl)
theorem ZU (x):NC x=(LoopOk (fun(x0:(Int×Int))=>(bAnd (iLt x0.2 (lLen x.1)) (bNot (iNe (lGet x.1 (iNat x0.2) 0) x0.1)))) (fun(x0:(Int×Int))=>((iAdd .i64 x0.1 1),(iAdd .i64 x0.2 1))) (fun(x0:(Int×Int))=>(((iLt x0.2 (lLen x.1))=true→((((0:Int)≤x0.2)∧(x0.2<(((List.length x.1):Int))))∧((iNat x0.2)<(List.length x.1))))∧((iLt x0.2 (lLen x.1))=false→True))) (x.2,0)):=(GQ.o x).trans (by kernel_rfl)
theorem Zl (x):Fo x=(bSel (iLt (Ln (x.1.2,x.2)) 0) (-1) (Ln (x.1.2,x.2))):=(Fm.v x).trans (by kernel_rfl)
theorem Zt (x):Lf x=(NC (x.1.2,x.2)):=(Fm.o x).trans (by kernel_rfl)
attribute [irreducible] Ln NC Fo Lf
end
section
set_option maxRecDepth 100000
theorem bp (x):NR x=(bAnd (bNot (iNe (lLen x.1) (lLen x.2))) (bNot (iLt (AF (fun(x0:Int)=>(bAnd (iLt x0 (lLen x.1)) (bNot (iNe (lGet x.1 (iNat x0) 0) (lGet x.2 (iNat x0) 0))))) (fun(x0:Int)=>(iAdd .i64 x0 1)) 0) (lLen x.1)))):=(GV.v x).trans (by kernel_rfl)
theorem bF (x):NQ x=(((iNe (lLen x.1) (lLen x.2))=true→True)∧((iNe (lLen x.1) (lLen x.2))=false→(LoopOk (fun(x0:Int)=>(bAnd (iLt x0 (lLen x.1)) (bNot (iNe (lGet x.1 (iNat x0) 0) (lGet x.2 (iNat x0) 0))))) (fun(x0:Int)=>(iAdd .i64 x0 1)) (fun(x0:Int)=>(((iLt x0 (lLen x.1))=true→((((0:Int)≤x0)∧(x0<(((List.length x.1):Int))))∧(((iNat x0)<(List.length x.1))∧((((0:Int)≤x0)∧(x0<(((List.length x.2):Int))))∧((iNat x0)<(List.length x.2))))))∧((iLt x0 (lLen x.1))=false→True))) 0))):=(GV.o x).trans (by kernel_rfl)
theorem ay (x):F9 x=(bAnd (bNot (iNe x.1.1 x.2.1)) (bNot (bNot (NR (x.1.2,x.2.2))))):=(Fx.v x).trans (by kernel_rfl)
theorem aE (x):JQ x=(((iNe x.1.1 x.2.1)=true→True)∧((iNe x.1.1 x.2.1)=false→(NQ (x.1.2,x.2.2)))):=(Fx.o x).trans (by kernel_rfl)
attribute [irreducible] NR NQ F9 JQ
end
def Si(x:List (Int)):Prop:=x.length≤1048576
def J9(x:Int×List (Int)):Prop:=Si x.2∧True
theorem ku(a b:List (Int))(h:Si a):NQ (a,b)∧(NR (a,b)=true↔a=b):=by
 rw[bF,bp];have h1:a.length≤1048576:=h;by_cases hl:a.length=b.length
 · refine⟨⟨fun _=>trivial,fun _=>mA a b 0 (fun i=>iNe (lGet a i 0) (lGet b i 0)) hl (fun i hi=>by simp[E9,B3]) (by omega) (fun i hi=>by simp only[BL,Bf,AP,Bu,B4,BA,Int.ofNat_lt]) (fun i hi=>rfl) (fun i hi=>?_)⟩,?_⟩
   · simp only[Bf,AP,Bu,B7,BA];exact⟨fun hh=>(by omega),fun _=>trivial⟩
   · have hv:=nA (c:=fun i:Int=>bAnd (iLt i (lLen a)) (bNot ((fun i=>iNe (lGet a i 0) (lGet b i 0)) i.toNat))) (f:=fun i=>iAdd .i64 i 1) a b 0 (fun i=>iNe (lGet a i 0) (lGet b i 0)) hl (fun i hi=>by simp[E9,B3]) (by omega) (fun i hi=>by simp only[BL,Bf,AP,B4,BA,Int.ofNat_lt]) (fun i hi=>rfl)
     have e1:bNot (iNe (lLen a) (lLen b))=true:=by rw[B4,E9,AP,AP,hl];simp
     rw[e1,BL true,Bool.true_and,B4 (iLt _ (lLen a)),Bf _ (lLen a)];simp only[← Bu,AP] at hv ⊢;simp only[Dr,CS];rw[hv];simp
 · have e1:bNot (iNe (lLen a) (lLen b))=false:=by rw[B4,E9,AP,AP];simp;omega
   refine⟨⟨fun _=>trivial,fun h=>?_⟩,?_⟩
   · rw[B4] at e1;rw[h] at e1;cases e1
   · rw[e1,BL,PK];constructor
     · intro h;cases h
     · intro e;subst e;exact absurd rfl hl
theorem VQ(a b:Int×List (Int))(h:J9 a):JQ (a,b)∧(F9 (a,b)=true↔a=b):=by
 obtain⟨a0,a1⟩:=a;obtain⟨b0,b1⟩:=b;have k0:=ku a1 b1 (by unfold J9 at h;exact h.1);rw[aE,ay];refine⟨by simp[k0.1,k0.2],?_⟩;simp only[k0.1,k0.2,B4,BL,RV,E9,Aj,Bool.not_not,B7,Ak,AO]
 try (constructor<;>intro h<;>simp_all)
end
end Go.Ag
