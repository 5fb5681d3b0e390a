/- Part 5 of what FnKeymaps needs. No conditions. -/
import Derived.WalkKit
import Derived.ProofKit
import Derived.OpenShut
import Derived.Carry
import Derived.ChangeSame
import Derived.Attr
import Derived.KernelRfl
import Derived.Below
import Derived.Lib.Join
import Derived.Lib.Split
import Derived.Lib.Bytealg
import Derived.Lib.ItoaNum
import Derived.Lib.Atoi
import Derived.Sort.Grow
import Derived.Test.YtijikmakanpmlaaGreatDoorLibD
namespace Go.Ag
set_option linter.unusedSimpArgs false
set_option linter.unusedVariables false
noncomputable section
theorem eC(d:DS)(c:Opnd)(t:Bool):ChgS d (setc d c t):=by
 cases c with
 |t g=>exact WU d g t
 |c v=>exact ChgS.refl d
theorem gx{d:DS}{s:PS}{c:Opnd}{b:Bool}(hs:ES d s)(h:c.pev s.sl= .fl (.bool b)):ES (setc d c b) s:=by
 cases c with
 |t g=>exact gP hs h
 |c v=>exact hs
theorem Hs:∀ (c:DCode) (d:DS),(dev c d).All (ChgS d)
 |.skip,d=>ChgS.refl d
 |.region ops,d=>WY ops d (ChgS.refl d)
 | .regionU ops,d=>by
   simp only[dev]
   split
   · exact WY ops d (ChgS.refl d)
   · trivial
 | .seq l a b,d=>by
   refine DT.then_all (Hs a d.clean) (fun st h=>?_) (fun st h=>h.rem)
   have h1:ChgS d (K4 d (UW l st)):=(h.trans (qz l st)).rem
   exact DT.All.imp (fun _ h2=>h1.trans h2) (Hs b _)
 | .cond c a b,d=>by
   simp only[dev]
   cases hc:c.dev d.sl with
   | bool t=>
     cases t with
     |lit t=>cases t<;>first|exact Hs a d|exact Hs b d
     |dyn t=>exact⟨DT.All.imp (fun _ h=>(eC d c true).trans h) (Hs a _),DT.All.imp (fun _ h=>(eC d c false).trans h) (Hs b _)⟩
   |_=>trivial
 |.block i a,d=>DT.unexit_all i (Hs a d)
 |.loop live n a,d=>sf (fun d=>Hs a d.clean) d
 |.exit i,d=>ChgS.refl d
 |.ret,d=>ChgS.refl d
theorem F9:∀ (c:DCode),AllD c.obs→∀ {d d':DS} {s:PS} {e:AExit} {k:FB},ES d s→(dev c d).ok.den→(dev c d).lf=some (e,d')→(∀ s',ES d' s'→k e s')→Gq c.er k s
 | .skip,_,d,d',s,e,k,hs,hok,hl,hk=>by
   simp only[dev,DT.lf,Aj,Ak] at hl
   obtain⟨rfl,rfl⟩:=hl
   exact hk s hs
 | .region ops,ho,d,d',s,e,k,hs,hok,hl,hk=>by
   have he:=iT ops hl
   subst he
   exact Yc ops ho rfl hk d s hs hok hl
 | .regionU ops,ho,d,d',s,e,k,hs,hok,hl,hk=>by
   simp only[dev] at hok hl
   split at hok
   · rename_i hp
     rw[Ab hp] at hl
     have he:=iT ops hl
     subst he
     exact⟨hp,Yc ops ho rfl hk d s hs hok hl⟩
   · exact hok.elim
 | .seq l a b,ho,d,d',s,e,k,hs,hok,hl,hk=>by
   obtain⟨h1,h2⟩:=ho.app
   obtain⟨hoa,hc⟩:=DT.then_s (Hs a d.clean) hok hl
   simp only[DCode.er,Gq]
   rcases hc with⟨st0,m,hla,hm,hch,hob,hlb⟩|⟨he,st0,hla,rfl⟩
   · refine F9 a h1 hs.clean hoa hla fun s' hs'=>?_
     exact F9 b h2 (((hm s' hs').trim l).rem) hob hlb hk
   · refine F9 a h1 hs.clean hoa hla fun s' hs'=>?_
     cases e<;>first|(cases he;done)|exact hk s' hs'.rem
 | .cond c a b,ho,d,d',s,e,k,hs,hok,hl,hk=>by
   obtain⟨h1,h2⟩:=ho.app
   have hv:=c.dev_ev hs
   simp only[dev] at hok hl
   simp only[DCode.er,Gq]
   cases hc:c.dev d.sl with
   | bool t=>
     rw[hc] at hok hl hv
     have hp:=hv.of (by simp)
     simp only[DV.enc] at hp
     rw[hp]
     simp only
     cases t with
     | lit t=>
       cases t with
       |true=>exact F9 a h1 hs hok hl hk
       |false=>exact F9 b h2 hs hok hl hk
     | dyn t=>
       have hok:=(PX.if_den _ _ _).mp hok
       cases t with
       |true=>exact F9 a h1 (gx hs hp) (hok.1 rfl) hl hk
       |false=>exact F9 b h2 (gx hs hp) (hok.2 rfl) hl hk
   |_=>rw[hc] at hok;exact hok.elim
 | .block i a,ho,d,d',s,e,k,hs,hok,hl,hk=>by
   simp only[dev,DT.unexit_ok,DT.unexit_lf] at hok hl
   obtain⟨e0,d0,h0⟩:=DT.ok_lf hok
   rw[h0] at hl
   simp only[Cc,Aj,Ak] at hl
   obtain⟨rfl,rfl⟩:=hl
   refine F9 a ho hs hok h0 fun s' hs'=>?_
   have:=hk s' hs'
   cases e0 with
   |normal=>exact this
   |ret=>exact this
   | exit j=>
     simp only[XO]
     simp only[AExit.un] at this
     split
     · rename_i hj;rw[Ab hj] at this;exact this
     · rename_i hj;rw[Ad hj] at this;exact this
 | .loop live n a,ho,d,d',s,e,k,hs,hok,hl,hk=>by
   simp only[dev] at hok hl
   exact ui (fun d=>Hs a d.clean) (fun d s e d' k hs hok hl hk=>F9 a ho hs.clean hok hl hk) hs hok hl hk
 | .exit i,_,d,d',s,e,k,hs,hok,hl,hk=>by
   simp only[dev,DT.lf,Aj,Ak] at hl
   obtain⟨rfl,rfl⟩:=hl
   exact hk s hs
 | .ret,_,d,d',s,e,k,hs,hok,hl,hk=>by
   simp only[dev,DT.lf,Aj,Ak] at hl
   obtain⟨rfl,rfl⟩:=hl
   exact hk s hs
mutual
def DV.flt:DV→Bool
 |.bool _|.int _ _|.str _|.ifc _=>true
 |.agg cs=>DV.fltL cs
 |.tup vs=>DV.fltL vs
 |_=>false
def DV.fltL:List DV→Bool
 |[]=>true
 |v::r=>v.flt&&DV.fltL r
end
mutual
theorem Xv:∀ (v:DV),v.flt=true→v.enc.flt=true
 |.bool _,_|.int _ _,_|.str _,_|.ifc _,_=>rfl
 |.agg cs,h=>Xn cs h
 |.tup cs,h=>Xn cs h
theorem Xn:∀ (l:List DV),DV.fltL l=true→PV.fltL (DV.encL l)=true
 |[],_=>rfl
 | v::r,h=>by
   simp only[DV.fltL,Ah] at h
   simp only[DV.encL,PV.fltL,Xv v h.1,Xn r h.2,CL]
end
theorem WW:∀ (l:List DV),Iw l=true→DV.okL l=true
 |[],_=>rfl
 | v::r,h=>by
   simp only[Iw,Ah] at h
   have:v.ok=true:=by cases v<;>first|rfl|(have:=h.1;cases this)
   simp only[DV.okL,this,WW r h.2,CL]
theorem EBx.segm2{a:List DC}{b:List PV}{o n:Nat}(h:EBx a b)(hl:o+n≤a.length)(hk:DV.okL (BO (Bv a) o n)=true):Go.Ag.segm b o n=DV.encL (BO (Bv a) o n)∧o+n≤b.length:=by
 rcases h with rfl|h
 · simp only[AK,Nat.le_zero_eq,Nat.add_eq_zero_iff] at hl;obtain⟨rfl,rfl⟩:=hl;refine⟨?_,HB _⟩;cases b<;>rfl
 · exact⟨h.segm o n hk,by rw[← h.len];exact hl⟩
theorem W8{st st':DS}{s:PS}{r:ARes}{v:DV}(hs:ES st s)(h:JI st r=some (v,st'))(hv:v.ok=true):∃ s',Ih s r=some (v.enc,s')∧ES st' s':=by
 cases r with
 | tmp t=>
   simp only[JI] at h;split at h
   · rename_i hc;simp only[Ah] at hc;simp only[Aj] at h
     have hk:(A7 (.t t) st).1.ok=true:=by
      have:(A7 (.t t) st).1=v:=by simp only[A7,h]
      rw[this];exact hv
     obtain⟨m1,m2⟩:=Ep (.t t) hs hk
     have hne:Bj st.sl t≠.any:=by intro e;rw[e] at hc;cases hc.2
     have hp:=(hs.sl.get t).of hne;simp only[A7,h,mvOut] at m1 m2;refine⟨(EG (Aa s.sl t) t s).2,?_,m2⟩;simp only[Ih];rw[Ab (by rw[hp];exact qD _ hc.1),← m1]
   · cases h
 | cell t n=>
   simp only[JI] at h;have hp:=hs.sl.get t
   cases hv:Bj st.sl t with
   | box i o=>
     rw[hv] at h hp;have hp:=hp.of (by simp);simp only at h;split at h
     · rename_i hc;simp only[Ah] at hc;simp only[BE] at h;obtain⟨⟨g,r⟩,h1,h2⟩:=h;simp only at h2;subst h2;obtain⟨e1,e2⟩:=(hs.bx.get i).segm2 (CC hc.1) (WW _ hc.2)
       have hg:g= .tt:=by
        unfold Mg at h1;simp only[AN] at h1;split at h1
        · simp only[BE,Ak] at h1;obtain⟨_,_,rfl,_⟩:=h1;rfl
        · cases h1
       subst hg;obtain⟨s',e3,e4⟩:=bO (p:=.box i o) hs (.inr rfl) h1;refine⟨s',?_,e4⟩;simp only[Ih,hp,DV.enc];rw[Ab ⟨e2,by rw[e1];exact TC _ hc.2⟩];exact e3
     · cases h
   | ptr i o=>
     rw[hv] at h hp;have hp:=hp.of (by simp);simp only at h;split at h
     · rename_i hc;simp only[Ah] at hc;simp only[BE] at h;obtain⟨⟨g,r⟩,h1,h2⟩:=h;simp only at h2;subst h2;obtain⟨e1,e2⟩:=(hs.hp.get i).segm2 (CC hc.1) (WW _ hc.2)
       have hg:g= .tt∧i<st.hp.length:=by
        unfold KI at h1;simp only[AN] at h1;split at h1
        · rename_i hb;simp only[Ah] at hb;simp only[BE,Ak] at h1;obtain⟨_,_,rfl,_⟩:=h1;exact⟨rfl,CC hb.1.1⟩
        · cases h1
       obtain⟨rfl,hi⟩:=hg;obtain⟨s',e3,e4⟩:=bN (p:=.ptr i o) hs (.inr rfl) h1 trivial;refine⟨s',?_,e4⟩;simp only[Ih,hp,DV.enc];rw[Ab ⟨by rw[← hs.hp.len];exact hi,e2,by rw[e1];exact TC _ hc.2⟩];exact e3
     · cases h
   |_=>rw[hv] at h;cases h
theorem WI:∀ {res:List ARes} {st st':DS} {s:PS} {vs:List DV},ES st s→Hp st res=some (vs,st')→DV.okL vs=true→∃ s',Hn s res=some (DV.encL vs,s')∧ES st' s'
 | [],st,st',s,vs,hs,h,_=>by
   simp only[Hp,Aj,Ak] at h
   obtain⟨rfl,rfl⟩:=h
   exact⟨s,rfl,hs⟩
 | r :: rs,st,st',s,vs,hs,h,hk=>by
   simp only[Hp] at h
   split at h
   · rename_i v st1 h1
     split at h
     · rename_i vs1 st2 h2
       simp only[Aj,Ak] at h
       obtain⟨rfl,rfl⟩:=h
       simp only[DV.okL,Ah] at hk
       obtain⟨s1,e1,e2⟩:=W8 hs h1 hk.1
       obtain⟨s2,e3,e4⟩:=WI e2 h2 hk.2
       exact⟨s2,by simp only[Hn,e1,e3,DV.encL],e4⟩
     · cases h
   · cases h
theorem fV:∀ {res:List ARes} {st:DS} {s:PS} {v:DV},ES st s→Gb st res=some v→v.ok=true→∃ s',Iu s res=some (v.enc,s'):=by
 have gen:∀ {res:List ARes} {st:DS} {s:PS} {v:DV},ES st s→v.ok=true→(Hp st res).map (fun x=>DV.tup x.1)=some v→∃ s',(Hn s res).map (fun(vs,st)=>(PV.tup vs,st))=some (v.enc,s'):=fun hs hv h=>by
  simp only[BE] at h;obtain⟨⟨vs,st'⟩,h1,rfl⟩:=h;obtain⟨s',e1,_⟩:=WI hs h1 hv;exact⟨s',by rw[e1];rfl⟩
 intro res st s v hs h hv
 cases res with
 |nil=>exact gen (res:=[]) hs hv h
 | cons r rs=>
   cases rs with
   | nil=>
     simp only[Gb,BE] at h;obtain⟨⟨v',st'⟩,h1,rfl⟩:=h;obtain⟨s',e1,_⟩:=W8 hs h1 hv;exact⟨s',e1⟩
   |cons r2 rs=>exact gen (res:=r::r2::rs) hs hv h
theorem Ow {res:List ARes}:∀ {t:DT} {g:PX} {v:DV},t.val res=(g,some v)→v≠.any→g.den →
 t.ok.den∧∃ e st v0,t.lf=some (e,st)∧(∀ i,e≠.exit i)∧Gb st res=some v0∧v0.ok=true∧v.enc=v0.enc
 | .leaf e st,g,v,h,hv,hg=>by
   have gen:(match Gb st res with|some v=>if (v.ok&&!v.hasPtr)=true then (PX.tt,some v) else (PX.ff,none)|none=>(PX.ff,none))=(g,some v)→Gb st res=some v∧v.ok=true:=fun h=>by
    split at h
    · split at h
      · rename_i h1 h2;simp only[Ak,Aj] at h;obtain⟨_,rfl⟩:=h;simp only[Ah] at h2;exact⟨h1,h2.1⟩
      · simp at h
    · simp at h
   cases e with
   |exit i=>simp[DT.val] at h
   |normal=>obtain⟨h1,h2⟩:=gen h;exact⟨trivial,.normal,st,v,rfl,by simp,h1,h2,rfl⟩
   |ret=>obtain⟨h1,h2⟩:=gen h;exact⟨trivial,.ret,st,v,rfl,by simp,h1,h2,rfl⟩
 | .node c a b,g,v,h,hv,hg=>by
   simp only[DT.val] at h
   have hno:∀ {t:DT} {g:PX},t.val res=(g,none)→¬ g.den:=by
    intro t
    induction t with
    | leaf e st=>
      intro g h;cases e<;>simp only[DT.val] at h<;>(repeat' split at h)<;>simp only[Ak,reduceCtorEq,and_false,NV] at h<;>subst h<;>exact id
    | node c x y ih1 ih2=>
      intro g h hg;simp only[DT.val] at h
      cases h1:x.val res with
      | mk g1 v1=>
        cases h2:y.val res with
        | mk g2 v2=>
          rw[h1,h2] at h
          cases v1 with
          | none=>
            simp only[Ak] at h;obtain⟨rfl,rfl⟩:=h;have:=(PX.if_den _ _ _).mp hg
            cases c with
            |true=>exact ih1 h1 (this.1 rfl)
            |false=>exact ih2 h2 (this.2 rfl)
          |some v1=>cases v2<;>simp at h
    | chk g0 t ih=>
      intro g h hg;simp only[DT.val] at h
      cases h1:t.val res with
      | mk g1 v1=>
        rw[h1] at h;simp only[Ak] at h;obtain⟨rfl,rfl⟩:=h;exact ih h1 ((PX.land_den _ _).mp hg).2
    | bad=>
      intro g h;simp only[DT.val,Ak,NV] at h;subst h;exact id
   cases h1:a.val res with
   | mk g1 v1=>
     cases h2:b.val res with
     | mk g2 v2=>
       rw[h1,h2] at h
       have fin:∀ (v1 v2:DV),g=PX.if' c g1 g2→a.val res=(g1,some v1)→b.val res=(g2,some v2)→v=CR c v1 v2→(DT.node c a b).ok.den∧∃ e st v0,(DT.node c a b).lf=some (e,st)∧(∀ i,e≠.exit i)∧Gb st res=some v0∧v0.ok=true∧v.enc=v0.enc:=by
        intro v1 v2 hgg h1 h2 hvv;subst hgg;have hg:=(PX.if_den _ _ _).mp hg;have he:=(UA c v1 v2).resolve_left (by rw[← hvv];exact hv);rw[← hvv] at he
        have n1:v1≠.any:=by rintro rfl;apply hv;rw[hvv];cases v2<;>rfl
        have n2:v2≠.any:=by rintro rfl;apply hv;rw[hvv];cases v1<;>rfl
        show (PX.if' c a.ok b.ok).den∧∃ e st v0,(DT.node c a b).lf=some (e,st)∧(∀ i,e≠.exit i)∧Gb st res=some v0∧v0.ok=true∧v.enc=v0.enc;rw[PX.if_den]
        cases c with
        | true=>
          obtain⟨k1,e,st,v0,k2,k3,k4,k5,k6⟩:=Ow h1 n1 (hg.1 rfl);exact⟨⟨fun _=>k1,fun h=>by cases h⟩,e,st,v0,k2,k3,k4,k5,by rw[he];exact k6⟩
        | false=>
          obtain⟨k1,e,st,v0,k2,k3,k4,k5,k6⟩:=Ow h2 n2 (hg.2 rfl);exact⟨⟨fun h=>(by cases h),fun _=>k1⟩,e,st,v0,k2,k3,k4,k5,by rw[he];exact k6⟩
       cases v1 with
       | none=>
         simp only[Ak] at h;obtain⟨rfl,rfl⟩:=h;have hg:=(PX.if_den _ _ _).mp hg;show (PX.if' c a.ok b.ok).den∧_;rw[PX.if_den]
         cases c with
         |true=>exact absurd (hg.1 rfl) (hno h1)
         | false=>
           obtain⟨k1,e,st,v0,k2,k3,k4,k5,k6⟩:=Ow h2 hv (hg.2 rfl);exact⟨⟨fun h=>(by cases h),fun _=>k1⟩,e,st,v0,k2,k3,k4,k5,k6⟩
       | some v1=>
         cases v2 with
         | none=>
           simp only[Ak,Aj] at h;obtain⟨rfl,rfl⟩:=h;have hg:=(PX.if_den _ _ _).mp hg;show (PX.if' c a.ok b.ok).den∧_;rw[PX.if_den]
           cases c with
           |false=>exact absurd (hg.2 rfl) (hno h2)
           | true=>
             obtain⟨k1,e,st,v0,k2,k3,k4,k5,k6⟩:=Ow h1 hv (hg.1 rfl);exact⟨⟨fun _=>k1,fun h=>by cases h⟩,e,st,v0,k2,k3,k4,k5,k6⟩
         | some v2=>
           simp only[Ak,Aj] at h;exact fin v1 v2 h.1.symm h1 h2 h.2.symm
 | .chk g0 t,g,v,h,hv,hg=>by
   simp only[DT.val] at h
   cases h1:t.val res with
   | mk g1 v1=>
     rw[h1] at h;simp only[Ak] at h;obtain⟨rfl,rfl⟩:=h;have hg:=(PX.land_den _ _).mp hg;obtain⟨k1,k2⟩:=Ow h1 hv hg.2;exact⟨(PX.land_den _ _).mpr ⟨hg.1,k1⟩,k2⟩
 |.bad,g,v,h,hv,hg=>by simp[DT.val] at h
theorem EL.append:∀ {a:List DC} {b:List PV} {c:List DC} {d:List PV},EL a b→EL c d→EL (a++c) (b++d)
 |[],[],_,_,_,h=>h
 |_::_,_::_,_,_,h,h'=>⟨h.1,EL.append h.2 h'⟩
theorem PU:∀ (n:Nat),EL (F1 n) (HH n)
 |0=>trivial
 |n+1=>⟨.inl rfl,PU n⟩
theorem P5:∀ (n:Nat),EB (F3 n) (JO n)
 |0=>trivial
 |n+1=>⟨.inl rfl,P5 n⟩
theorem qc {f:DFun} (ho:AllD f.body.obs) {args:List DV} {g:PX} {v:DV} (h:Rg f args=(g,some v)) (hg:g.den) (hv:v≠.any) (hl:args.length=f.nparams) (hp:f.pure=true→v.flt=true)
 {Q:PV→List (List PV)→Prop} (hQ:∀ H,Q v.enc H):DA f.er (DV.encL args) [] Q:=by
 unfold Rg at h
 obtain⟨hok,e,st,v0,h1,h2,h3,h4,h5⟩:=Ow h hv hg
 refine⟨by rw[Es];exact hl,fun _=>rfl,?_⟩
 refine F9 f.body ho (d:=⟨news args++F1 (f.nslots-f.nparams),F3 f.nbox,[]⟩) ⟨(EL.news args).append (PU _),P5 _,trivial⟩ hok h1 fun s' hs'=>?_
 obtain⟨s2,e2⟩:=fV hs' h3 h4
 rw[← h5] at e2
 have fin:(match Iu s' f.res with|some (v,st)=>if f.pure=true then v.flt=true∧Q v [] else Q v st.hp|none=>False):=by
  rw[e2];simp only;split
  · rename_i hpu;exact⟨Xv v (hp hpu),hQ _⟩
  · exact hQ _
 cases e with
 |normal=>exact fin
 |ret=>exact fin
 |exit i=>exact absurd rfl (h2 i)
def TuX:List HT→Type
 |[]=>Unit
 |[a]=>a.D
 |a::r=>a.D×TuX r
def Fe:(l:List HT)→List DV→Option (TuX l)
 |[],[]=>some ()
 |[a],[v]=>a.of v
 | a::b::r,v::vs=>(match a.of v,Fe (b::r) vs with
   |some x,some y=>some (x,y)
   |_,_=>none)
 |_,_=>none
def C5:(l:List HT)→TuX l→List DV
 |[],_=>[]
 |[a],x=>[a.dv x]
 |a::b::r,x=>a.dv x.1::C5 (b::r) x.2
inductive QT where
 |one (h:HT)|tup (l:List HT)
def QT.D:QT→Type
 |.one h=>h.D
 |.tup l=>TuX l
def QT.of:(q:QT)→DV→Option q.D
 |.one h,v=>h.of v
 |.tup l,.tup vs=>Fe l vs
 |.tup _,_=>none
def QT.dv:(q:QT)→q.D→DV
 |.one h,x=>h.dv x
 |.tup l,x=>.tup (C5 l x)
def QT.ofO(q:QT):Option DV→Option q.D
 |some v=>q.of v
 |none=>none
def UH:(l:List (Ql×CT))→AgX l
 |[]=>()
 |[a]=>a.2.dflt
 |a::b::r=>(a.2.dflt,UH (b::r))
def HT.dflt:(h:HT)→h.D
 |.one _ t=>t.dflt
 |.agg l=>UH l
def hJ:(l:List HT)→TuX l
 |[]=>()
 |[a]=>a.dflt
 |a::b::r=>(a.dflt,hJ (b::r))
def QT.dflt:(q:QT)→q.D
 |.one h=>h.dflt
 |.tup l=>hJ l
def HT.flt:HT→Bool
 |.one _ t=>t.flat
 |.agg l=>l.all fun a=>a.2.flat
def QT.flt:QT→Bool
 |.one h=>h.flt
 |.tup l=>l.all HT.flt
theorem Oo:∀ {l:List HT} {vs:List DV} {x:TuX l},Fe l vs=some x→DV.encL (C5 l x)=DV.encL vs
 |[],[],_,_=>rfl
 | [a],[v],x,h=>by
   show [(a.dv x).enc]=[v.enc]
   rw[(Q1 (t:=a) h).1]
 | a :: b::r,v::vs,x,h=>by
   have h':(match a.of v,Fe (b::r) vs with|some x,some y=>some (x,y)|_,_=>none)=some x:=h
   clear h
   cases h1:a.of v with
   |none=>rw[h1] at h';cases h'
   | some p=>
     cases h2:Fe (b::r) vs with
     |none=>rw[h1,h2] at h';cases h'
     | some q=>
       rw[h1,h2] at h'
       have h':=Cx h'
       subst h'
       show (a.dv p).enc::DV.encL (C5 (b::r) q)=v.enc::DV.encL vs
       rw[(Q1 h1).1,Oo h2]
theorem Za{q:QT}{v:DV}{x:q.D}(h:q.of v=some x):(q.dv x).enc=v.enc∧v≠.any:=by
 cases q with
 |one t=>exact Q1 (t:=t) h
 | tup l=>
   cases v<;>try (cases h;done)
   rename_i cs;refine⟨?_,by simp⟩;show PV.tup _=PV.tup _;rw[Oo (l:=l) h]
theorem NQ:∀ (l:List HT) (x:TuX l),(C5 l x).length=l.length
 |[],_=>rfl
 |[_],_=>rfl
 | a::b::r,x=>by
   show (C5 (b::r) x.2).length+1=(b::r).length+1
   rw[NQ (b::r) x.2]
theorem Ye{q:Ql}{t:CT}{v:DV}{x:t.D}(hf:t.flat=true)(h:t.ofQ q v=some x):v.flt=true:=by
 cases t<;>first|(cases hf;done)|skip
 all_goals (cases v<;>first|rfl|(cases h;done))
theorem ia:∀ {l:List (Ql×CT)} {vs:List DV} {x:AgX l},l.all (fun a=>a.2.flat)=true→Ez l vs=some x→DV.fltL vs=true
 |[],[],_,_,_=>rfl
 | [a],[v],x,hf,h=>by
   simp only[Fx,List.all_nil,KU] at hf
   simp only[DV.fltL,Ye (q:=a.1) hf h,CL]
 | a :: b::r,v::vs,x,hf,h=>by
   have h':(match a.2.ofQ a.1 v,Ez (b::r) vs with|some x,some y=>some (x,y)|_,_=>none)=some x:=h
   clear h
   rw[Fx,Ah] at hf
   cases h1:a.2.ofQ a.1 v with
   |none=>rw[h1] at h';cases h'
   | some p=>
     cases h2:Ez (b::r) vs with
     |none=>rw[h1,h2] at h';cases h'
     |some q=>simp only[DV.fltL,Ye hf.1 h1,ia hf.2 h2,CL]
theorem YA{t:HT}{v:DV}{x:t.D}(hf:t.flt=true)(h:t.of v=some x):v.flt=true:=by
 cases t with
 |one q t=>exact Ye (q:=q) (t:=t) hf h
 | agg l=>
   cases v<;>try (cases h;done)
   exact ia (l:=l) hf h
theorem iM:∀ {l:List HT} {vs:List DV} {x:TuX l},l.all HT.flt=true→Fe l vs=some x→DV.fltL vs=true
 |[],[],_,_,_=>rfl
 | [a],[v],x,hf,h=>by
   simp only[Fx,List.all_nil,KU] at hf
   simp only[DV.fltL,YA (t:=a) hf h,CL]
 | a :: b::r,v::vs,x,hf,h=>by
   have h':(match a.of v,Fe (b::r) vs with|some x,some y=>some (x,y)|_,_=>none)=some x:=h
   clear h
   rw[Fx,Ah] at hf
   cases h1:a.of v with
   |none=>rw[h1] at h';cases h'
   | some p=>
     cases h2:Fe (b::r) vs with
     |none=>rw[h1,h2] at h';cases h'
     |some q=>simp only[DV.fltL,YA hf.1 h1,iM hf.2 h2,CL]
theorem gZ{q:QT}{v:DV}{x:q.D}(hf:q.flt=true)(h:q.of v=some x):v.flt=true:=by
 cases q with
 |one t=>exact YA (t:=t) hf h
 | tup l=>
   cases v<;>try (cases h;done)
   exact iM (l:=l) hf h
def Ij(hs:List HT)(q:QT)(ok:TuX hs→Prop)(v:TuX hs→q.D):FE:=fun args=>match Fe hs args with
 |some x=>some (.p (ok x),q.dv (v x))
 |none=>none
def DT.valQ(q:QT)(res:List ARes):DT→PX×Option q.D
 |.leaf (.exit _) _=>(.ff,none)
 | .leaf _ st=>(match Gb st res with
   | some v=>if v.ok&&!v.hasPtr then (match q.of v with
     |some y=>(.tt,some y)
     |none=>(.ff,none)) else (.ff,none)
   |none=>(.ff,none))
 | .node c a b=>(match a.valQ q res,b.valQ q res with
   |(g,none),(g',y)=>(PX.if' c g g',y)
   |(g,x),(g',none)=>(PX.if' c g g',x)
   |(g,some x),(g',some y)=>(PX.if' c g g',some (bSel c x y)))
 | .chk g t=>(match t.valQ q res with
   |(g',v)=>(g.land g',v))
 |.bad=>(.ff,none)
theorem PG{q:QT}{res:List ARes}:∀ {t:DT} {g:PX},t.valQ q res=(g,none)→¬ g.den
 | .leaf e st,g,h=>by
   cases e<;>simp only[DT.valQ] at h<;>(repeat' split at h)<;>simp only[Ak,reduceCtorEq,and_false,NV] at h<;>subst h<;>exact id
 | .node c x y,g,h=>by
   intro hg
   simp only[DT.valQ] at h
   cases h1:x.valQ q res with
   | mk g1 v1=>
     cases h2:y.valQ q res with
     | mk g2 v2=>
       rw[h1,h2] at h
       cases v1 with
       | none=>
         simp only[Ak] at h
         obtain⟨rfl,rfl⟩:=h
         have:=(PX.if_den _ _ _).mp hg
         cases c with
         |true=>exact PG h1 (this.1 rfl)
         |false=>exact PG h2 (this.2 rfl)
       |some v1=>cases v2<;>simp at h
 | .chk g0 t,g,h=>by
   intro hg
   simp only[DT.valQ] at h
   cases h1:t.valQ q res with
   | mk g1 v1=>
     rw[h1] at h
     simp only[Ak] at h
     obtain⟨rfl,rfl⟩:=h
     exact PG h1 ((PX.land_den _ _).mp hg).2
 | .bad,g,h=>by
   simp only[DT.valQ,Ak,NV] at h
   subst h;exact id
theorem Ui{q:QT}{res:List ARes}:∀ {t:DT} {g:PX} {y:q.D},t.valQ q res=(g,some y)→g.den →
 t.ok.den∧∃ e st v0,t.lf=some (e,st)∧(∀ i,e≠.exit i)∧Gb st res=some v0∧v0.ok=true∧q.of v0=some y
 | .leaf e st,g,y,h,hg=>by
   have gen:(match Gb st res with|some v=>if (v.ok&&!v.hasPtr)=true then (match q.of v with|some y=>(PX.tt,some y)|none=>(PX.ff,none)) else (PX.ff,none)|none=>(PX.ff,none))=(g,some y)→∃ v,Gb st res=some v∧v.ok=true∧q.of v=some y:=fun h=>by
    split at h
    · rename_i v hv;split at h
      · rename_i hc;simp only[Ah] at hc;split at h
        · rename_i y' hy;simp only[Ak,Aj] at h;obtain⟨_,rfl⟩:=h;exact⟨v,hv,hc.1,hy⟩
        · simp at h
      · simp at h
    · simp at h
   cases e with
   |exit i=>simp[DT.valQ] at h
   |normal=>obtain⟨v,h1,h2,h3⟩:=gen h;exact⟨trivial,.normal,st,v,rfl,by simp,h1,h2,h3⟩
   |ret=>obtain⟨v,h1,h2,h3⟩:=gen h;exact⟨trivial,.ret,st,v,rfl,by simp,h1,h2,h3⟩
 | .node c a b,g,y,h,hg=>by
   simp only[DT.valQ] at h;show (PX.if' c a.ok b.ok).den∧∃ e st v0,(DT.node c a b).lf=some (e,st)∧(∀ i,e≠.exit i)∧Gb st res=some v0∧v0.ok=true∧q.of v0=some y;rw[PX.if_den]
   cases h1:a.valQ q res with
   | mk g1 v1=>
     cases h2:b.valQ q res with
     | mk g2 v2=>
       rw[h1,h2] at h
       have hgg:g=PX.if' c g1 g2:=by
        cases v1<;>cases v2<;>simp only[Ak] at h<;>exact h.1.symm
       subst hgg;have hg:=(PX.if_den _ _ _).mp hg
       cases c with
       | true=>
         have:v1=some y:=by
          cases v1 with
          |none=>exact absurd (hg.1 rfl) (PG h1)
          |some v1=>cases v2<;>simp only[Ak,Bg] at h<;>exact h.2
         subst this;obtain⟨k1,k2⟩:=Ui h1 (hg.1 rfl);exact⟨⟨fun _=>k1,fun h=>by cases h⟩,k2⟩
       | false=>
         have:v2=some y:=by
          cases v2 with
          |none=>exact absurd (hg.2 rfl) (PG h2)
          |some v2=>cases v1<;>simp only[Ak,AY] at h<;>exact h.2
         subst this;obtain⟨k1,k2⟩:=Ui h2 (hg.2 rfl);exact⟨⟨fun h=>(by cases h),fun _=>k1⟩,k2⟩
 | .chk g0 t,g,y,h,hg=>by
   simp only[DT.valQ] at h
   cases h1:t.valQ q res with
   | mk g1 v1=>
     rw[h1] at h;simp only[Ak] at h;obtain⟨rfl,rfl⟩:=h;have hg:=(PX.land_den _ _).mp hg;obtain⟨k1,k2⟩:=Ui h1 hg.2;exact⟨(PX.land_den _ _).mpr ⟨hg.1,k1⟩,k2⟩
 |.bad,g,y,h,hg=>by simp[DT.valQ] at h
def QT.isB:QT→Bool
 |.one (.one _ .bool)=>true
 |_=>false
def Ri(f:DFun)(hs:List HT)(q:QT)(x:TuX hs):PX×Option q.D:=
 if q.isB then ((Rg f (C5 hs x)).1,q.ofO (Rg f (C5 hs x)).2)
 else (dev f.body ⟨news (C5 hs x)++F1 (f.nslots-f.nparams),F3 f.nbox,[]⟩).valQ q f.res
def MI(f:DFun)(hs:List HT)(q:QT)(x:TuX hs):q.D:=(Ri f hs q x).2.getD q.dflt
def Mx(f:DFun)(hs:List HT)(q:QT)(x:TuX hs):Prop:=(Ri f hs q x).1.den
def Ox(f:DFun)(hs:List HT)(q:QT)(x:TuX hs):Bool:=(Ri f hs q x).2.isSome
def OB(f:DFun)(hs:List HT)(q:QT):Bool:=hs.length == f.nparams&&(!f.pure||q.flt)
theorem eJ {f:DFun} {hs:List HT} {q:QT} (ho:AllD f.body.obs) (hst:OB f hs q=true) (x:TuX hs) (hc:Ox f hs q x=true) (hok:Mx f hs q x)
 {Q:PV→List (List PV)→Prop} (hQ:∀ H,Q (q.dv (MI f hs q x)).enc H):DA f.er (DV.encL (C5 hs x)) [] Q:=by
 simp only[OB,Ah,AW,Cg,Cz] at hst
 unfold Ox at hc
 unfold MI at hQ
 unfold Mx at hok
 unfold Ri at hc hQ hok
 by_cases hb:q.isB=true
 · rw[Ab hb] at hc hQ hok
   cases hd:Rg f (C5 hs x) with
   | mk g o=>
     rw[hd] at hc hQ hok
     cases o with
     |none=>cases hc
     | some w=>
       obtain⟨y,hy⟩:=Option.isSome_iff_exists.mp hc;rw[hy] at hQ;have hy:q.of w=some y:=hy;obtain⟨h1,h2⟩:=Za hy
       refine qc ho hd hok h2 (by rw[NQ];exact hst.1) (fun hp=>gZ (by simpa [hp] using hst.2) hy) fun H=>?_
       have:=hQ H;rw[Dy,h1] at this;exact this
 · rw[Ad hb] at hc hQ hok
   cases hd:(dev f.body ⟨news (C5 hs x)++F1 (f.nslots-f.nparams),F3 f.nbox,[]⟩).valQ q f.res with
   | mk g o=>
     rw[hd] at hc hQ hok
     cases o with
     |none=>cases hc
     | some y=>
       simp only[Dy] at hQ;obtain⟨k1,e,st,v0,k2,k3,k4,k5,k6⟩:=Ui hd hok;obtain⟨h1,h2⟩:=Za k6;refine⟨by rw[Es,NQ];exact hst.1,fun _=>rfl,?_⟩
       refine F9 f.body ho (d:=⟨news (C5 hs x)++F1 (f.nslots-f.nparams),F3 f.nbox,[]⟩) ⟨(EL.news _).append (PU _),P5 _,trivial⟩ k1 k2 fun s' hs'=>?_
       obtain⟨s2,e2⟩:=fV hs' k4 k5;rw[← h1] at e2
       have fin:(match Iu s' f.res with|some (v,st)=>if f.pure=true then v.flt=true∧Q v [] else Q v st.hp|none=>False):=by
        rw[e2];simp only;split
        · rename_i hpu;exact⟨by rw[h1];exact Xv _ (gZ (by simpa [hpu] using hst.2) k6),hQ _⟩
        · exact hQ _
       cases e with
       |normal=>exact fin
       |ret=>exact fin
       |exit i=>exact absurd rfl (k3 i)
theorem qQ{f:DFun}{hs:List HT}{q:QT}(ho:AllD f.body.obs)(hst:OB f hs q=true)(hc:∀ x,Ox f hs q x=true){ok:TuX hs→Prop}{v:TuX hs→q.D}(hok:∀ x,ok x→Mx f hs q x)(hv:∀ x,MI f hs q x=v x) :
 Il (DA f.er) (Ij hs q ok v):=by
 intro args g w Q h hg hQ
 unfold Ij at h
 cases hx:Fe hs args with
 |none=>rw[hx] at h;cases h
 | some x=>
   rw[hx] at h;simp only[Aj,Ak] at h;obtain⟨rfl,rfl⟩:=h;rw[← Oo hx]
   exact eJ ho hst x (hc x) (hok x hg) fun H=>by rw[hv];exact hQ H
attribute [irreducible] Ri MI Mx Ox OB
def Gj:List (Ql×CT)→List (Ql×CT)
 |[]=>[]
 |(.frz,_)::r=>Gj r
 |a::r=>a::Gj r
def HL:List (Ql×CT)→List DV→List DV
 |[],_=>[]
 |(.frz,_)::r,vs=>.any::HL r vs
 |_::r,v::vs=>v::HL r vs
 |_::r,[]=>.any::HL r []
def Mq:List (Ql×CT)→List DC→Option (List DV)
 |[],[]=>some []
 |(.frz,_)::r,c::l=>if c.d then none else Mq r l
 | _::r,c::l=>(match Mq r l with
   |some vs=>some (c.v::vs)
   |none=>none)
 |_,_=>none
def A4:List DV→List DC
 |[]=>[]
 |v::r=>⟨false,v⟩::A4 r
def Y0(st:DS):List ARes→Option (DV×DS)
 |[r]=>JI st r
 | rs=>(match Hp st rs with
   |some x=>some (.tup x.1,x.2)
   |none=>none)
def rP(q:QT)(cs:List (Ql×CT))(res:List ARes)(st:DS):Option (q.D×AgX (Gj cs)):=
 match Y0 st res with
 | some (v,st')=>if v.ok&&!v.hasPtr then (match st'.hp with
   | [blk]=>(match Mq cs blk with
     | some vs=>(match q.of v,Ez (Gj cs) vs with
       |some y,some b=>some (y,b)
       |_,_=>none)
     |none=>none)
   |_=>none) else none
 |none=>none
def rN(cs:List (Ql×CT))(res:List ARes)(st:DS):Option (AgX cs):=
 match Y0 st res with
 | some (v,st')=>if v.isP0 then (match st'.hp with
   |[blk]=>Ez cs (Bv blk)
   |_=>none) else none
 |none=>none
def DT.valR{α:Type}(R:DS→Option α):DT→PX×Option α
 |.leaf (.exit _) _=>(.ff,none)
 | .leaf _ st=>(match R st with
   |some y=>(.tt,some y)
   |none=>(.ff,none))
 | .node c a b=>(match a.valR R,b.valR R with
   |(g,none),(g',y)=>(PX.if' c g g',y)
   |(g,x),(g',none)=>(PX.if' c g g',x)
   |(g,some x),(g',some y)=>(PX.if' c g g',some (bSel c x y)))
 | .chk g t=>(match t.valR R with
   |(g',v)=>(g.land g',v))
 |.bad=>(.ff,none)
theorem PN{α:Type}{R:DS→Option α}:∀ {t:DT} {g:PX},t.valR R=(g,none)→¬ g.den
 | .leaf e st,g,h=>by
   cases e<;>simp only[DT.valR] at h<;>(repeat' split at h)<;>simp only[Ak,reduceCtorEq,and_false,NV] at h<;>subst h<;>exact id
 | .node c x y,g,h=>by
   intro hg
   simp only[DT.valR] at h
   cases h1:x.valR R with
   | mk g1 v1=>
     cases h2:y.valR R with
     | mk g2 v2=>
       rw[h1,h2] at h
       cases v1 with
       | none=>
         simp only[Ak] at h
         obtain⟨rfl,rfl⟩:=h
         have:=(PX.if_den _ _ _).mp hg
         cases c with
         |true=>exact PN h1 (this.1 rfl)
         |false=>exact PN h2 (this.2 rfl)
       |some v1=>cases v2<;>simp at h
 | .chk g0 t,g,h=>by
   intro hg
   simp only[DT.valR] at h
   cases h1:t.valR R with
   | mk g1 v1=>
     rw[h1] at h
     simp only[Ak] at h
     obtain⟨rfl,rfl⟩:=h
     exact PN h1 ((PX.land_den _ _).mp hg).2
 | .bad,g,h=>by
   simp only[DT.valR,Ak,NV] at h
   subst h;exact id
theorem Qp{α:Type}{R:DS→Option α}:∀ {t:DT} {g:PX} {y:α},t.valR R=(g,some y)→g.den →
 t.ok.den∧∃ e st,t.lf=some (e,st)∧(∀ i,e≠.exit i)∧R st=some y
 | .leaf e st,g,y,h,hg=>by
   have gen:(match R st with|some y=>(PX.tt,some y)|none=>(PX.ff,none))=(g,some y)→R st=some y:=fun h=>by
    split at h
    · rename_i y' hy;simp only[Ak,Aj] at h;rw[hy,h.2]
    · simp at h
   cases e with
   |exit i=>simp[DT.valR] at h
   |normal=>exact⟨trivial,.normal,st,rfl,by simp,gen h⟩
   |ret=>exact⟨trivial,.ret,st,rfl,by simp,gen h⟩
 | .node c a b,g,y,h,hg=>by
   simp only[DT.valR] at h;show (PX.if' c a.ok b.ok).den∧∃ e st,(DT.node c a b).lf=some (e,st)∧(∀ i,e≠.exit i)∧R st=some y;rw[PX.if_den]
   cases h1:a.valR R with
   | mk g1 v1=>
     cases h2:b.valR R with
     | mk g2 v2=>
       rw[h1,h2] at h
       have hgg:g=PX.if' c g1 g2:=by
        cases v1<;>cases v2<;>simp only[Ak] at h<;>exact h.1.symm
       subst hgg;have hg:=(PX.if_den _ _ _).mp hg
       cases c with
       | true=>
         have:v1=some y:=by
          cases v1 with
          |none=>exact absurd (hg.1 rfl) (PN h1)
          |some v1=>cases v2<;>simp only[Ak,Bg] at h<;>exact h.2
         subst this;obtain⟨k1,k2⟩:=Qp h1 (hg.1 rfl);exact⟨⟨fun _=>k1,fun h=>by cases h⟩,k2⟩
       | false=>
         have:v2=some y:=by
          cases v2 with
          |none=>exact absurd (hg.2 rfl) (PN h2)
          |some v2=>cases v1<;>simp only[Ak,AY] at h<;>exact h.2
         subst this;obtain⟨k1,k2⟩:=Qp h2 (hg.2 rfl);exact⟨⟨fun h=>(by cases h),fun _=>k1⟩,k2⟩
 | .chk g0 t,g,y,h,hg=>by
   simp only[DT.valR] at h
   cases h1:t.valR R with
   | mk g1 v1=>
     rw[h1] at h;simp only[Ak] at h;obtain⟨rfl,rfl⟩:=h;have hg:=(PX.land_den _ _).mp hg;obtain⟨k1,k2⟩:=Qp h1 hg.2;exact⟨(PX.land_den _ _).mpr ⟨hg.1,k1⟩,k2⟩
 |.bad,g,y,h,hg=>by simp[DT.valR] at h
theorem UF{p:DS→Prop}:∀ {t:DT} {e:AExit} {st:DS},t.All p→t.lf=some (e,st)→p st
 | .leaf _ _,_,_,h,hl=>by
   simp only[DT.lf,Aj,Ak] at hl
   obtain⟨_,rfl⟩:=hl;exact h
 | .node c a b,_,_,h,hl=>by
   simp only[DT.lf] at hl
   cases c with
   |true=>exact UF h.1 hl
   |false=>exact UF h.2 hl
 |.chk _ t,_,_,h,hl=>UF (t:=t) h hl
 |.bad,_,_,_,hl=>by cases hl
theorem cU{st st':DS}{r:ARes}{v:DV}(h:JI st r=some (v,st')):ChgS st st':=by
 cases r with
 | tmp t=>
   simp only[JI] at h;split at h
   · simp only[Aj] at h;have:=ChgS.mvOut (.t t) st;simp only[A7,h] at this;exact this
   · cases h
 | cell t n=>
   simp only[JI] at h;split at h
   · split at h
     · simp only[BE] at h;obtain⟨⟨g,r⟩,h1,h2⟩:=h;simp only at h2;subst h2;exact dn h1
     · cases h
   · split at h
     · simp only[BE] at h;obtain⟨⟨g,r⟩,h1,h2⟩:=h;simp only at h2;subst h2;exact cO h1
     · cases h
   · cases h
theorem bU:∀ {rs:List ARes} {st st':DS} {vs:List DV},Hp st rs=some (vs,st')→ChgS st st'
 | [],st,st',vs,h=>by
   simp only[Hp,Aj,Ak] at h
   rw[h.2];exact ChgS.refl _
 | r :: rs,st,st',vs,h=>by
   simp only[Hp] at h
   split at h
   · rename_i v st1 h1
     split at h
     · rename_i vs1 st2 h2
       simp only[Aj,Ak] at h
       obtain⟨_,rfl⟩:=h
       exact(cU h1).trans (bU h2)
     · cases h
   · cases h
theorem ga{res:List ARes}{st st':DS}{s:PS}{v:DV}(hs:ES st s)(h:Y0 st res=some (v,st'))(hv:v.ok=true):(∃ s',Iu s res=some (v.enc,s')∧ES st' s')∧ChgS st st':=by
 have gen:∀ {res:List ARes},(match Hp st res with|some x=>some (DV.tup x.1,x.2)|none=>none)=some (v,st')→(∃ s',(Hn s res).map (fun(vs,st)=>(PV.tup vs,st))=some (v.enc,s')∧ES st' s')∧ChgS st st':=fun {res} h=>by
  split at h
  · rename_i x hx;obtain⟨vs,st1⟩:=x;simp only[Aj,Ak] at h;obtain⟨rfl,rfl⟩:=h;obtain⟨s',e1,e2⟩:=WI hs hx hv;exact⟨⟨s',by rw[e1];rfl,e2⟩,bU hx⟩
  · cases h
 cases res with
 |nil=>exact gen (res:=[]) h
 | cons r rs=>
   cases rs with
   |nil=>exact⟨W8 hs h hv,cU h⟩
   |cons r2 rs=>exact gen (res:=r::r2::rs) h
theorem PD:∀ {l:List (Ql×CT)} {vs:List DV} {x:AgX l},Ez l vs=some x→(∀ v∈vs,v≠.any)∧∀ v∈CI l x,v≠.any
 |[],[],_,_=>⟨by simp,by simp[CI]⟩
 | [a],[v],x,h=>by
   obtain⟨h1,h2⟩:=QC (q:=a.1) (t:=a.2) h;refine⟨by simpa using h2,fun w hw=>?_⟩;have hw:w∈[a.2.dv a.1 x]:=hw;rw[List.mem_singleton] at hw;subst hw;exact dv_known _ _ _
 | a :: b::r,v::vs,x,h=>by
   have h':(match a.2.ofQ a.1 v,Ez (b::r) vs with|some x,some y=>some (x,y)|_,_=>none)=some x:=h;clear h
   cases h1:a.2.ofQ a.1 v with
   |none=>rw[h1] at h';cases h'
   | some p=>
     cases h2:Ez (b::r) vs with
     |none=>rw[h1,h2] at h';cases h'
     | some q=>
       rw[h1,h2] at h';have h':=Cx h';subst h';obtain⟨k1,k2⟩:=PD h2;refine⟨fun w hw=>?_,fun w hw=>?_⟩
       · rcases BG.mp hw with rfl|hw
         · exact(QC h1).2
         · exact k1 w hw
       · have hw:w∈a.2.dv a.1 p::CI (b::r) q:=hw;rcases BG.mp hw with rfl|hw
         · exact dv_known _ _ _
         · exact k2 w hw
  where dv_known (q:Ql) (t:CT) (x:t.D):t.dv q x≠.any:=by cases t<;>simp[CT.dv]
theorem cA:∀ (l:List (Ql×CT)) (x:AgX l),(∀ v∈CI l x,v≠.any)∧(CI l x).length=l.length
 |[],_=>⟨by simp[CI],rfl⟩
 |[a],x=>⟨fun w hw=>by
  have hw:w∈[a.2.dv a.1 x]:=hw
  rw[List.mem_singleton] at hw
  subst hw
  exact PD.dv_known _ _ _,rfl⟩
 | a :: b::r,x=>by
   obtain⟨h1,h2⟩:=cA (b::r) x.2
   refine⟨fun w hw=>?_,?_⟩
   · have hw:w∈a.2.dv a.1 x.1::CI (b::r) x.2:=hw
     rcases BG.mp hw with rfl|hw
     · exact PD.dv_known _ _ _
     · exact h1 w hw
   · show (CI (b::r) x.2).length+1=(b::r).length+1
     rw[h2]
theorem WX:∀ (cs:List (Ql×CT)) {blk:List DV} {blk':List DC} {p:List PV} {vs w:List DV},EL blk' p→Chg (A4 blk) blk'→Mq cs blk'=some vs→DV.encL w=DV.encL vs→(∀ v∈vs,v≠.any)→(∀ v∈w,v≠.any) →
 blk.length=cs.length→(∀ v∈blk,v≠.any)→p=DV.encL (Fc blk (HL cs w))
 | [],blk,blk',p,vs,w,he,hc,hp,hw,hv,hvw,hl,hb=>by
   have:blk=[]:=E4 hl;subst this
   cases blk' with
   | nil=>cases p with
     |nil=>rfl
     |cons=>exact he.elim
   |cons=>cases hp
 | (q, t)::r,blk,blk',p,vs,w,he,hc,hp,hw,hv,hvw,hl,hb=>by
   cases blk with
   |nil=>cases hl
   |cons v0 blk=>
   cases blk' with
   |nil=>cases q<;>cases hp
   |cons c l=>
   cases p with
   |nil=>exact he.elim
   |cons x p=>
   have hl':blk.length=r.length:=by simpa using hl
   have hb':∀ v∈blk,v≠.any:=fun v hv=>hb v (List.mem_cons_of_mem _ hv)
   by_cases hq:q= .frz
   · subst hq;have hp:(if c.d then none else Mq r l)=some vs:=hp;split at hp
     · cases hp
     · rename_i hd;have hc1:c=⟨false,v0⟩:=hc.1.resolve_left hd
       have hx:x=v0.enc:=by
        rcases he.1 with h|h
        · rw[hc1] at h;exact absurd h (hb v0 (L9 ..))
        · rw[h,hc1]
       show x::p=v0.enc::DV.encL (Fc blk (HL r w));rw[hx,WX r he.2 hc.2 hp hw hv hvw hl' hb']
   · have hp':(match Mq r l with|some vs=>some (c.v::vs)|none=>none)=some vs:=by
      cases q<;>first|exact absurd rfl hq|exact hp
     cases hpr:Mq r l with
     |none=>rw[hpr] at hp';cases hp'
     | some vs1=>
       rw[hpr] at hp';have hp':=Cx hp';subst hp'
       cases w with
       |nil=>cases hw
       |cons w0 w=>
       simp only[DV.encL,GL] at hw
       have hx:x=w0.enc:=by
        rcases he.1 with h|h
        · exact absurd h (hv c.v (L9 ..))
        · rw[h,hw.1]
       have hw0:w0.isAny=false:=by
        have:=hvw w0 (L9 ..)
        cases w0<;>first|rfl|exact absurd rfl this
       have e:HL ((q,t)::r) (w0::w)=w0::HL r w:=by cases q<;>first|exact absurd rfl hq|rfl
       rw[e];simp only[Fc,hw0,AL,AX,DV.encL];rw[hx,WX r he.2 hc.2 hpr hw.2 (fun v h=>hv v (List.mem_cons_of_mem _ h)) (fun v h=>hvw v (List.mem_cons_of_mem _ h)) hl' hb']
def Rk(f:DFun)(hs:List HT)(cs:List (Ql×CT))(q:QT)(x:TuX (.agg cs::hs)):PX×Option (q.D×AgX (Gj cs)):=
 match C5 (.agg cs::hs) x with
 |.agg blk::r=>(dev f.body ⟨news (.ptr 0 0::r)++F1 (f.nslots-f.nparams),F3 f.nbox,[A4 blk]⟩).valR (rP q cs f.res)
 |_=>(.ff,none)
def IE(f:DFun)(hs:List HT)(cs:List (Ql×CT))(q:QT)(x:TuX (.agg cs::hs)):q.D×AgX (Gj cs):=(Rk f hs cs q x).2.getD (q.dflt,UH (Gj cs))
def Iv(f:DFun)(hs:List HT)(cs:List (Ql×CT))(q:QT)(x:TuX (.agg cs::hs)):Prop:=(Rk f hs cs q x).1.den
def Ym(f:DFun)(hs:List HT)(cs:List (Ql×CT))(q:QT)(x:TuX (.agg cs::hs)):Bool:=(Rk f hs cs q x).2.isSome
def Y8(f:DFun)(hs:List HT)(cs:List (Ql×CT)):Bool:=hs.length+1 == f.nparams&&!f.pure&&Nat.blt 0 cs.length
def JA(hs:List HT)(cs:List (Ql×CT))(q:QT)(ok:TuX (.agg cs::hs)→Prop)(v:TuX (.agg cs::hs)→q.D×AgX (Gj cs)):De:=fun args b=>match args,b with
 | a::r,[blk]=>if a.isP0 then (match Fe (.agg cs::hs) (.agg blk::r) with
   |some x=>some (.p (ok x),q.dv (v x).1,[HL cs (CI (Gj cs) (v x).2)])
   |none=>none) else none
 |_,_=>none
theorem rO(cs:List (Ql×CT))(hs:List HT)(x:TuX (.agg cs::hs)):∃ r b,C5 (.agg cs::hs) x= .agg (CI cs b)::r:=by
 cases hs with
 |nil=>exact⟨[],x,rfl⟩
 |cons a r=>exact⟨C5 (a::r) x.2,x.1,rfl⟩
theorem gA:∀ (l:List DV),EL (A4 l) (DV.encL l)
 |[]=>trivial
 |_::r=>⟨.inr rfl,gA r⟩
theorem LH {f : DFun} {hs : List HT} {cs:List (Ql×CT)} {q:QT} (ho:AllD f.body.obs) (hst:Y8 f hs cs=true) (hc:∀ x,Ym f hs cs q x=true) {ok:TuX (.agg cs::hs)→Prop} {v:TuX (.agg cs::hs)→q.D×AgX (Gj cs)} (hok:∀ x,ok x→Iv f hs cs q x) (hv:∀ x,IE f hs cs q x=v x) :
 FZ (DA f.er) (JA hs cs q ok v):=by
 intro args b g w H Q h hg hQ
 simp only[Y8,Ah,AW,Cz] at hst
 unfold JA at h
 split at h
 · rename_i a r blk
   split at h
   · rename_i ha
     have ha:a= .ptr 0 0:=by unfold DV.isP0 at ha;split at ha<;>first|rfl|cases ha
     subst ha
     cases hx:Fe (.agg cs::hs) (.agg blk::r) with
     |none=>rw[hx] at h;cases h
     | some x=>
       rw[hx] at h;simp only[Aj,Ak] at h;obtain⟨rfl,rfl,rfl⟩:=h;have he:=Oo hx;obtain⟨r',b,hd⟩:=rO cs hs x;rw[hd] at he;simp only[DV.encL,DV.enc,GL,PV.agg.injEq] at he
       have hlr:r'.length=hs.length:=by
        have:=NQ (.agg cs::hs) x;rw[hd] at this;simpa using this
       have hc:=hc x;have hok:=hok x hg;unfold Ym at hc;unfold Iv at hok;have hvx:=hv x;unfold IE at hvx;unfold Rk at hc hok hvx;rw[hd] at hc hok hvx;simp only at hc hok hvx
       cases hdd:(dev f.body ⟨news (.ptr 0 0::r')++F1 (f.nslots-f.nparams),F3 f.nbox,[A4 (CI cs b)]⟩).valR (rP q cs f.res) with
       | mk g o=>
         rw[hdd] at hc hok hvx
         cases o with
         |none=>cases hc
         | some y=>
           simp only[Dy] at hvx;obtain⟨k1,e,st,k2,k3,k4⟩:=Qp hdd hok;have hchg:ChgS _ st:=UF (Hs f.body _) k2;show DA f.er (PV.ptr 0 0::DV.encL r) [DV.encL blk] Q;rw[← he.1,← he.2];refine⟨by simp only[AG,Es,hlr];exact hst.1.1,fun hp=>absurd hp (by simp[DFun.er,hst.1.2]),?_⟩
           refine F9 f.body ho (d:=⟨news (.ptr 0 0::r')++F1 (f.nslots-f.nparams),F3 f.nbox,[A4 (CI cs b)]⟩) (s:=⟨DV.encL (.ptr 0 0::r')++HH (f.nslots-f.nparams),JO f.nbox,[DV.encL (CI cs b)]⟩) ⟨(EL.news _).append (PU _),P5 _,.inr (gA _),trivial⟩ k1 k2 fun s' hs'=>?_
           unfold rP at k4;split at k4
           · rename_i v0 st' hr; split at k4
             · rename_i hv0; simp only[Ah,Cz] at hv0;split at k4
               · rename_i blk' hblk;split at k4
                 · rename_i vs hvs;split at k4
                   · rename_i y0 b0 hy0 hb0;simp only[Aj] at k4;subst k4;obtain⟨⟨s2,e2,e3⟩,hch2⟩:=ga hs' hr hv0.1;have hch:=(hchg.trans hch2).hp;have e4:=e3.hp;rw[hblk] at hch e4
                     cases hp2:s2.hp with
                     |nil=>rw[hp2] at e4;exact e4.elim
                     | cons p l=>
                       rw[hp2] at e4
                       have hl0:l=[]:=by cases l<;>first|rfl|exact e4.2.elim
                       subst hl0
                       have hne:0<blk'.length:=by
                        cases blk' with
                        | nil=>cases cs with
                          |nil=>exact absurd hst.2 (by decide)
                          |cons a cs=>obtain⟨q0,t0⟩:=a;cases q0<;>cases hvs
                        |cons=>simp
                       have hEL:=e4.1.to hne;obtain⟨kn1,kn2⟩:=PD hb0;obtain⟨kb1,kb2⟩:=cA cs b;have hpb:=WX cs hEL hch.1 hvs (UO hb0) kn1 kn2 kb2 kb1;obtain⟨h1,_⟩:=Za hy0
                       have hQ':Q (q.dv y0).enc (Gc (Iy [blk] [HL cs (CI (Gj cs) b0)])):=by
                        have:=hQ;rw[← hvx] at this;exact this
                       have hmix : DV.encL (Fc (CI cs b) (HL cs (CI (Gj cs) b0)))=DV.encL (Fc blk (HL cs (CI (Gj cs) b0))):=by
                        have:∀ (a c l:List DV),DV.encL a=DV.encL c→DV.encL (Fc a l)=DV.encL (Fc c l):=by
                         intro a
                         induction a with
                         | nil=>intro c l h;cases c with
                           |nil=>rfl
                           |cons=>cases h
                         | cons x a ih=>
                           intro c l h
                           cases c with
                           |nil=>cases h
                           | cons z c=>
                             simp only[DV.encL,GL] at h
                             cases l with
                             |nil=>simp only[Fc,DV.encL,h.1,h.2]
                             | cons w l=>
                               simp only[Fc,DV.encL,ih c l h.2];by_cases hw:w.isAny=true
                               · rw[Ab hw,Ab hw,h.1]
                               · rw[Ad hw,Ad hw]
                        exact this _ _ _ he.1
                       have fin:(match Iu s' f.res with|some (v,st)=>if f.pure=true then v.flt=true∧Q v [] else Q v st.hp|none=>False):=by
                        rw[e2];simp only[hst.1.2,AL,AX,hp2];rw[← h1,hpb,hmix];exact hQ'
                       cases e with
                       |normal=>exact fin
                       |ret=>exact fin
                       |exit i=>exact absurd rfl (k3 i)
                   · cases k4
                 · cases k4
               · cases k4
             · cases k4
           · cases k4
   · cases h
 · cases h
def Rj(f:DFun)(hs:List HT)(cs:List (Ql×CT))(x:TuX hs):PX×Option (AgX cs):=
 (dev f.body ⟨news (C5 hs x)++F1 (f.nslots-f.nparams),F3 f.nbox,[]⟩).valR (rN cs f.res)
def Rh(f:DFun)(hs:List HT)(cs:List (Ql×CT))(x:TuX hs):AgX cs:=(Rj f hs cs x).2.getD (UH cs)
def QZ(f:DFun)(hs:List HT)(cs:List (Ql×CT))(x:TuX hs):Prop:=(Rj f hs cs x).1.den
def Yx(f:DFun)(hs:List HT)(cs:List (Ql×CT))(x:TuX hs):Bool:=(Rj f hs cs x).2.isSome
def Y7(f:DFun)(hs:List HT)(cs:List (Ql×CT)):Bool:=hs.length == f.nparams&&!f.pure&&Nat.blt 0 cs.length
def T1(hs:List HT)(cs:List (Ql×CT))(ok:TuX hs→Prop)(v:TuX hs→AgX cs):De:=fun args b=>match b with
 | []=>(match Fe hs args with
   |some x=>some (.p (ok x),.ptr 0 0,[CI cs (v x)])
   |none=>none)
 |_=>none
theorem fO:∀ {l:List (Ql×CT)} {vs:List DV} {x:AgX l},Ez l vs=some x→vs.length=l.length
 |[],[],_,_=>rfl
 |[a],[v],x,h=>rfl
 | a :: b::r,v::vs,x,h=>by
   have h':(match a.2.ofQ a.1 v,Ez (b::r) vs with|some x,some y=>some (x,y)|_,_=>none)=some x:=h
   cases h1:a.2.ofQ a.1 v with
   |none=>rw[h1] at h';cases h'
   | some p=>
     cases h2:Ez (b::r) vs with
     |none=>rw[h1,h2] at h';cases h'
     | some q=>
       have:=fO h2
       simp only[AG] at this ⊢
       omega
theorem dg {f : DFun} {hs:List HT} {cs:List (Ql×CT)} (ho:AllD f.body.obs) (hst:Y7 f hs cs=true) (hc:∀ x,Yx f hs cs x=true) {ok:TuX hs→Prop} {v:TuX hs→AgX cs} (hok:∀ x,ok x→QZ f hs cs x) (hv:∀ x,Rh f hs cs x=v x) :
 FZ (DA f.er) (T1 hs cs ok v):=by
 intro args b g w H Q h hg hQ
 simp only[Y7,Ah,AW,Cz] at hst
 unfold T1 at h
 split at h
 · cases hx : Fe hs args with
   |none=>rw[hx] at h;cases h
   | some x=>
     rw[hx] at h;simp only[Aj,Ak] at h;obtain⟨rfl,rfl,rfl⟩:=h;have he:=Oo hx;have hc:=hc x;have hok:=hok x hg;have hvx:=hv x;unfold Yx at hc;unfold QZ at hok;unfold Rh at hvx;unfold Rj at hc hok hvx
     cases hdd:(dev f.body ⟨news (C5 hs x)++F1 (f.nslots-f.nparams),F3 f.nbox,[]⟩).valR (rN cs f.res) with
     | mk g o=>
       rw[hdd] at hc hok hvx
       cases o with
       |none=>cases hc
       | some y=>
         simp only[Dy] at hvx;obtain⟨k1,e,st,k2,k3,k4⟩:=Qp hdd hok;show DA f.er (DV.encL args) [] Q;rw[← he];refine⟨by rw[Es,NQ];exact hst.1.1,fun hp=>absurd hp (by simp[DFun.er,hst.1.2]),?_⟩
         refine F9 f.body ho (d:=⟨news (C5 hs x)++F1 (f.nslots-f.nparams),F3 f.nbox,[]⟩) ⟨(EL.news _).append (PU _),P5 _,trivial⟩ k1 k2 fun s' hs'=>?_
         unfold rN at k4;split at k4
         · rename_i v0 st' hr;split at k4
           · rename_i hv0
             have hv0:v0= .ptr 0 0:=by unfold DV.isP0 at hv0;split at hv0<;>first|rfl|cases hv0
             subst hv0;split at k4
             · rename_i blk' hblk;obtain⟨⟨s2,e2,e3⟩,_⟩:=ga hs' hr rfl;have e4:=e3.hp;rw[hblk] at e4
               cases hp2:s2.hp with
               |nil=>rw[hp2] at e4;exact e4.elim
               | cons p l=>
                 rw[hp2] at e4
                 have hl0:l=[]:=by cases l<;>first|rfl|exact e4.2.elim
                 subst hl0
                 have hne:0<blk'.length:=by
                  have:=fO k4;rw[PR] at this;have:=CC hst.2;omega
                 have hEL:=e4.1.to hne;obtain⟨kn1,_⟩:=PD k4
                 have hpe:p=DV.encL (Bv blk'):=by
                  have:∀ {a:List DC} {b:List PV},EL a b→(∀ v∈Bv a,v≠.any)→b=DV.encL (Bv a):=by
                   intro a
                   induction a with
                   |nil=>intro b h _;cases b<;>first|rfl|exact h.elim
                   | cons c a ih=>
                     intro b h hk
                     cases b with
                     |nil=>exact h.elim
                     | cons x b=>
                       simp only[Bv,DV.encL];rcases h.1 with h1|h1
                       · exact absurd h1 (hk _ (L9 ..))
                       · rw[h1,ih h.2 fun v hv=>hk v (List.mem_cons_of_mem _ hv)]
                  exact this hEL kn1
                 have hQ':Q (.ptr 0 0) [DV.encL (CI cs y)]:=by
                  have:=hQ;rw[← hvx] at this;exact this
                 have fin:(match Iu s' f.res with|some (v,st)=>if f.pure=true then v.flt=true∧Q v [] else Q v st.hp|none=>False):=by
                  rw[e2];simp only[hst.1.2,AL,AX,hp2];rw[hpe,← UO k4];exact hQ'
                 cases e with
                 |normal=>exact fin
                 |ret=>exact fin
                 |exit i=>exact absurd rfl (k3 i)
             · cases k4
           · cases k4
         · cases k4
 · cases h
attribute [irreducible] Rk IE Iv Ym Y8 Rj Rh QZ Yx Y7
open Go.RowKit Go.WideShapes Go.ChangeShapes
inductive Ty where
 |int (k:IntKind)
 |bool
 |str
 |sl (t:Ty)
 |unit
 |pair (a b:Ty)
def Ty.w:Ty→Nat
 |.int _|.bool|.str|.sl _=>1
 |.unit=>0
 |.pair a b=>a.w+b.w
def Rb(P:Program)(f:TypeId→Option Ty):List Field→Nat→Option Ty
 |[],_=>some .unit
 | g::r,off=>
   match f g.type with
   |some a=>if g.offset=off∧a.w=P.cellsOf g.type then (match Rb P f r (off+a.w) with|some b=>some (.pair a b)|none=>none) else none
   |none=>none
def IH(P:Program):Nat→TypeId→Option Ty
 |0,_=>none
 | d+1,t=>
   match P.underlying t with
   |some (.int k)=>some (.int k)
   |some .bool=>some .bool
   |some .string=>some .str
   |some (.slice e)=>(match IH P d e with|some te=>if te.w=P.cellsOf e∧0<te.w then some (.sl te) else none|none=>none)
   |some (.struct fs)=>(match Rb P (IH P d) fs.toList 0 with|some ty=>if ty.w=P.cellsOf t then some ty else none|none=>none)
   |_=>none
def Sh(σ:Ac):Ty→List V→Prop
 |.int k,cs=>∃ n,cs=[.int k n]∧(Lit.int k n).wf=true
 |.bool,cs=>∃ b,cs=[.bool b]
 |.str,cs=>∃ s,cs=[.str s]∧s.length≤maxLen
 |.sl t,cs=>cs=[.nils]∨∃ (l n:Nat) (bs:List V),cs=[.slice l 0 n]∧σ[l]?=some ⟨.ro,t.w,bs⟩∧bs.length=n*t.w∧n≤maxLen∧∀ i,i<n→Sh σ t ((bs.drop (i*t.w)).take t.w)
 |.unit,cs=>cs=[]
 |.pair a b,cs=>∃ xs ys,cs=xs++ys∧Sh σ a xs∧Sh σ b ys
theorem Sh.len{σ:Ac}:∀ {ty:Ty} {cs:List V},Sh σ ty cs→cs.length=ty.w
 |.int _,_,⟨_,h,_⟩=>by rw[h];rfl
 |.bool,_,⟨_,h⟩=>by rw[h];rfl
 |.str,_,⟨_,h,_⟩=>by rw[h];rfl
 |.sl _,_,h=>by rcases h with h|⟨_,_,_,h,_⟩<;>rw[h]<;>rfl
 |.unit,_,h=>by rw[h];rfl
 |.pair a b,_,⟨xs,ys,h,h1,h2⟩=>by rw[h,CA,h1.len,h2.len];rfl
theorem Sh.mono{σ e:Ac}:∀ {ty:Ty} {cs:List V},Sh σ ty cs→Sh (σ++e) ty cs
 |.int _,_,h=>h
 |.bool,_,h=>h
 |.str,_,h=>h
 | .sl _,_,h=>by
   rcases h with h|⟨l,n,bs,h,h1,h2,h3,h4⟩
   · exact .inl h
   · exact .inr ⟨l,n,bs,h,by rw[Bx (B4 h1)];exact h1,h2,h3,fun i hi=>(h4 i hi).mono⟩
 |.unit,_,h=>h
 |.pair _ _,_,⟨xs,ys,h,h1,h2⟩=>⟨xs,ys,h,h1.mono,h2.mono⟩
def DY(σ:Ac):Prop:=∀ (l:Nat) (b:Blk),σ[l]?=some b→b.k= .ro
def QP(ι:As)(σ:Ac)(W:World)(ty:Ty)(cs:List Value):Prop:=
 ∃ ι' e vs,HRel ι' (σ++e) W∧Keeps ι σ ι' (σ++e)∧DY (σ++e)∧Sh (σ++e) ty vs∧vs.length=cs.length∧∀ (i:Nat) v x,vs[i]?=some v→cs[i]?=some x→v.cell=true∧∀ β,Rel ι' (σ++e) β v x
theorem HRel.lay{ι:As}{σ:Ac}{W:World}(h:HRel ι σ W)(hro:DY σ){b off c:Nat}{wd:Nat}{bs:List V}(hb:b<W.heap.size)(hc:∀ (i:Nat) v,bs[i]?=some v→v.cell=true∧∃ x,W.cell? ⟨b,off+i,none⟩=some x∧∀ β,Rel ι σ β v x) :
 HRel (upd ι σ.length ⟨b,off,c⟩) (σ++[⟨.ro,wd,bs⟩]) W∧DY (σ++[⟨.ro,wd,bs⟩]):=by
 have K:=PF ι σ ⟨b,off,c⟩ ⟨.ro,wd,bs⟩
 have hall:DY (σ++[⟨.ro,wd,bs⟩]):=by
  intro l blk hl;rcases Fs hl with⟨_,hl⟩|⟨_,rfl⟩
  · exact hro l blk hl
  · rfl
 refine⟨⟨fun l blk hl hk i v hv=>?_,fun l blk hl hk=>?_,fun l l' blk blk' hne hl hl' hk hk'=>?_,fun l blk hl hk=>?_⟩,hall⟩
 · rcases Fs hl with⟨hlt,hl⟩|⟨rfl,rfl⟩
   · rw[CW _ _ _ _ (by omega)];obtain⟨a,x,b',c⟩:=h.cells l blk hl hk i v hv;exact⟨a,x,b',fun β=>(c β).cellMono K a⟩
   · rw[B3];obtain⟨a,x,b',c⟩:=hc i v hv;exact⟨a,x,b',fun β=>(c β).cellMono K a⟩
 · have:=hall l blk hl;rw[hk] at this;cases this
 · have:=hall l blk hl;rw[hk] at this;cases this
 · rcases Fs hl with⟨hlt,hl⟩|⟨rfl,rfl⟩
   · rw[CW _ _ _ _ (by omega)];exact h.there l blk hl hk
   · rw[B3];exact hb
theorem nO{w:World}{a:Addr}{v:Value}(h:w.cell? a=some v):a.block<w.heap.size:=by
 unfold World.cell? at h;rcases Bq a.block w.heap.size with h1|h1
 · exact h1
 · rw[Array.getElem?_eq_none h1] at h;cases h
theorem Uv{α:Type}{l:List α}{i:Nat}{v:α}(h:l[i]?=some v):i<l.length:=by
 rcases Bq i l.length with h1|h1
 · exact h1
 · rw[Bu h1] at h;cases h
section
variable {H:Type} {enc:TypeId×Value→H} {P:Program} {W:World}
theorem bI(d:Nat)(ih:∀ (t:TypeId)(ty:Ty),IH P d t=some ty→∀ (fuel:Nat)(cs:List Value) x,DataW.trod enc P W 0 (fun _=>true) true fuel t cs=some x→∀ (ι:As)(σ:Ac),HRel ι σ W→DY σ→QP ι σ W ty cs) :
 ∀ (fs:List Field) (off:Nat) (ty:Ty),Rb P (IH P d) fs off=some ty→∀ (fuel:Nat) (cs:List Value),(∀ g∈fs,∃ x,DataW.trod enc P W 0 (fun _=>true) true fuel g.type ((cs.drop g.offset).take (P.cellsOf g.type))=some x) →
   off+ty.w=cs.length→∀ (ι:As) (σ:Ac),HRel ι σ W→DY σ→QP ι σ W ty (cs.drop off)
 | [],off,ty,h,fuel,cs,_,hl,ι,σ,H,hro=>by
   simp only[Rb,Aj] at h;subst h;simp only[Ty.w,E7] at hl
   have:cs.drop off=[]:=by rw[hl];simp
   rw[this];exact⟨ι,[],[],by simpa using H,by simpa using Keeps.refl ι σ,by simpa using hro,rfl,rfl,by simp⟩
 | g :: r, off,ty,h,fuel,cs,hg,hl,ι,σ,H,hro=>by
   simp only[Rb] at h;split at h
   · rename_i a ha;split at h
     · rename_i hc;obtain⟨h1,h2⟩:=hc;split at h
       · rename_i b hb;cases h;simp only[Ty.w] at hl;obtain⟨x,hx⟩:=hg g (by simp);rw[h1] at hx;obtain⟨ι1,e1,vs1,H1,K1,R1,S1,L1,C1⟩:=ih g.type a ha fuel _ x hx ι σ H hro;obtain⟨ι2,e2,vs2,H2,K2,R2,S2,L2,C2⟩:=bI d ih r (off+a.w) b hb fuel cs (fun g' hg'=>hg g' (by simp[hg'])) (by omega) ι1 (σ++e1) H1 R1;refine⟨ι2,e1++e2,vs1++vs2,by rw[← BH];exact H2,by rw[← BH];exact K1.trans K2,by rw[← BH];exact R2,⟨vs1,vs2,rfl,by rw[← BH];exact S1.mono,by rw[← BH];exact S2⟩,?_,fun i v y hv hy=>?_⟩
         · rw[CA,L1,L2];simp;omega
         · have hl1:vs1.length=a.w:=S1.len;by_cases hi:i<vs1.length
           · rw[Bx hi] at hv
             have hy':((cs.drop off).take (P.cellsOf g.type))[i]?=some y:=by
              rw[Ht,Ab (by omega)];exact hy
             obtain⟨q1,q2⟩:=C1 i v y hv hy';exact⟨q1,fun β=>by rw[← BH];exact(q2 β).cellMono K2 q1⟩
           · rw[CY (by omega)] at hv
             have hy':(cs.drop (off+a.w))[i-vs1.length]?=some y:=by
              rw[KN] at hy ⊢
              have:off+a.w+(i-vs1.length)=off+i:=by omega
              rw[this];exact hy
             obtain⟨q1,q2⟩:=C2 _ v y hv hy';exact⟨q1,fun β=>by rw[← BH];exact q2 β⟩
       · cases h
     · cases h
   · cases h
theorem gf{b o:Nat}(n:Nat):Addr.add ⟨b,o,none⟩ n=⟨b,o+n,none⟩:=by
 unfold Addr.add;split
 · rename_i h;subst h;rfl
 · rfl
theorem bW {d:Nat} (ih:∀ (t:TypeId) (ty:Ty),IH P d t=some ty→∀ (fuel:Nat) (cs:List Value) x,DataW.trod enc P W 0 (fun _=>true) true fuel t cs=some x→∀ (ι:As) (σ:Ac),HRel ι σ W→DY σ→QP ι σ W ty cs)
 {e:TypeId} {te:Ty} (hte:IH P d e=some te) (hw:te.w=P.cellsOf e) {fuel b o:Nat} :
 ∀ (n:Nat),(∀ i,i<n→∃ cs x,W.cells? 0 ⟨b,o+i*te.w,none⟩ te.w=some cs∧DataW.trod enc P W 0 (fun _=>true) true fuel e cs=some x)→∀ (ι:As) (σ:Ac),HRel ι σ W→DY σ →
   ∃ (ι':As) (ext:Ac) (bs:List V),HRel ι' (σ++ext) W∧Keeps ι σ ι' (σ++ext)∧DY (σ++ext)∧bs.length=n*te.w∧(∀ i,i<n→Sh (σ++ext) te ((bs.drop (i*te.w)).take te.w)) ∧
     ∀ (j:Nat) v,bs[j]?=some v→v.cell=true∧∃ x,W.cell? ⟨b,o+j,none⟩=some x∧∀ β,Rel ι' (σ++ext) β v x
 |0,_,ι,σ,H0,hro=>⟨ι,[],[],by simpa using H0,by simpa using Keeps.refl ι σ,by simpa using hro,by simp,fun i hi=>absurd hi (Yn i),by simp⟩
 | n + 1,hn,ι,σ,H0,hro=>by
   obtain⟨ι1,e1,bs,H1,K1,R1,L1,S1,C1⟩:=bW ih hte hw n (fun i hi=>hn i (Nat.lt_succ_of_lt hi)) ι σ H0 hro;obtain⟨cs,x,hc,hx⟩:=hn n (YI n);obtain⟨ι2,e2,vs,H2,K2,R2,S2,L2,C2⟩:=ih e te hte fuel cs x hx ι1 (σ++e1) H1 R1;obtain⟨_,hcl,hcg⟩:=World.cells?_some hc;refine⟨ι2,e1++e2,bs++vs,by rw[← BH];exact H2,by rw[← BH];exact K1.trans K2,by rw[← BH];exact R2,?_,fun i hi=>?_,fun j v hv=>?_⟩
   · rw[CA,L1,L2,hcl,L7]
   · rw[← BH];by_cases h:i<n
     · have h1:(i+1)*te.w≤n*te.w:=Ii _ h;rw[L7] at h1
       have:((bs++vs).drop (i*te.w)).take te.w=(bs.drop (i*te.w)).take te.w:=by
        rw[List.drop_append_of_le_length (by omega),List.take_append_of_le_length (by rw[Yj];omega)]
       rw[this];exact(S1 i h).mono
     · have:i=n:=by omega
       subst this
       have:((bs++vs).drop (i*te.w)).take te.w=vs:=by
        rw[← L1,List.drop_left,KE (by omega)]
       rw[this];exact S2
   · by_cases h:j<bs.length
     · rw[Bx h] at hv;obtain⟨q1,y,q2,q3⟩:=C1 j v hv;exact⟨q1,y,q2,fun β=>by rw[← BH];exact(q3 β).cellMono K2 q1⟩
     · rw[CY (by omega)] at hv;have hlt:=Uv hv
       have hlt':j-bs.length<te.w:=by rw[← hcl,← L2];exact hlt
       have hg:=hcg (j-bs.length) hlt';rw[gf] at hg
       have e0:o+n*te.w+(j-bs.length)=o+j:=by omega
       rw[e0] at hg;obtain⟨y,hy⟩:∃ y,cs[j-bs.length]?=some y:=⟨_,AF (by omega)⟩;obtain⟨q1,q2⟩:=C2 _ v y hv hy;exact⟨q1,y,hg.trans hy,fun β=>by rw[← BH];exact q2 β⟩
theorem VZ:∀ (d:Nat) (t:TypeId) (ty:Ty),IH P d t=some ty→∀ (fuel:Nat) (cs:List Value) x,DataW.trod enc P W 0 (fun _=>true) true fuel t cs=some x→∀ (ι:As) (σ:Ac),HRel ι σ W→DY σ→QP ι σ W ty cs
 |0,_,_,h=>by simp[IH] at h
 | d + 1, t, ty,h=>by
   intro fuel cs x hx ι σ H0 hro
   have one:∀ (v:V) (y:Value),cs=[y]→v.cell=true→(∀ β,Rel ι σ β v y)→Sh σ ty [v]→QP ι σ W ty cs:=by
    intro v y hc hv hr hs;refine⟨ι,[],[v],by simpa using H0,by simpa using Keeps.refl ι σ,by simpa using hro,by simpa using hs,by rw[hc];rfl,fun i u z hu hz=>?_⟩;rw[hc] at hz
    cases i with
    |zero=>simp at hu hz;subst hu;subst hz;exact⟨hv,by simpa using hr⟩
    |succ i=>simp at hu
   unfold IH at h;split at h
   · rename_i k hu;cases h;obtain⟨n,hc,_,hwf⟩:=DataW.trod_int hu hx;exact one (.int k n) _ hc rfl (fun β=>.int k n) ⟨n,rfl,hwf⟩
   · rename_i hu;cases h;obtain⟨b,hc,_⟩:=DataW.trod_bool hu hx;exact one (.bool b) _ hc rfl (fun β=>.bool b) ⟨b,rfl⟩
   · rename_i hu;cases h;obtain⟨s,hc,_,hwf⟩:=DataW.trod_string hu hx;exact one (.str s.data.toList) _ hc rfl (fun β=>by have:=Rel.str (ι:=ι) (σ:=σ) (β:=β) s.data.toList;simpa using this) ⟨s.data.toList,rfl,by simpa using hwf⟩
   · rename_i e hu;split at h
     · rename_i te hte;split at h
       · rename_i hw;obtain⟨hw,hpos⟩:=hw;cases h;rcases DataW.trod_slice hu hx with⟨hc,_⟩|⟨a,len,cap,elems,rest,n,_,hc,_,_,hle,hcap,hel,hE,hR,_⟩
         · exact one .nils _ hc rfl (fun β=>.nils none) (.inl rfl)
         · obtain⟨hrl,hR⟩:=hR rfl
           have hcell:∀ i,i<cap→∃ cs' y,W.cells? 0 (a.add (i*P.cellsOf e)) (P.cellsOf e)=some cs'∧DataW.trod enc P W 0 (fun _=>true) true n e cs'=some y:=by
            intro i hi;by_cases h:i<len
            · have h1:=hE i h;obtain⟨y,hy⟩:∃ y,elems[i]?=some y:=⟨_,AF (by omega)⟩;rw[hy,BJ] at h1;obtain⟨cs',h1,h2⟩:=h1;exact⟨cs',y,h1,h2⟩
            · have h1:=hR (i-len) (by omega);obtain⟨y,hy⟩:∃ y,rest[i-len]?=some y:=⟨_,AF (by omega)⟩;rw[hy,BJ] at h1;obtain⟨cs',h1,h2⟩:=h1;rw[show len+(i-len)=i by omega] at h1;exact⟨cs',y,h1,h2⟩
           by_cases hc0:cap=0
           · subst hc0
             have:len=0:=by omega
             subst this;exact one .nils _ hc rfl (fun β=>.nils (some a)) (.inl rfl)
           · have hsp:a.spot=none∧a.block<W.heap.size:=by
              obtain⟨cs',y,h1,_⟩:=hcell 0 (by omega);obtain⟨_,h2,h3⟩:=World.cells?_some h1;have h4:=h3 0 (by omega);obtain⟨z,hz⟩:∃ z,cs'[0]?=some z:=⟨_,AF (by omega)⟩;rw[hz] at h4
              have h5:W.cell? a=some z:=by simpa [Addr.add] using h4
              exact⟨World.cell?_spot h5,nO h5⟩
             obtain⟨ab,ao,asp⟩:=a;obtain⟨hsp,hlt⟩:=hsp;simp only at hsp hlt;subst hsp
             have hcell':∀ i,i<len→∃ cs' y,W.cells? 0 ⟨ab,ao+i*te.w,none⟩ te.w=some cs'∧DataW.trod enc P W 0 (fun _=>true) true n e cs'=some y:=by
              intro i hi;have:=hcell i (by omega);rw[gf,← hw] at this;exact this
             obtain⟨ι1,e1,bs,H1,K1,R1,L1,S1,C1⟩:=bW (VZ d) hte hw len hcell' ι σ H0 hro;obtain⟨H2,R2⟩:=H1.lay R1 (c:=cap*te.w) (wd:=te.w) hlt C1;have K2:=PF ι1 (σ++e1) ⟨ab,ao,cap*te.w⟩ ⟨.ro,te.w,bs⟩
             have hg:((σ++e1)++[(⟨.ro,te.w,bs⟩:Blk)])[(σ++e1).length]?=some ⟨.ro,te.w,bs⟩:=by simp
             refine⟨_,e1++[⟨.ro,te.w,bs⟩],[.slice (σ++e1).length 0 len],by rw[← BH];exact H2,by rw[← BH];exact K1.trans K2,by rw[← BH];exact R2,.inr ⟨_,len,bs,rfl,by rw[← BH];exact hg,L1,by omega,fun i hi=>by rw[← BH];exact(S1 i hi).mono⟩,by rw[hc];rfl,fun i u z hu hz=>?_⟩;rw[hc] at hz
             cases i with
             | zero=>
               simp at hu hz;subst hu;subst hz;refine⟨rfl,fun β=>?_⟩;have:=Rel.slice (ι:=upd ι1 (σ++e1).length ⟨ab,ao,cap*te.w⟩) (σ:=(σ++e1)++[⟨.ro,te.w,bs⟩]) (β:=β) (σ++e1).length 0 len cap ⟨.ro,te.w,bs⟩ hg hle (by rw[B3];simp) (by first|assumption|(simp only;omega));rw[B3] at this;simpa using this
             |succ i=>simp at hu
       · cases h
     · cases h
   · rename_i fs hu;split at h
     · rename_i ty' hty;split at h
       · rename_i hw;cases h;obtain⟨xs,n,_,_,hl,hxl,hf⟩:=DataW.trod_struct hu hx
         have:=bI (enc:=enc) d (VZ d) fs.toList 0 _ hty n cs (fun g hg=>by
          obtain⟨i,hi⟩:=Io hg;have h1:=hf i g (by simpa using hi)
          have:i<xs.length:=by rw[hxl];have:=Uv hi;simpa using this
          exact⟨_,h1.trans (AF this)⟩) (by omega) ι σ H0 hro
         simpa using this
       · cases h
     · cases h
   · cases h
end
open Go.RowKit Go.WideShapes Go.ChangeShapes
def YR(P:Program)(d:Nat)(t:TypeId):Option (Ty×Bool):=
 match IH P d t with
 | some ty=>(match P.underlying t with
   |some (.struct _)=>some (ty,true)
   |some (.int _)|some .bool|some .string|some (.slice _)=>some (ty,false)
   |_=>none)
 |none=>none
def Og(P:Program)(d:Nat):List TypeId→Option (List (Ty×Bool))
 |[]=>some []
 | t::r=>match YR P d t,Og P d r with
   |some a,some b=>some (a::b)
   |_,_=>none
def ArgOk(σ:Ac):Ty×Bool→V→Prop
 |(ty,true),v=>∃ cs,v= .agg cs∧Sh σ ty cs∧cs.all V.cell=true
 |(ty,false),v=>Sh σ ty [v]∧v.cell=true
def N7(σ:Ac):List (Ty×Bool)→List V→Prop
 |[],[]=>True
 |a::r,v::s=>ArgOk σ a v∧N7 σ r s
 |_,_=>False
theorem ArgOk.mono{σ e:Ac}{a:Ty×Bool}{v:V}(h:ArgOk σ a v):ArgOk (σ++e) a v:=by
 obtain⟨ty,b⟩:=a
 cases b with
 |true=>obtain⟨cs,h1,h2,h3⟩:=h;exact⟨cs,h1,h2.mono,h3⟩
 |false=>exact⟨h.1.mono,h.2⟩
theorem ArgOk.noBox{σ:Ac}{a:Ty×Bool}{v:V}(h:ArgOk σ a v):∀ i o,v≠.box i o:=by
 obtain⟨ty,b⟩:=a;intro i o e;subst e
 cases b with
 |true=>obtain⟨cs,h1,_⟩:=h;cases h1
 |false=>have:=h.2;cases this
section
variable {H:Type} {enc:TypeId×Value→H} {P:Program} {W:World} {r:Reach} {base:Nat}
theorem so {d:Nat} {t:TypeId} {a:Ty×Bool} (ha:YR P d t=some a) {v:Value} {dd:DataW H} {ps:List MemPlace} (h:DataW.Trod enc P W 0 (fun _=>true) true t v dd ps) (hok:Value.okWide P W r base t v)
 (ι:As) (σ:Ac) (H0:HRel ι σ W) (hro:DY σ) :
 ∃ ι' e u,HRel ι' (σ++e) W∧Keeps ι σ ι' (σ++e)∧DY (σ++e)∧ArgOk (σ++e) a u∧∀ β,Rel ι' (σ++e) β u v:=by
 unfold YR at ha
 split at ha
 · rename_i ty hty
   obtain⟨fuel,hx⟩:=h;obtain⟨ι',e,vs,h1,h2,h3,h4,h5,h6⟩:=VZ d t ty hty fuel _ _ hx ι σ H0 hro
   have one:∀ (hc:v.cells=#[v]),a=(ty,false)→∃ ι' e u,HRel ι' (σ++e) W∧Keeps ι σ ι' (σ++e)∧DY (σ++e)∧ArgOk (σ++e) a u∧∀ β,Rel ι' (σ++e) β u v:=by
    intro hc ea;rw[hc] at h5 h6
    match vs,h5,h4,h6 with
    | [u],_,h4,h6=>
      obtain⟨c1,c2⟩:=h6 0 u v rfl rfl;exact⟨ι',e,u,h1,h2,h3,by rw[ea];exact⟨h4,c1⟩,c2⟩
   split at ha
   · rename_i fs hu;cases ha;obtain⟨cs,rfl,_⟩:=okWide_struct hu hok;replace h5:vs.length=cs.toList.length:=h5;refine⟨ι',e,.agg vs,h1,h2,h3,⟨vs,rfl,h4,?_⟩,fun β=>?_⟩
     · rw[CK];intro u hu';obtain⟨i,hi⟩:=Io hu'
       have:i<cs.toList.length:=by rw[← h5];exact Uv hi
       exact(h6 i u _ hi (AF this)).1
     · have:=Rel.agg (ι:=ι') (σ:=σ++e) (β:=β) vs cs.toList h5 (fun u hu'=>by
        obtain⟨i,hi⟩:=Io hu'
        have:i<cs.toList.length:=by rw[← h5];exact Uv hi
        exact(h6 i u _ hi (AF this)).1) (fun i u w hi hw=>(h6 i u w hi hw).2 β)
       simpa using this
   · rename_i k hu;cases ha;obtain⟨n,rfl⟩:=okWide_int hu hok;exact one rfl rfl
   · rename_i hu;cases ha;obtain⟨n,rfl⟩:=okWide_bool hu hok;exact one rfl rfl
   · rename_i hu;cases ha;obtain⟨n,rfl⟩:=okWide_string hu hok;exact one rfl rfl
   · rename_i el hu;cases ha;obtain⟨x,y,z,rfl⟩:=okWide_slice hu hok;exact one rfl rfl
   · cases ha
 · cases ha
theorem cV{d:Nat}:∀ {ts:List TypeId} {tys:List (Ty×Bool)},Og P d ts=some tys→∀ {vs:List Value} {ds:List (DataW H)} {ps:List MemPlace},DataW.TrodAll enc P W 0 (fun _=>true) true ts vs ds ps →
 (∀ (j:Nat) t v,ts[j]?=some t→vs[j]?=some v→Value.okWide P W r base t v)→∀ (ι:As) (σ:Ac),HRel ι σ W→DY σ →
 ∃ ι' e us,HRel ι' (σ++e) W∧Keeps ι σ ι' (σ++e)∧DY (σ++e)∧N7 (σ++e) tys us∧us.length=vs.length∧∀ (i:Nat) u v,us[i]?=some u→vs[i]?=some v→(∀ j o,u≠.box j o)∧∀ β,Rel ι' (σ++e) β u v
 | [],tys,h,vs,ds,ps,hd,_,ι,σ,H0,hro=>by
   obtain⟨rfl,_,_⟩:=trodAll_nil hd
   cases h
   exact⟨ι,[],[],by simpa using H0,by simpa using Keeps.refl ι σ,by simpa using hro,trivial,rfl,by simp⟩
 | t :: ts,tys,h,vs,ds,ps,hd,hok,ι,σ,H0,hro=>by
   obtain⟨v,vs',x,ds',p,q,rfl,rfl,rfl,h1,h2⟩:=trodAll_cons hd
   unfold Og at h
   split at h
   · rename_i a b ha hb
     cases h
     obtain⟨ι1,e1,u,H1,K1,R1,A1,C1⟩:=so ha h1 (hok 0 t v rfl rfl) ι σ H0 hro
     obtain⟨ι2,e2,us,H2,K2,R2,A2,L2,C2⟩:=cV hb h2 (fun j t' v' hj hv=>hok (j+1) t' v' hj hv) ι1 (σ++e1) H1 R1
     refine⟨ι2,e1++e2,u::us,by rw[← BH];exact H2,by rw[← BH];exact K1.trans K2,by rw[← BH];exact R2,by rw[← BH];exact⟨A1.mono,A2⟩,by simp[L2],fun i u' v' hu hv=>?_⟩
     rw[← BH]
     cases i with
     | zero=>
       simp at hu hv;subst hu;subst hv
       exact⟨A1.noBox,fun β=>(C1 β).mono K2 (fun j o e=>absurd e (A1.noBox j o))⟩
     |succ i=>exact C2 i u' v' (by simpa using hu) (by simpa using hv)
   · cases h
end
def Yo(P:Program)(ts:List TypeId):Bool:=ts.all fun t=>P.readableRec t&&decide (t<P.types.size)
theorem bA{H:Type}{enc:TypeId×Value→H}{P:Program}(hl:laidOutB P=true){W W':World}{sp':Nat→Bool}:∀ {ts:List TypeId} {vs:List Value} {ds:List (DataW H)} {ps:List MemPlace},Yo P ts=true →
 DataW.TrodAll enc P W 0 (fun _=>true) true ts vs ds ps→(∀ p∈ps,W.sameAt W' p)→(∀ p∈ps,sp' p.block=true)→DataW.TrodAll enc P W' 0 sp' true ts vs ds ps
 | [],vs,ds,ps,_,h,_,_=>by
   obtain⟨rfl,rfl,rfl⟩:=trodAll_nil h
   rfl
 | t::ts,vs,ds,ps,hr,h,h1,h2=>by
   obtain⟨v,vs',x,ds',p,q,rfl,rfl,rfl,g1,g2⟩:=trodAll_cons h
   unfold Yo at hr
   rw[Fx,Ah,Ah,AA] at hr
   exact⟨p,q,WideElems.Trod_stays hl hr.1.1 hr.1.2 g1 (fun y hy=>h1 y (by simp[hy])) (fun y hy=>h2 y (by simp[hy])),bA hl hr.2 g2 (fun y hy=>h1 y (by simp[hy])) (fun y hy=>h2 y (by simp[hy])),rfl⟩
theorem nZ {H:Type} {enc:TypeId×Value→H} {P:Program} {f:Func} {s:ChangeSpec} {apart fresh handsOn again:Bool} {W W':World} {args:Array Value} {v:Value} {ds gs:List (DataW H)} {before pa pv:List MemPlace}
 (hW:DataW.Whole enc P f.params.toList s.vars apart W args.toList ds gs before)
 (hres:∀ (b:Nat) (sp:Nat→Bool) (hd:Bool),DataW.TrodAll enc P W' b sp hd f.resultTypes.toList (v.resultList f.resultTypes.size) (s.fn H (ds++gs)).results [])
 (hargs:∀ sp:Nat→Bool,(∀ p∈before,sp p.block=true)→DataW.TrodAll enc P W' 0 sp true f.params.toList args.toList (s.fn H (ds++gs)).args pa)
 (hvars:∀ sp:Nat→Bool,(∀ p∈before,sp p.block=true)→DataW.TrodVars enc P W' sp s.vars (s.fn H (ds++gs)).vars pv)
 (hps:before=pa++pv) (hb:Below W.heap.size W W')
 (hok:∀ (j:Nat) (t:TypeId) (r:Value),f.resultTypes[j]?=some t→(v.resultList f.resultTypes.size)[j]?=some r→Value.okWide P W' .any 0 t r) :
 s.post enc P f apart fresh handsOn again W args v W':=by
 have hlt:∀ p∈before,p.block<W.heap.size:=fun p hp=>hW.lt p hp
 have hold:∀ p∈before,(fun b=>decide (b<W.heap.size)) p.block=true:=fun p hp=>by simpa using hlt p hp
 refine⟨ds,gs,before,[],pa,pv,hW,hres _ _ _,hargs _ hold,hvars _ hold,World.keptBut_mono (fun p hp=>⟨hp,?_⟩) (hb.frame (·∈before)),fun _=>?_⟩
 · rw[hps,Ci] at hp
   exact Or.inr hp
 · obtain⟨_,_,_,_,_,hz,hn⟩:=hW
   refine⟨hok,_,_,([]++pa)++pv,⟨[]++pa,pv,trodAll_append (hargs _ (fun _ _=>rfl)) (hres _ _ _),hvars _ (fun _ _=>rfl),rfl,?_,?_⟩,?_⟩
   · intro b off hp
     have hin:MemPlace.cell b off∈before:=by rw[hps];simpa using hp
     rw[hb.frozen (hlt _ hin)];exact hz b off hin
   · intro ha;have:=hn ha;rw[hps] at this;simpa using this
   · intro p hp _;rw[hps];simpa using hp
theorem oq {H:Type} {enc:TypeId×Value→H} {P:Program} {f:FuncId} {fn:Func} {s:ChangeSpec} {apart fresh handsOn again:Bool} {sem:A3} {tys:List (Ty×Bool)} {d:Nat} {tb:TypeId}
 (hs:AB P f sem) (has:Og P d fn.params.toList=some tys) (hrows:Yo P fn.params.toList=true) (hl:laidOutB P=true)
 (hres:fn.resultTypes=#[tb]) (htb:P.underlying tb=some .bool) (hvars:s.vars=[])
 (hspec:∀ ds:List (DataW H),ds.length=tys.length→s.fn H ds={ results:=[.lit (.bool true)],args:=ds })
 (law:∀ (σ:Ac) (us:List V),DY σ→N7 σ tys us→sem us σ fun r _=>r= .bool true)
 {W:World} {base:Nat} {args:Array Value} {ds gs:List (DataW H)} {before:List MemPlace}
 (hval:∀ (j:Nat) t v,fn.params[j]?=some t→args[j]?=some v→Value.okWide P W .any base t v)
 (hW:DataW.Whole enc P fn.params.toList s.vars apart W args.toList ds gs before) (hgl:GlW P W) :
 Calls P f args W fun e W'=>∃ v,e= .returned v∧s.post enc P fn apart fresh handsOn again W args v W':=by
 have hW':=hW
 obtain⟨p,q,hA,hV,rfl,hfz,hnd⟩:=hW
 rw[hvars] at hV
 obtain⟨rfl,rfl⟩:=trodVars_none hV
 rw[Ir] at hW'
 obtain⟨ι,e,us,H1,_,R1,A1,L1,C1⟩:=cV (d:=d) has hA (fun j t v hj hv=>hval j t v (by simpa using hj) (by simpa using hv)) (fun _=>⟨0,0,0⟩) [] ⟨by simp,by simp,by simp,by simp⟩ (fun l b h=>by simp at h)
 simp only[CQ] at H1 R1 A1 C1
 have hc:=hs Phm.no ι e W us args.toList _ (.no e) (by rw[Qb];exact H1) (by rw[Qb];exact⟨L1,fun i u v hu hv=>(C1 i u v hu hv).2⟩) (law e us R1 A1) ⟨hgl,fun nm hn g hg l blk hl hk=>by rw[Qb] at hl;have:=R1 l blk hl;rw[hk] at this;cases this⟩
 have hlen:ds.length=tys.length:=by
  have h1:∀ {ts:List TypeId} {tys:List (Ty×Bool)},Og P d ts=some tys→tys.length=ts.length:=by
   intro ts
   induction ts with
   |nil=>intro tys h;cases h;rfl
   | cons t ts ih=>
     intro tys h;unfold Og at h;split at h
     · rename_i a b _ hb;cases h;simp[ih hb]
     · cases h
  have h2:∀ {ts:List TypeId} {vs:List Value} {ds:List (DataW H)} {ps:List MemPlace},DataW.TrodAll enc P W 0 (fun _=>true) true ts vs ds ps→ds.length=ts.length:=by
   intro ts
   induction ts with
   |nil=>intro vs ds ps h;obtain⟨_,rfl,_⟩:=trodAll_nil h;rfl
   | cons t ts ih=>
     intro vs ds ps h;obtain⟨v,vs',x,ds',p,q,rfl,rfl,rfl,_,g2⟩:=trodAll_cons h;simp[ih g2]
  rw[h1 has,h2 hA]
 refine(Calls.mono (by simpa using hc) fun en W' hd=>?_:Calls P f args W _)
 obtain⟨x,r,σ',ι',rfl,rfl,_,hx,_,hstep⟩:=hd
 rw[Qb,Qb] at hstep
 have hx':=hx (fun _=>0)
 cases hx'
 have hb:Below W.heap.size W W':=⟨hstep.os,hstep.tape,hstep.output,hstep.size,fun k hk=>hstep.frame k hk fun l blk hl hk'=>by have:=R1 l blk hl;rw[hk'] at this;cases this⟩
 have hfn:=hspec (ds++[]) (by simpa using hlen)
 have hlt:∀ x∈p,x.block<W.heap.size:=fun x hx=>hW'.lt x hx
 refine⟨_,rfl,nZ (pa:=p) (pv:=[]) hW' (fun _ _ _=>?_) (fun sp hsp=>?_) (fun sp _=>?_) (by simp) hb (ok_one hres rfl (okWide_bool_mk htb true))⟩
 · rw[hfn,hres]
   exact trodAll_cons_mk (shut_bool htb true) trodAll_mk0
 · rw[hfn]
   simp only[Ir];exact bA hl hrows hA (fun x hx=>hb.same (hlt x hx)) hsp
 · rw[hfn,hvars]
   rfl
open Go.ChangeShapes
mutual
def CT.wf:(t:CT)→t.D→Prop
 |.int k,n=>(Lit.int k n).wf=true
 |.bool,_=>True
 |.str,s=>s.length≤maxLen
 |.ifc,_=>True
 |.sl r,l=>@List.length r.D l≤maxLen∧∀ x:r.D,@Membership.mem r.D (List r.D) inferInstance l x→RT.wf r x
def RT.wf:(r:RT)→r.D→Prop
 |.one t,x=>CT.wf t x
 |.cons t r,x=>CT.wf t x.1∧RT.wf r x.2
end
def AgX.wf:(l:List (Ql×CT))→AgX l→Prop
 |[],_=>True
 |[a],x=>a.2.wf x
 |a::b::r,x=>a.2.wf x.1∧AgX.wf (b::r) x.2
def HT.wf:(h:HT)→h.D→Prop
 |.one _ t,x=>t.wf x
 |.agg l,x=>AgX.wf l x
def TuX.wf:(l:List HT)→TuX l→Prop
 |[],_=>True
 |[a],x=>a.wf x
 |a::b::r,x=>a.wf x.1∧TuX.wf (b::r) x.2
def Gh:List CT→RT
 |[]=>.one .bool
 |[a]=>.one a
 |a::b::r=>.cons a (Gh (b::r))
def Ty.cts:Ty→List CT
 |.int k=>[.int k]
 |.bool=>[.bool]
 |.str=>[.str]
 |.sl t=>[.sl (Gh t.cts)]
 |.unit=>[]
 |.pair a b=>a.cts++b.cts
def Ty.good:Ty→Bool
 |.sl t=>Nat.blt 0 t.w&&t.good
 |.pair a b=>a.good&&b.good
 |_=>true
def K0:Ty×Bool→HT
 |(ty,true)=>.agg (ty.cts.map fun t=>(.frz,t))
 |(ty,false)=>match ty.cts with|[c]=>.one .frz c|_=>.agg []
def Uc:Ty×Bool→Bool
 |(ty,true)=>ty.good
 |(ty,false)=>ty.good&&ty.cts.length == 1
def DL:List CT→Type
 |[]=>Unit
 |a::r=>a.D×DL r
def DL.wf:(l:List CT)→DL l→Prop
 |[],_=>True
 |a::r,x=>a.wf x.1∧DL.wf r x.2
def DL.enc:(l:List CT)→DL l→List PV
 |[],_=>[]
 |a::r,x=>CT.enc a x.1::DL.enc r x.2
def DL.encF:(l:List CT)→DL l→List PV
 |[],_=>[]
 |a::r,x=>(CT.dv .frz a x.1).enc::DL.encF r x.2
def DL.app:(l m:List CT)→DL l→DL m→DL (l++m)
 |[],_,_,y=>y
 |_::l,m,x,y=>(x.1,DL.app l m x.2 y)
theorem DL.app_enc:∀ (l m:List CT) (x:DL l) (y:DL m),DL.enc (l++m) (DL.app l m x y)=DL.enc l x++DL.enc m y
 |[],_,_,_=>rfl
 | a::l,m,x,y=>by
   show CT.enc a x.1::DL.enc (l++m) (DL.app l m x.2 y)=CT.enc a x.1::(DL.enc l x.2++DL.enc m y)
   rw[DL.app_enc l m x.2 y]
theorem DL.app_encF:∀ (l m:List CT) (x:DL l) (y:DL m),DL.encF (l++m) (DL.app l m x y)=DL.encF l x++DL.encF m y
 |[],_,_,_=>rfl
 | a::l,m,x,y=>by
   show (CT.dv .frz a x.1).enc::DL.encF (l++m) (DL.app l m x.2 y)=(CT.dv .frz a x.1).enc::(DL.encF l x.2++DL.encF m y)
   rw[DL.app_encF l m x.2 y]
theorem DL.app_wf:∀ (l m:List CT) (x:DL l) (y:DL m),DL.wf l x→DL.wf m y→DL.wf (l++m) (DL.app l m x y)
 |[],_,_,_,_,h=>h
 |_::l,m,x,y,h,h'=>⟨h.1,DL.app_wf l m x.2 y h.2 h'⟩
theorem DL.len:∀ (l:List CT) (x:DL l),(DL.enc l x).length=l.length
 |[],_=>rfl
 |_::l,x=>by show _+1=_+1;rw[DL.len l x.2]
theorem DL.lenF:∀ (l:List CT) (x:DL l),(DL.encF l x).length=l.length
 |[],_=>rfl
 |_::l,x=>by show _+1=_+1;rw[DL.lenF l x.2]
def DL.rt:(l:List CT)→DL l→(Gh l).D
 |[],_=>false
 |[_],x=>x.1
 |_::b::r,x=>(x.1,DL.rt (b::r) x.2)
theorem DL.rt_enc:∀ (l:List CT) (x:DL l),l≠[]→RT.enc (Gh l) (DL.rt l x)=DL.enc l x
 |[],_,h=>absurd rfl h
 |[_],_,_=>rfl
 | a::b::r,x,_=>by
   show CT.enc a x.1::RT.enc (Gh (b::r)) (DL.rt (b::r) x.2)=CT.enc a x.1::DL.enc (b::r) x.2
   rw[DL.rt_enc (b::r) x.2 (by simp)]
theorem DL.rt_wf:∀ (l:List CT) (x:DL l),l≠[]→DL.wf l x→RT.wf (Gh l) (DL.rt l x)
 |[],_,h,_=>absurd rfl h
 |[_],_,_,h=>h.1
 |a::b::r,x,_,h=>⟨h.1,DL.rt_wf (b::r) x.2 (by simp) h.2⟩
def DL.ag:(l:List CT)→DL l→AgX (l.map fun t=>(Ql.frz,t))
 |[],_=>()
 |[_],x=>x.1
 |_::b::r,x=>(x.1,DL.ag (b::r) x.2)
theorem DL.ag_enc:∀ (l:List CT) (x:DL l),DV.encL (CI (l.map fun t=>(Ql.frz,t)) (DL.ag l x))=DL.encF l x
 |[],_=>rfl
 |[_],_=>rfl
 | a::b::r,x=>by
   show (CT.dv .frz a x.1).enc::DV.encL (CI ((b::r).map fun t=>(Ql.frz,t)) (DL.ag (b::r) x.2))=(CT.dv .frz a x.1).enc::DL.encF (b::r) x.2
   rw[DL.ag_enc (b::r) x.2]
theorem DL.ag_wf:∀ (l:List CT) (x:DL l),DL.wf l x→AgX.wf (l.map fun t=>(Ql.frz,t)) (DL.ag l x)
 |[],_,_=>trivial
 |[_],_,h=>h.1
 |a::b::r,x,h=>⟨h.1,DL.ag_wf (b::r) x.2 h.2⟩
theorem JB:∀ (t:Ty),t.cts.length=t.w
 |.int _|.bool|.str|.sl _|.unit=>rfl
 |.pair a b=>by simp only[Ty.cts,Ty.w,CA,JB a,JB b]
def ωro(σ:Ac):Nat→W:=fun l=>if l<σ.length then .frz else .none
theorem ωro_frz{σ:Ac}{l:Nat}{b:Blk}(h:σ[l]?=some b):ωro σ l= .frz:=by
 unfold ωro;rw[Ab (B4 h)]
theorem Ss:∀ (a b:List PV) (i:Nat),i<a.length→Aa (a++b) i=Aa a i
 |[],_,_,h=>by cases h
 |_::_,_,0,_=>rfl
 |_::a,b,i+1,h=>Ss a b i (by simpa using h)
theorem Sn:∀ (a b:List PV) (i:Nat),Aa (a++b) (a.length+i)=Aa b i
 |[],_,_=>by simp
 | _::a,b,i=>by
   have:=Sn a b i
   simp only[Cp,AG,Yy]
   exact this
theorem V6:∀ (a b:List V) (i:Nat),i<a.length→get (a++b) i=get a i
 |[],_,_,h=>by cases h
 |_::_,_,0,_=>rfl
 |_::a,b,i+1,h=>V6 a b i (by simpa using h)
theorem VW:∀ (a b:List V) (i:Nat),get (a++b) (a.length+i)=get b i
 |[],_,_=>by simp
 | _::a,b,i=>by
   have:=VW a b i
   simp only[Cp,AG,Yy]
   exact this
theorem V2:∀ (l:List V) (o n i:Nat),i<n→get ((l.drop o).take n) i=get l (o+i)
 |[],o,n,i,_=>by simp[get]
 |c::r,0,0,i,h=>by cases h
 |c::r,0,n+1,0,_=>rfl
 | c::r,0,n+1,i+1,h=>by
   have:=V2 r 0 n i (by omega)
   simp only[BF] at this
   simp only[Od,YO,get,BF]
   simpa using this
 | c::r,o+1,n,i,h=>by
   have:=V2 r o n i h
   rw[List.drop_succ_cons,this,Yy]
   rfl
theorem dA{w:Nat}:∀ (es:List (List PV)) (i j:Nat),(∀ e∈es,e.length=w)→j<w→i<es.length→Aa es.flatten (i*w+j)=Aa (AU es i) j
 |[],i,_,_,_,h=>by cases h
 | e::r,0,j,hw,hj,_=>by
   have he:=hw e (L9 ..)
   rw[JG,BF,GN,Ss _ _ _ (by omega)]
   rfl
 | e::r,i+1,j,hw,hj,h=>by
   have he:=hw e (L9 ..)
   rw[GN,show (i+1)*w+j=e.length+(i*w+j) by rw[he,L7];omega,Sn]
   exact dA r i j (fun e h=>hw e (List.mem_cons_of_mem _ h)) hj (by simpa using h)
theorem fq {α:Type}(f:α→List PV):∀ (l:List α) (i:Nat) (h:i<l.length),AU (l.map f) i=f l[i]
 |[],_,h=>by cases h
 |_::_,0,_=>rfl
 |_::l,i+1,h=>fq f l i (by simpa using h)
theorem Qi{σ:Ac}:∀ (ty:Ty) {cs:List V},ty.good=true→Sh σ ty cs→∃ x:DL ty.cts,DL.wf ty.cts x ∧
 (∀ i,RC σ (ωro σ) .fz (Aa (DL.enc ty.cts x) i) (get cs i))∧∀ i hd p,RC σ (ωro σ) (.at hd p) (Aa (DL.encF ty.cts x) i) (get cs i)
 | .int k,cs,_,⟨n,h,hw⟩=>by
   subst h;exact⟨(n,()),⟨hw,trivial⟩,fun i=>by cases i<;>first|exact .v _ _ rfl|exact .undef _ _,fun i hd p=>by cases i<;>first|exact .v _ _ rfl|exact .undef _ _⟩
 | .bool,cs,_,⟨b,h⟩=>by
   subst h;exact⟨(b,()),⟨trivial,trivial⟩,fun i=>by cases i<;>first|exact .v _ _ rfl|exact .undef _ _,fun i hd p=>by cases i<;>first|exact .v _ _ rfl|exact .undef _ _⟩
 | .str,cs,_,⟨s,h,hl⟩=>by
   subst h;exact⟨(s,()),⟨hl,trivial⟩,fun i=>by cases i<;>first|exact .v _ _ rfl|exact .undef _ _,fun i hd p=>by cases i<;>first|exact .v _ _ rfl|exact .undef _ _⟩
 | .unit,cs,_,h=>by
   have h:cs=[]:=h;subst h;exact⟨(),trivial,fun i=>.undef _ _,fun i hd p=>.undef _ _⟩
 | .pair a b,cs,hg,⟨xs,ys,h,h1,h2⟩=>by
   simp only[Ty.good,Ah] at hg;obtain⟨x,x1,x2,x3⟩:=Qi a hg.1 h1;obtain⟨y,y1,y2,y3⟩:=Qi b hg.2 h2;have hl:=h1.len;subst h;refine⟨DL.app _ _ x y,DL.app_wf _ _ x y x1 y1,fun i=>?_,fun i hd p=>?_⟩
   · simp only[Ty.cts];rw[DL.app_enc];by_cases hi:i<a.w
     · rw[Ss _ _ _ (by rw[DL.len,JB];exact hi),V6 _ _ _ (by rw[hl];exact hi)];exact x2 i
     · obtain⟨j,rfl⟩:=Nat.exists_eq_add_of_le (Nat.le_of_not_lt hi);have e1:=Sn (DL.enc a.cts x) (DL.enc b.cts y) j;have e2:=VW xs ys j;rw[DL.len,JB] at e1;rw[hl] at e2;rw[e1,e2];exact y2 j
   · simp only[Ty.cts];rw[DL.app_encF];by_cases hi:i<a.w
     · rw[Ss _ _ _ (by rw[DL.lenF,JB];exact hi),V6 _ _ _ (by rw[hl];exact hi)];exact x3 i hd p
     · obtain⟨j,rfl⟩:=Nat.exists_eq_add_of_le (Nat.le_of_not_lt hi);have e1:=Sn (DL.encF a.cts x) (DL.encF b.cts y) j;have e2:=VW xs ys j;rw[DL.lenF,JB] at e1;rw[hl] at e2;rw[e1,e2];exact y3 j hd p
 | .sl t,cs,hg,h=>by
   simp only[Ty.good,Ah] at hg;have hw0:0<t.w:=CC hg.1
   have hne:t.cts≠[]:=by intro e;have:=JB t;rw[e] at this;simp only[AK] at this;omega
   rcases h with h|⟨l,n,bs,h,hb,hbl,hn,he⟩
   · subst h;refine⟨(([]:List (Gh t.cts).D),()),⟨⟨HB _,fun x hx=>by cases hx⟩,trivial⟩,fun i=>?_,fun i hd p=>?_⟩
     · cases i<;>first|exact .nil _ _|exact .undef _ _
     · cases i<;>first|exact .nil _ _|exact .undef _ _
   · subst h
     have ex:∀ i,∃ x:DL t.cts,i<n→DL.wf t.cts x∧(∀ k,RC σ (ωro σ) .fz (Aa (DL.enc t.cts x) k) (get ((bs.drop (i*t.w)).take t.w) k)):=by
      intro i;by_cases hi:i<n
      · obtain⟨x,h1,h2,_⟩:=Qi t hg.2 (he i hi);exact⟨x,fun _=>⟨h1,h2⟩⟩
      · have h0:∀ l:List CT,Nonempty (DL l):=by
         intro l
         induction l with
         |nil=>exact⟨()⟩
         |cons a r ih=>obtain⟨y⟩:=ih;exact⟨(a.dflt,y)⟩
        obtain⟨y⟩:=h0 t.cts;exact⟨y,fun h=>absurd h hi⟩
     let f:Nat→DL t.cts:=fun i=>Classical.choose (ex i)
     have hf:∀ i,i<n→DL.wf t.cts (f i)∧∀ k,RC σ (ωro σ) .fz (Aa (DL.enc t.cts (f i)) k) (get ((bs.drop (i*t.w)).take t.w) k):=fun i hi=>Classical.choose_spec (ex i) hi
     let L:List (Gh t.cts).D:=(List.range n).map fun i=>DL.rt t.cts (f i)
     have hL:L.length=n:=by simp[L]
     have hLw:∀ e∈L.map (RT.enc (Gh t.cts)),e.length=t.w:=by
      intro e he;obtain⟨y,hy,rfl⟩:=List.mem_map.mp he;obtain⟨i,_,rfl⟩:=List.mem_map.mp hy;rw[DL.rt_enc _ _ hne,DL.len,JB]
     have hcell:∀ k,k<L.length*t.w→RC σ (ωro σ) .fz (Aa (L.map (RT.enc (Gh t.cts))).flatten k) (get bs (0+k)):=by
      intro k hk
      have hdm:k / t.w*t.w+k % t.w=k:=by rw[Uh];exact Us k t.w
      have hmod:=JK k hw0
      have hdiv:k / t.w<n:=by rw[hL] at hk;exact(Ul hw0).2 hk
      have e1:=dA (L.map (RT.enc (Gh t.cts))) (k / t.w) (k % t.w) hLw hmod (by rw[Bb,hL];exact hdiv);rw[hdm] at e1;rw[e1,fq _ _ _ (by rw[hL];exact hdiv),BF];have e2:=V2 bs (k / t.w*t.w) t.w (k % t.w) hmod;rw[hdm] at e2
      have e3:L[k / t.w]'(by rw[hL];exact hdiv)=DL.rt t.cts (f (k / t.w)):=by simp[L]
      rw[e3,DL.rt_enc _ _ hne,← e2];exact(hf _ hdiv).2 _
     have hwf:∀ x∈L,RT.wf (Gh t.cts) x:=by
      intro x hx;obtain⟨i,hi,rfl⟩:=List.mem_map.mp hx;exact DL.rt_wf _ _ hne (hf i (List.mem_range.mp hi)).1
     have hle:0+(L.map (RT.enc (Gh t.cts))).length*t.w≤bs.length:=by rw[Bb,hL,hbl];omega
     refine⟨(L,()),⟨⟨by rw[hL];exact hn,hwf⟩,trivial⟩,fun i=>?_,fun i hd p=>?_⟩
     · cases i with
       |succ i=>exact .undef _ _
       |zero=>exact .sl _ _ _ _ _ _ _ hb (by simp) (ωro_frz hb) (fun e=>by cases e) (by rw[Bb,hL]) hLw hle fun k hk=>hcell k (by rw[Bb] at hk;exact hk)
     · cases i with
       |succ i=>exact .undef _ _
       |zero=>exact .sl _ _ _ _ _ _ _ hb (by simp) (ωro_frz hb) (fun _ e=>by rcases e with e|⟨_,_,e⟩<;>cases e) (by rw[Bb,hL]) hLw hle fun k hk=>hcell k (by rw[Bb] at hk;exact hk)
structure ArgD (σ:Ac) (v:PV) (u:V):Prop where
 rc:∀ hd p c,RC σ (ωro σ) (.at hd p) (v.fcell c) (u.fcell c)
 sh:AZ v u
 nx:∀ c i pb tp,(v.fcell c).q≠some (.bor (.x i) pb tp)
theorem uE{v:V}(h:v.cell=true):(∀ us,v≠.agg us)∧∀ us,v≠.tup us:=by
 constructor<;>rintro us rfl<;>cases h
theorem YZ:∀ (l:List CT) (x:DL l) (i:Nat) (a:Hd) (pb:List Nat) (tp:Bool),(Aa (DL.encF l x) i).q≠some (.bor a pb tp)
 |[],_,_,_,_,_=>by simp[DL.encF,Aa,PV.q]
 |c::r,x,0,a,pb,tp=>by cases c<;>simp[DL.encF,Aa,CT.dv,DV.enc,PV.q]
 |_::r,x,i+1,a,pb,tp=>YZ r x.2 i a pb tp
theorem eM{σ:Ac}{a:Ty×Bool}{u:V}(hg:Uc a=true)(h:ArgOk σ a u):∃ x:(K0 a).D,(K0 a).wf x∧ArgD σ ((K0 a).dv x).enc u:=by
 obtain⟨ty,b⟩:=a
 cases b with
 | true=>
   obtain⟨cs,rfl,hs,hc⟩:=h;obtain⟨x,h1,_,h3⟩:=Qi ty hg hs;have hle:=hs.len;refine⟨DL.ag ty.cts x,DL.ag_wf _ _ h1,?_⟩
   have he:((K0 (ty,true)).dv (DL.ag ty.cts x)).enc= .agg (DL.encF ty.cts x):=by
    show PV.agg _=PV.agg _;rw[DL.ag_enc]
   rw[he];refine⟨fun hd p c=>?_,⟨cs,rfl,by rw[hle,DL.lenF,JB]⟩,fun c i pb tp=>?_⟩
   · match c with
     |[]=>exact .undef _ _
     |[c]=>exact h3 c hd p
     |_::_::_=>exact .undef _ _
   · match c with
     |[]=>simp[PV.fcell,PV.q]
     |[c]=>exact YZ _ _ _ _ _ _
     |_::_::_=>simp[PV.fcell,PV.q]
 | false =>
   obtain⟨hs,hc⟩:=h;simp only[Uc,Ah,AW] at hg;obtain⟨x,h1,_,h3⟩:=Qi ty hg.1 hs
   have key:∀ (l:List CT) (x:DL l),l.length=1→DL.wf l x→(∀ i hd p,RC σ (ωro σ) (.at hd p) (Aa (DL.encF l x) i) (get [u] i)) →
    ∃ y:(match l with|[c]=>HT.one .frz c|_=>HT.agg []).D,(match l with|[c]=>HT.one .frz c|_=>HT.agg []).wf y∧ArgD σ ((match l with|[c]=>HT.one .frz c|_=>HT.agg []).dv y).enc u:=by
    intro l x hl hwf h3
    match l,x,hl,hwf,h3 with
    | [c],x,_,hwf,h3=>
      have hsc:=uE hc
      have hnf:∀ p,p≠[0]→((CT.dv .frz c x.1).enc).fcell p= .fl .undef:=by
       intro p hp;cases c<;>(match p with|[]=>rfl|[0]=>exact absurd rfl hp|(_+1)::_=>rfl|0::_::_=>rfl)
      have hf0:((CT.dv .frz c x.1).enc).fcell [0]=(CT.dv .frz c x.1).enc:=by cases c<;>rfl
      have hu0:u.fcell [0]=u:=by cases u<;>first|rfl|exact absurd rfl (hsc.1 _)|exact absurd rfl (hsc.2 _)
      refine⟨x.1,hwf.1,⟨fun hd p q=>?_,?_,fun q i pb tp=>?_⟩⟩
      · by_cases hq:q=[0]
        · subst hq;show RC σ (ωro σ) (.at hd p) (((CT.dv .frz c x.1).enc).fcell [0]) (u.fcell [0]);rw[hf0,hu0];exact h3 0 hd p
        · show RC σ (ωro σ) (.at hd p) (((CT.dv .frz c x.1).enc).fcell q) (u.fcell q);rw[hnf q hq];exact .undef _ _
      · show AZ ((CT.dv .frz c x.1).enc) u;cases c<;>exact hsc
      · show (((CT.dv .frz c x.1).enc).fcell q).q≠_;by_cases hq:q=[0]
        · subst hq;rw[hf0];exact YZ [c] x 0 _ _ _
        · rw[hnf q hq];simp[PV.q]
   exact key ty.cts x hg.2 h1 h3
theorem Wz{σ:Ac}:∀ {tys:List (Ty×Bool)} {us:List V},tys.all Uc=true→N7 σ tys us→∃ x:TuX (tys.map K0),TuX.wf _ x∧us.length=tys.length ∧
 ∀ t,ArgD σ (Aa (DV.encL (C5 (tys.map K0) x)) t) (get us t)
 |[],[],_,_=>⟨(),trivial,rfl,fun t=>⟨fun hd p c=>by
  have:(PV.fl V.undef).fcell c= .fl .undef:=by match c with|[]=>rfl|[0]=>rfl|(_+1)::_=>rfl|0::_::_=>rfl
  show RC σ (ωro σ) (.at hd p) ((PV.fl V.undef).fcell c) _
  rw[this];exact .undef _ _,trivial,fun c i pb tp=>by
  have:(PV.fl V.undef).fcell c= .fl .undef:=by match c with|[]=>rfl|[0]=>rfl|(_+1)::_=>rfl|0::_::_=>rfl
  show ((PV.fl V.undef).fcell c).q≠_
  rw[this];simp[PV.q]⟩⟩
 | [a],[u],hg,h=>by
   simp only[Fx,List.all_nil,KU] at hg;obtain⟨x,h1,h2⟩:=eM hg h.1;obtain⟨_,_,_,h4⟩:=Wz (σ:=σ) (tys:=[]) (us:=[]) rfl trivial;refine⟨x,h1,rfl,fun t=>?_⟩
   cases t with
   |zero=>exact h2
   |succ t=>exact h4 t
 | a::b::r,u::us,hg,h=>by
   rw[Fx,Ah] at hg;obtain⟨x,h1,h2⟩:=eM hg.1 h.1;obtain⟨y,h3,h4,h5⟩:=Wz (tys:=b::r) (us:=us) hg.2 h.2;refine⟨(x,y),⟨h1,h3⟩,by simp[h4],fun t=>?_⟩
   cases t with
   |zero=>exact h2
   |succ t=>exact h5 t
 |[_],_::_::_,_,h=>h.2.elim
 |[_],[],_,h=>h.elim
 |_::_::_,[],_,h=>h.elim
 |[],_::_,_,h=>h.elim
theorem wF{σ:Ac}{as:List PV}{us:List V}(hl:as.length=us.length)(h:∀ t,ArgD σ (Aa as t) (get us t)):RS σ (ωro σ) (ωro σ) (fun _=>0) ⟨as,[],[]⟩ ⟨us,[],σ⟩ X0:=by
 have no:∀ l hd p,ωro σ l≠.own hd p:=by intro l hd p e;unfold ωro at e;split at e<;>cases e
 have nop:∀ l i,ωro σ l≠.ptr i:=by intro l i e;unfold ωro at e;split at e<;>cases e
 have hund:∀ c,(PV.fl V.undef).fcell c= .fl .undef:=by
  intro c;match c with|[]=>rfl|[0]=>rfl|(_+1)::_=>rfl|0::_::_=>rfl
 have cat:∀ (c:List Nat) (l:List V),(A6 [] l c).1= .fl .undef:=by
  intro c l;match c with|[]=>rfl|[_]=>rfl|_::_::_=>rfl
 refine⟨⟨fun hd p=>?_,fun l l' hd p e=>absurd e (no l hd p),fun l l' i e=>absurd e (nop l i),fun l e=>?_,fun l e=>?_⟩,fun t=>(h t).sh,fun i=>trivial,hl,rfl,fun i=>rfl,fun i c=>rfl,fun i c=>rfl,fun i hi=>(by cases hi),fun l i e=>absurd e (nop l i),fun l i p e=>absurd e (no l _ p),⟨AO _,fun l _ _=>⟨rfl,rfl⟩,fun l hlt e=>(by rw[e];simp),fun l i e=>e⟩,fun hd p i pb tp=>?_⟩
 · cases hd with
   |s t=>exact(h t).rc _ _ _
   |b i=>show RC σ (ωro σ) _ (A6 [] (AM [] i) p).1 _;rw[cat];exact .undef _ _
   |h i=>show RC σ (ωro σ) _ (A6 [] _ p).1 _;rw[cat];exact .undef _ _
   |x i=>show RC σ (ωro σ) _ ((PV.fl V.undef).fcell p) _;rw[hund];exact .undef _ _
 · rcases e with⟨hd,p,e⟩|⟨i,e⟩
   · exact absurd e (no l hd p)
   · exact absurd e (nop l i)
 · unfold ωro at e;split at e
   · assumption
   · cases e
 · cases hd with
   |s t=>exact(h t).nx p i pb tp
   |b j=>show (A6 [] (AM [] j) p).1.q≠_;rw[cat];simp[PV.q]
   |h j=>show (A6 [] _ p).1.q≠_;rw[cat];simp[PV.q]
   |x j=>show ((PV.fl V.undef).fcell p).q≠_;rw[hund];simp[PV.q]
theorem vr {f:DFun} {tys:List (Ty×Bool)} {hs:List HT} {s:A3} (hsp:Dd s (DA f.er)) (hhs:tys.map K0=hs) (hg:tys.all Uc=true) (ho:AllD f.body.obs)
 (hst:OB f hs (.one (.one .own .bool))=true) (hc:∀ x,Ox f hs (.one (.one .own .bool)) x=true)
 (law:∀ x:TuX hs,TuX.wf hs x→Mx f hs (.one (.one .own .bool)) x∧MI f hs (.one (.one .own .bool)) x=true) (σ:Ac) (us:List V) (hro:DY σ) (ha:N7 σ tys us):s us σ fun r _=>r= .bool true:=by
 subst hhs
 obtain⟨x,h1,h2,h3⟩:=Wz hg ha
 obtain⟨l1,l2⟩:=law x h1
 have hlen:(DV.encL (C5 (tys.map K0) x)).length=us.length:=by rw[Es,NQ,Bb,h2]
 refine hsp σ (ωro σ) (fun _=>0) _ us [] (fun r _=>r= .fl (.bool true)) _ (wF hlen h3) (fun l hd p e=>?_) ?_ fun u h' r H' ω' ρ' hQ R' _=>?_
 · exfalso;unfold ωro at e;split at e<;>cases e
 · refine eJ ho hst x (hc x) l1 fun H=>?_
   rw[l2];rfl
 · subst hQ
   have r:=R'.core.rc (.x 0) [0];have hs:=R'.shx 0;have r:RC h' ω' (.at (.x 0) [0]) (.fl (.bool true)) (u.fcell [0]):=r
   have hu:u.fcell [0]=u:=by
    have hs:AZ (.fl (.bool true)) u:=hs
    cases u<;>first|rfl|exact absurd rfl (hs.1 _)|exact absurd rfl (hs.2 _)
   rw[hu] at r;cases r;rfl
def rk(pu:Bool)(res:List ARes)(h0:Ac)(Q:V→Ac→Prop):Fb:=U2 ⟨0,0,0,pu,res,.skip⟩ h0 Q
@[congr] theorem xr {c:ACode} {k:Fb} {st st':St} (h:st=st'):D2 c k st=D2 c k st':=by rw[h]
@[congr] theorem xn {o:List AOper} {k:St→Prop} {st st':St} (h:st=st'):CF o k st=CF o k st':=by rw[h]
@[congr] theorem xq {o:AOp} {d:Option Nat} {k:St→Prop} {st st':St} (h:st=st'):A8 o d k st=A8 o d k st':=by rw[h]
@[congr] theorem xp {n:St→Prop} {k:Fb} {e e':AExit} {st st':St} (he:e=e') (h:st=st'):MF n k e st=MF n k e' st':=by rw[he,h]
@[congr] theorem xk {i:Nat} {k:Fb} {e e':AExit} {st st':St} (he:e=e') (h:st=st'):Oa i k e st=Oa i k e' st':=by rw[he,h]
@[congr] theorem xt {pu:Bool} {res:List ARes} {h0:Ac} {Q:V→Ac→Prop} {e e':AExit} {st st':St} (he:e=e') (h:st=st'):rk pu res h0 Q e st=rk pu res h0 Q e' st':=by rw[he,h]
def wH:V→Option V
 |.nils=>some (.int .i64 0)
 |.slice _ _ n=>some (.int .i64 n)
 |_=>none
def gb(hp:Ac)(n:Option Nat):V→Option V
 |.ptr l o=>(rd hp l o (n.getD 1)).bind fun cs=>C0 n cs
 |_=>none
def W5(bx:List (List V))(hp:Ac)(n:Nat)(a x:V):Option (V×List (List V)×Ac):=match a with
 |.ptr l o=>if x.cells.length=n∧x.cells.all V.cell then (wr hp l o x.cells).bind fun h=>some (.undef,bx,h) else none
 |_=>none
theorem bind_some{α:Type}(o:Option α):(o.bind fun x=>some x)=o:=by cases o<;>rfl
section
variable {α:Type}
def OH(f:α→Int→α×Int):List α→Int→List α×Int
 |[],m=>([],m)
 |a::r,m=>((f a m).1::(OH f r (f a m).2).1,(OH f r (f a m).2).2)
end
def wq:IntKind→Int→Int
 |.i64,m=>m
 |k,m=>k.wrap m
mutual
def CT.mkI:(t:CT)→t.D→Int→t.D×Int
 |.int k,_,m=>(wq k m,IntKind.i64.wrap (m+1))
 |.bool,_,m=>((m.tmod 3 == 0:Bool),IntKind.i64.wrap (m+1))
 |.str,s,m=>(s,m)
 |.ifc,b,m=>(b,m)
 |.sl r,l,m=>OH (RT.mkI r) l m
def RT.mkI:(r:RT)→r.D→Int→r.D×Int
 |.one t,x,m=>CT.mkI t x m
 |.cons t r,x,m=>(((CT.mkI t x.1 m).1,(RT.mkI r x.2 (CT.mkI t x.1 m).2).1),(RT.mkI r x.2 (CT.mkI t x.1 m).2).2)
end
mutual
def CT.wl:(t:CT)→t.D→Prop
 |.sl r,l=>l.length≤9223372036854775807∧∀ a:r.D,List.Mem a l→RT.wl r a
 |_,_=>True
def RT.wl:(r:RT)→r.D→Prop
 |.one t,x=>CT.wl t x
 |.cons t r,x=>CT.wl t x.1∧RT.wl r x.2
end
section
variable {h h':Ac} {ω:Nat→W} {hd:Hd} {p:List Nat}
abbrev Mu (ω:Nat→W) (hd:Hd) (p:List Nat):Nat→Prop:=fun l=>∃ q,ω l= .own hd (p++q)
abbrev MS (h:Ac) (ω:Nat→W) (hd:Hd) (p:List Nat) (r:RT) (l:List r.D) (u:V):Prop:=RC h ω (.inn hd p) (.sl .own (l.map r.enc)) u
theorem MS.len{r:RT}{l:List r.D}{u:V}(M:MS h ω hd p r l u):wH u=some (.int .i64 (l.length:Int)):=by
 unfold MS at M;generalize he:l.map r.enc=es at M
 have hl:l.length=es.length:=by rw[← he,Bb]
 cases M with
 |nil=>rw[hl];rfl
 |sl _ _ _ l o n b h1 hk hc hne hn hw hle hr=>rw[hl,← hn];rfl
theorem MS.ok1{r:RT}{l:List r.D}{u:V}(M:MS h ω hd p r l u):u.ok1=true∧u.cell=true:=by
 unfold MS at M;generalize l.map r.enc=es at M;cases M<;>exact⟨rfl,rfl⟩
theorem MS.slice{r:RT}{l:List r.D}{u:V}(M:MS h ω hd p r l u)(hl:0<l.length):∃ b,u= .slice b 0 l.length:=by
 unfold MS at M;generalize he:l.map r.enc=es at M
 have hl':l.length=es.length:=by rw[← he,Bb]
 cases M with
 |nil=>rw[hl'] at hl;simp at hl
 | sl _ _ _ b o n bk h1 hk hc hne hn hw hle hr=>
   obtain⟨_,rfl,_⟩:=hc;exact⟨b,by rw[hl',hn]⟩
theorem MS.upd {r:RT} {l:List r.D} {b n:Nat} (M:MS h ω hd p r l (.slice b 0 n)) {i off:Nat} (hi:i<l.length) (hoff:off<r.w) {y:r.D} {c:PV} (hy:r.enc y=Aw (r.enc (l.getD i r.dflt)) off [c])
 {bk:Blk} (h1:h[b]?=some bk) {cs':List V} (h1':h'[b]?=some { bk with cs:=cs' }) (hcl:cs'.length=bk.cs.length) {v:V} (hcs:∀ k,get cs' k=if k=i*r.w+off then v else get bk.cs k)
 (hO:∀ x,x≠b→(∀ q,ω x≠.own hd (p++(i*r.w+off)::q))→h'[x]?=h[x]?) (hc:RC h' ω (.inn hd (p++[i*r.w+off])) c v):MS h' ω hd p r (l.set i y) (.slice b 0 n):=by
 unfold MS at M ⊢
 rw[← P1,hy,← GJ r l i hi]
 generalize he:l.map r.enc=es at M
 have hl':l.length=es.length:=by rw[← he,Bb]
 have hwr:∀ e∈es,e.length=r.w:=by rw[← he];intro e h;obtain⟨x,_,rfl⟩:=List.mem_map.1 h;exact KC r x
 have hi':i<es.length:=by rw[← hl'];exact hi
 cases M with
 | sl _ _ _ _ o _ bk' h1b hk hch hne hn hw hle hr=>
   rw[h1] at h1b;cases h1b
   have hbw:bk.w=r.w:=by rw[← hw _ (Eg (l:=es) hi')];exact hwr _ (Eg hi')
   have hel:=LZ hw hi';obtain⟨hb1,_,hb3⟩:=hch
   refine RC.sl _ .own _ b 0 n { bk with cs:=cs' } h1' hk ⟨hb1,rfl,hb3⟩ (fun _ _ h=>by have:=congrArg List.length h;rw[Er] at this;simp only[AK] at this;omega) (by rw[Er];exact hn) (Qv hw (by rw[FQ];exact hel)) (by rw[Er];simp only[hcl];exact hle) fun k hk'=>?_
   simp only[Er] at hk';rw[Ts hw hi' (by rw[hbw];simp only[AG,AK];omega) k hk',BF,hcs];simp only[AG,AK,hbw];by_cases hkk:k=i*r.w+off
   · subst hkk;rw[Ab ⟨by omega,by omega⟩,Ab rfl,Ug];exact hc
   · rw[Ad (by omega),Ad hkk];have r0:=hr k hk';rw[BF] at r0;refine r0.inn0 (f:=Ren.id) (T:=fun x=>x=b∨∃ q,ω x= .own hd (p++(i*r.w+off)::q)) ⟨fun x e=>⟨e,hO x (by rintro rfl;rw[hb1] at e;cases e) (fun q e'=>by rw[e] at e';cases e')⟩,fun x a q e hn=>⟨by rw[e];rfl,hO x (fun h=>hn (.inl h)) (fun q' e'=>hn (.inr ⟨q',e'⟩))⟩⟩ (fun x q e hT=>?_) (fun q=>rfl);rcases hT with rfl|⟨q',e'⟩
     · rw[hb1] at e;simp only[W.own.injEq] at e;have:=congrArg List.length e.2;simp at this
     · rw[e] at e';simp only[W.own.injEq,BH,Cp,CQ,List.append_cancel_left_eq,GL] at e';exact hkk e'.2.1
theorem MS.store {r:RT} {l:List r.D} {b n:Nat} (M:MS h ω hd p r l (.slice b 0 n)) {i off:Nat} (hi:i<l.length) (hoff:off<r.w) {v:V} (hv:v.flat=true) (hvc:v.cells=[v]) {y:r.D} (hy:r.enc y=Aw (r.enc (l.getD i r.dflt)) off [.fl v])
 (hinj:∀ l l' a q,ω l= .own a q→ω l'= .own a q→l=l') (bx:List (List V)):∃ h',W5 bx h 1 (.ptr b (i*r.w+off)) v=some (.undef,bx,h')∧Only (Mu ω hd p) h h'∧MS h' ω hd p r (l.set i y) (.slice b 0 n):=by
 have M0:=M
 unfold MS at M0
 generalize he:l.map r.enc=es at M0
 have hl':l.length=es.length:=by rw[← he,Bb]
 have hwr:∀ e∈es,e.length=r.w:=by rw[← he];intro e h;obtain⟨x,_,rfl⟩:=List.mem_map.1 h;exact KC r x
 have hi':i<es.length:=by rw[← hl'];exact hi
 cases M0 with
 | sl _ _ _ _ o _ bk h1 hk hch hne hn hw hle hr=>
   have hbw:bk.w=r.w:=by rw[← hw _ (Eg (l:=es) hi')];exact hwr _ (Eg hi')
   obtain⟨hb1,_,hb3⟩:=hch
   have hlt:i*r.w+off<bk.cs.length:=by
    have:(i+1)*r.w≤es.length*r.w:=Ii _ hi';rw[Dr,KR] at this;rw[hbw] at hle;omega
   have hb:b<h.length:=B4 h1
   have hset:∀ k,(h.set b { bk with cs:=splice bk.cs (i*r.w+off) [v] })[k]?=if k=b then some { bk with cs:=splice bk.cs (i*r.w+off) [v] } else h[k]?:=by
    intro k;rw[Ev];by_cases hk:b=k
    · subst hk;simp[hb]
    · rw[Ad hk,Ad (fun h'=>hk h'.symm)]
   have hvcell:[v].all V.cell=true:=by
    cases v<;>first|rfl|(simp[V.flat] at hv)
   refine⟨h.set b { bk with cs:=splice bk.cs (i*r.w+off) [v] },?_,⟨by simp,fun x hx=>?_,fun x bx' hx=>?_⟩,M.upd hi hoff hy h1 (cs':=splice bk.cs (i*r.w+off) [v]) (v:=v) (by rw[hset,Ab rfl]) (Fm _ _ _) (fun k=>?_) (fun x hx _=>by rw[hset,Ad hx]) (.v _ _ hv)⟩
   · have hwr':wr h b (i*r.w+off) [v]=some (h.set b { bk with cs:=splice bk.cs (i*r.w+off) [v] }):=by
      rw[wr,h1];simp only;rw[Ab ⟨hb3,by simp only[AG,AK];omega⟩]
     simp only[W5,hvc,hvcell,AG,AK,hwr'];rfl
   · rw[hset,Ad];rintro rfl;exact hx ⟨[],by rw[hb1];simp⟩
   · by_cases hxb:x=b
     · subst hxb;rw[h1] at hx;cases hx;exact⟨{ bk with cs:=splice bk.cs (i*r.w+off) [v] },by rw[hset,Ab rfl],rfl,rfl,Fm _ _ _⟩
     · exact⟨bx',by rw[hset,Ad hxb];exact hx,rfl,rfl,rfl⟩
   · rw[Pv _ _ _ _ (by simp only[AG,AK];omega)];simp only[AG,AK];by_cases hkk:k=i*r.w+off
     · subst hkk;rw[Ab ⟨by omega,by omega⟩,Ab rfl,Ug];rfl
     · rw[Ad (by omega),Ad hkk]
theorem MS.load{r:RT}{l:List r.D}{b n:Nat}(M:MS h ω hd p r l (.slice b 0 n)){i off:Nat}(hi:i<l.length)(hoff:off<r.w){r':RT}{l':List r'.D}(hx:Aa (r.enc (l.getD i r.dflt)) off= .sl .own (l'.map r'.enc)) :
 ∃ u,gb h none (.ptr b (i*r.w+off))=some u∧MS h ω hd (p++[i*r.w+off]) r' l' u∧∃ bk,h[b]?=some bk∧get bk.cs (i*r.w+off)=u:=by
 have M0:=M
 unfold MS at M0
 rw[← GJ r l i hi] at hx
 generalize he:l.map r.enc=es at M0 hx
 have hl':l.length=es.length:=by rw[← he,Bb]
 have hwr:∀ e∈es,e.length=r.w:=by rw[← he];intro e h;obtain⟨x,_,rfl⟩:=List.mem_map.1 h;exact KC r x
 have hi':i<es.length:=by rw[← hl'];exact hi
 cases M0 with
 | sl _ _ _ _ o _ bk h1 hk hch hne hn hw hle hr=>
   have hbw:bk.w=r.w:=by rw[← hw _ (Eg (l:=es) hi')];exact hwr _ (Eg hi')
   have hm:(i+1)*r.w≤es.length*r.w:=Ii _ hi';rw[Dr,KR] at hm
   have hlt:i*r.w+off<bk.cs.length:=by rw[hbw] at hle;omega
   have r0:=hr (i*r.w+off) (by rw[hbw];omega);rw[BF] at r0;have hf:Aa es.flatten (i*r.w+off)=Aa (AU es i) off:=Hm (w:=r.w) (by rw[← hbw];exact hw) i off hoff;rw[hf,hx] at r0;refine⟨get bk.cs (i*r.w+off),?_,r0,bk,h1,rfl⟩
   have e1:rd h b (i*r.w+off) 1=some ((bk.cs.drop (i*r.w+off)).take 1):=by
    rw[rd,h1];simp only;rw[Ab ⟨hk,by omega⟩]
   show (rd h b (i*r.w+off) 1).bind (C0 none)=_;rw[e1];rw[Mc hlt];simp only[YO,List.take_zero,Fy,C0,CO,AF hlt];rfl
theorem MS.sub {r:RT} {l:List r.D} {b n:Nat} (M:MS h ω hd p r l (.slice b 0 n)) {i off:Nat} (hi:i<l.length) (hoff:off<r.w) {u:V} {bk:Blk} (h1:h[b]?=some bk) (hu:get bk.cs (i*r.w+off)=u)
 (hO:Only (Mu ω hd (p++[i*r.w+off])) h h') {r':RT} {l':List r'.D} (hr:MS h' ω hd (p++[i*r.w+off]) r' l' u) {y:r.D} (hy:r.enc y=Aw (r.enc (l.getD i r.dflt)) off [.sl .own (l'.map r'.enc)]) :
 Only (Mu ω hd p) h h'∧MS h' ω hd p r (l.set i y) (.slice b 0 n):=by
 have hb1:ω b= .own hd p:=by
  have M0:=M;unfold MS at M0;generalize l.map r.enc=es at M0
  cases M0 with
  |sl _ _ _ _ o _ bk h1 hk hch hne hn hw hle hr=>exact hch.1
 refine⟨hO.mono fun x ⟨q,e⟩=>⟨(i*r.w+off)::q,by rw[e];simp⟩,M.upd hi hoff hy h1 (cs':=bk.cs) (v:=u) ?_ rfl (fun k=>?_) (fun x _ hx=>hO.off x (fun⟨q,e⟩=>hx q (by rw[e];simp))) hr⟩
 · rw[hO.off b]
   · exact h1
   · rintro⟨q,e⟩;rw[hb1] at e;simp only[W.own.injEq] at e;have:=congrArg List.length e.2;simp at this
 · split
   · rename_i hk;rw[hk,hu]
   · rfl
theorem MS.frame{r:RT}{l:List r.D}{u:V}(M:MS h ω hd p r l u){i:Nat}(hi:i<l.length):MS h ω hd p r (l.set i (l.getD i r.dflt)) u:=by
 have:l.set i (l.getD i r.dflt)=l:=by
  rw[BN,AF hi];simp
 rw[this];exact M
theorem Wk{r:RT}{l:List r.D}{i:Nat}(hi:i<l.length)(x:r.D):(l.set i x).getD i r.dflt=x:=by
 rw[BN,List.getElem?_set_self (by simpa using hi)];rfl
theorem MS.st {r:RT} {l:List r.D} {b n i:Nat} {x:r.D} (M:MS h ω hd p r (l.set i x) (.slice b 0 n)) (hi:i<l.length) {off:Nat} (hoff:off<r.w) {v:V} (hv:v.flat=true) (hvc:v.cells=[v]) {y:r.D} (hy:r.enc y=Aw (r.enc x) off [.fl v])
 (hinj:∀ l l' a q,ω l= .own a q→ω l'= .own a q→l=l') (bx:List (List V)):∃ h',W5 bx h 1 (.ptr b (i*r.w+off)) v=some (.undef,bx,h')∧Only (Mu ω hd p) h h'∧MS h' ω hd p r (l.set i y) (.slice b 0 n):=by
 obtain⟨h',e1,e2,e3⟩:=M.store (i:=i) (off:=off) (by simpa using hi) hoff hv hvc (y:=y) (by rw[Wk hi];exact hy) hinj bx
 rw[List.set_set] at e3
 exact⟨h',e1,e2,e3⟩
theorem MS.sb{r:RT}{l:List r.D}{b n i:Nat}{x:r.D}(M:MS h ω hd p r (l.set i x) (.slice b 0 n))(hi:i<l.length){off:Nat}(hoff:off<r.w){r':RT}{l':List r'.D}(hx:Aa (r.enc x) off= .sl .own (l'.map r'.enc)) :
 ∃ u,gb h none (.ptr b (i*r.w+off))=some u∧MS h ω hd (p++[i*r.w+off]) r' l' u ∧
   ∀ (h':Ac) (l'':List r'.D) (y:r.D),Only (Mu ω hd (p++[i*r.w+off])) h h'→MS h' ω hd (p++[i*r.w+off]) r' l'' u→r.enc y=Aw (r.enc x) off [.sl .own (l''.map r'.enc)]→Only (Mu ω hd p) h h'∧MS h' ω hd p r (l.set i y) (.slice b 0 n):=by
 obtain⟨u,e1,e2,bk,e3,e4⟩:=M.load (i:=i) (off:=off) (by simpa using hi) hoff (r':=r') (l':=l') (by rw[Wk hi];exact hx)
 refine⟨u,e1,e2,fun h' l'' y hO hM hy=>?_⟩
 obtain⟨k1,k2⟩:=M.sub (i:=i) (off:=off) (by simpa using hi) hoff e3 e4 hO hM (y:=y) (by rw[Wk hi];exact hy)
 rw[List.set_set] at k2
 exact⟨k1,k2⟩
theorem RC.flat1{H:Ac}{m:Md}{x u:V}(r:RC H ω m (.fl x) u)(hx:x≠.undef):u=x:=by
 cases r with
 |undef=>exact absurd rfl hx
 |v=>rfl
end
def SlC(s:A3)(r:RT):Prop:=∀ (h:Ac) (ω:Nat→W) (hd:Hd) (p:List Nat) (l:List r.D) (u:V) (m:Int) (Q:V→Ac→Prop),CT.wl (.sl r) l→(∀ l l' a q,ω l= .own a q→ω l'= .own a q→l=l')→MS h ω hd p r l u →
 (∀ h',Only (Mu ω hd p) h h'→MS h' ω hd p r (OH r.mkI l m).1 u→Q (.int .i64 (OH r.mkI l m).2) h')→s [u,.int .i64 m] h Q
def xc(r:RT):DMk:=⟨.one (.sl r),false,fun l=>CT.wl (.sl r) l,fun l m=>OH r.mkI l m,false⟩
theorem SlC.sound{s:A3}{r:RT}(hs:SlC s r):Yz s (xc r).P:=by
 rintro h ω hd P b A4 us u m K Q hinj hu hl hr ⟨x,rfl,hok,hK⟩ hQ;have hu:us=[u]:=hu;subst hu;have h0:=hr 0 (by show 0<1;omega)
 refine hs h ω hd (P++[b]) x u m Q hok hinj h0 fun h' hO hM=>?_
 refine hQ _ _ h' hK rfl (hO.mono fun l ⟨q,e⟩=>⟨0,_,q,by show 0<1;omega,rfl,by rw[e];simp⟩) fun c hc=>?_
 have:c=0:=by have:c<1:=hc;omega
 subst this;exact hM
structure Fn where
 d:DFun
 h:List HT
 q:QT
@[irreducible] def Fn.S(F:Fn):A3:=F5 F.d.er.er
@[irreducible] def Fn.P(F:Fn):BI:=DA F.d.er
@[irreducible] def Fn.V(F:Fn)(x:TuX F.h):F.q.D:=(shut fun x=>MI F.d F.h F.q x).1 x
@[irreducible] def Fn.O(F:Fn)(x:TuX F.h):Prop:=(shut fun x=>Mx F.d F.h F.q x).1 x
def Fn.D(F:Fn):FE:=Ij F.h F.q F.O F.V
theorem Fn.v(F:Fn)(x:TuX F.h):F.V x=MI F.d F.h F.q x:=by unfold Fn.V;exact congrFun (shut _).2 x
theorem Fn.o(F:Fn)(x:TuX F.h):F.O x=Mx F.d F.h F.q x:=by unfold Fn.O;exact congrFun (shut _).2 x
def Fn.A(F:Fn):Prop:=Dd F.S F.P
def Fn.B(F:Fn):Prop:=Il F.P F.D
theorem BS{F:Fn}(o:AllP F.d.er.body.obs):F.A:=by unfold Fn.A Fn.S Fn.P;exact H6 o
theorem BV{F:Fn}(o:AllD F.d.body.obs)(st:OB F.d F.h F.q=true)(c:∀ x,Ox F.d F.h F.q x=true):F.B:=by
 unfold Fn.B Fn.P;exact qQ o st c (fun x h=>Eq.mp (F.o x) h) (fun x=>(F.v x).symm)
@[reducible] def oF (i d:Nat) (F:Fn) (args:List Opnd):DOper:=⟨i,some d,.call false F.S F.P F.D args,none,[]⟩
@[reducible] def xF (i d:Nat) (F:Fn) (args:List Opnd) (a:List Nat):DOper:=⟨i,some d,.call false F.S F.P F.D args,none,a⟩
theorem lF{P:Program}(hm:P.follows .mixedOrders=true){F:Fn}{f:FuncId}{fn:Func}{obs:List (FuncId×A3)}(hf:P.funcs[f]?=some fn)(hk:F8 P fn F.d.er.er=true)(ho:Ge P fn F.d.er.er=obs)(hob:AllSound P obs):AB P f F.S:=by
 unfold Fn.S;exact HY hm hf hk ho hob
section
set_option maxRecDepth 8000
def mO:DCode:=(.seq [0] (.region [oa 0 2 (.mv (.c (.bool false)))]) (.seq [2] (.region [om 0 3 0,oa 1 4 (.bin .geq (.t 3) (.c (.int .i64 1))),om 2 5 4,og 3 6 (.mv (.t 0)) 5 true,og 4 7 (.bin .leq (.t 6) (.c (.int .i64 56))) 5 true,oa 5 8 (.pick (.t 5) (.t 7) (.c (.bool false))),om 6 2 8]) .ret))
def EY:Fn:=⟨⟨1,9,0,true,[.tmp 2],mO⟩,[.one .frz (.int .i64)],.one (.one .own (.bool))⟩
theorem VN:EY.A:=BS trivial
def He:Int→Bool:=EY.V
def Nf:Int→Prop:=EY.O
theorem VU:EY.B:=BV trivial (by kernel_rfl) (fun x=>by kernel_rfl)
def na:DCode:=(.seq [0] (.region [oa 0 2 (.mv (.c (.bool false)))]) (.seq [2] (.region [om 0 3 0,oa 1 4 (.bin .geq (.t 3) (.c (.int .i64 1))),om 2 5 4,og 3 6 (.mv (.t 0)) 5 true,og 4 7 (.bin .leq (.t 6) (.c (.int .i64 15))) 5 true,oa 5 8 (.pick (.t 5) (.t 7) (.c (.bool false))),om 6 2 8]) .ret))
def Dw:Fn:=⟨⟨1,9,0,true,[.tmp 2],na⟩,[.one .frz (.int .i64)],.one (.one .own (.bool))⟩
theorem VT:Dw.A:=BS trivial
def Nn:Int→Bool:=Dw.V
def LB:Int→Prop:=Dw.O
theorem VR:Dw.B:=BV trivial (by kernel_rfl) (fun x=>by kernel_rfl)
def mN:DCode:=(.seq [0] (.region [oa 0 2 (.mv (.c (.bool false)))]) (.seq [2] (.region [om 0 3 0,oa 1 4 (.bin .geq (.t 3) (.c (.int .i64 1))),om 2 5 4,og 3 6 (.mv (.t 0)) 5 true,og 4 7 (.bin .leq (.t 6) (.c (.int .i64 3))) 5 true,oa 5 8 (.pick (.t 5) (.t 7) (.c (.bool false))),om 6 2 8]) .ret))
def EU:Fn:=⟨⟨1,9,0,true,[.tmp 2],mN⟩,[.one .frz (.int .i64)],.one (.one .own (.bool))⟩
theorem Z6:EU.A:=BS trivial
def Sf:Int→Bool:=EU.V
def Pa:Int→Prop:=EU.O
theorem Z9:EU.B:=BV trivial (by kernel_rfl) (fun x=>by kernel_rfl)
def mq:DCode:=(.seq [1] (.region [oa 0 1 (.boxB 0 4 (.t 0)),oa 1 2 (.mv (.c (.bool false)))]) (.seq [] (.seq [4,1] (.region [oa 0 3 (.fieldA 0 (.t 1)),oa 1 4 (.loadB 0 none (.t 3))]) (.block 0 (.seq [5,4,1] (.seq [5,4,1] (.region [oa 0 6 (.bin .eql (.t 4) (.c (.int .i64 0))),om 1 5 6]) (.cond (.t 5) .skip (.seq [5,4,1] (.region [oa 0 7 (.bin .eql (.t 4) (.c (.int .i64 1))),om 1 5 7]) (.cond (.t 5) .skip (.region [oa 0 8 (.bin .eql (.t 4) (.c (.int .i64 10))),om 1 5 8]))))) (.cond (.t 5) (.seq [2] (.region [oa 0 9 (.fieldA 1 (.t 1)),oa 1 10 (.loadB 0 none (.t 9)),oa 2 11 (.bin .eql (.t 10) (.c (.int .i64 0))),om 3 12 11,og 4 13 (.fieldA 2 (.t 1)) 12 true,og 5 14 (.loadB 0 none (.t 13)) 12 true,og 6 15 (.bin .eql (.t 14) (.c (.int .i64 0))) 12 true,oa 7 16 (.pick (.t 12) (.t 15) (.c (.bool false))),om 8 17 16,og 9 18 (.fieldA 3 (.t 1)) 17 true,og 10 19 (.loadB 0 none (.t 18)) 17 true,og 11 20 (.bin .eql (.t 19) (.c (.int .i64 0))) 17 true,oa 12 21 (.pick (.t 17) (.t 20) (.c (.bool false))),om 13 2 21]) .ret) (.seq [22,4,1] (.region [oa 0 23 (.bin .eql (.t 4) (.c (.int .i64 2))),om 1 22 23]) (.cond (.t 22) (.seq [2] (.region [oa 0 24 (.fieldA 3 (.t 1)),oa 1 25 (.loadB 0 none (.t 24)),oa 2 26 (.bin .eql (.t 25) (.c (.int .i64 0))),om 3 27 26,og 4 28 (.fieldA 1 (.t 1)) 27 true,og 5 29 (.loadB 0 none (.t 28)) 27 true,og 6 30 (.bin .eql (.t 29) (.c (.int .i64 0))) 27 true,og 7 31 (.mv (.t 30)) 27 true,og 8 32 (.fieldA 1 (.t 1)) 31 false,og 9 33 (.loadB 0 none (.t 32)) 31 false,⟨10,some 34,.call false EY.S EY.P EY.D [(.t 33)],(some (31,false)),[]⟩,og 11 35 (.pick (.t 31) (.c (.bool true)) (.t 34)) 27 true,oa 12 36 (.pick (.t 27) (.t 35) (.c (.bool false))),om 13 37 36,og 14 38 (.fieldA 2 (.t 1)) 37 true,og 15 39 (.loadB 0 none (.t 38)) 37 true,og 16 40 (.bin .eql (.t 39) (.c (.int .i64 0))) 37 true,og 17 41 (.mv (.t 40)) 37 true,og 18 42 (.fieldA 2 (.t 1)) 41 false,og 19 43 (.loadB 0 none (.t 42)) 41 false,⟨20,some 44,.call false Dw.S Dw.P Dw.D [(.t 43)],(some (41,false)),[]⟩,og 21 45 (.pick (.t 41) (.c (.bool true)) (.t 44)) 37 true,oa 22 46 (.pick (.t 37) (.t 45) (.c (.bool false))),om 23 47 46,og 24 48 (.fieldA 1 (.t 1)) 47 true,og 25 49 (.loadB 0 none (.t 48)) 47 true,og 26 50 (.bin .neq (.t 49) (.c (.int .i64 0))) 47 true,og 27 51 (.mv (.t 50)) 47 true,og 28 52 (.fieldA 2 (.t 1)) 51 false,og 29 53 (.loadB 0 none (.t 52)) 51 false,og 30 54 (.bin .neq (.t 53) (.c (.int .i64 0))) 51 false,og 31 55 (.pick (.t 51) (.c (.bool true)) (.t 54)) 47 true,oa 32 56 (.pick (.t 47) (.t 55) (.c (.bool false))),om 33 2 56]) .ret) (.seq [57,4,1] (.seq [57,4,1] (.region [oa 0 58 (.bin .eql (.t 4) (.c (.int .i64 3))),om 1 57 58]) (.cond (.t 57) .skip (.region [oa 0 59 (.bin .eql (.t 4) (.c (.int .i64 4))),om 1 57 59]))) (.cond (.t 57) (.seq [2] (.region [oa 0 60 (.fieldA 1 (.t 1)),oa 1 61 (.loadB 0 none (.t 60)),oa 2 62 (.bin .eql (.t 61) (.c (.int .i64 0))),om 3 63 62,og 4 64 (.fieldA 2 (.t 1)) 63 true,og 5 65 (.loadB 0 none (.t 64)) 63 true,og 6 66 (.bin .eql (.t 65) (.c (.int .i64 0))) 63 true,oa 7 67 (.pick (.t 63) (.t 66) (.c (.bool false))),om 8 68 67,og 9 69 (.fieldA 3 (.t 1)) 68 true,og 10 70 (.loadB 0 none (.t 69)) 68 true,⟨11,some 71,.call false EU.S EU.P EU.D [(.t 70)],(some (68,true)),[]⟩,oa 12 72 (.pick (.t 68) (.t 71) (.c (.bool false))),om 13 2 72]) .ret) (.seq [73,4,1] (.region [oa 0 74 (.bin .eql (.t 4) (.c (.int .i64 5))),om 1 73 74]) (.cond (.t 73) (.seq [2] (.region [oa 0 75 (.fieldA 1 (.t 1)),oa 1 76 (.loadB 0 none (.t 75)),oa 2 77 (.bin .eql (.t 76) (.c (.int .i64 0))),om 3 78 77,og 4 79 (.fieldA 2 (.t 1)) 78 true,og 5 80 (.loadB 0 none (.t 79)) 78 true,og 6 81 (.bin .eql (.t 80) (.c (.int .i64 0))) 78 true,oa 7 82 (.pick (.t 78) (.t 81) (.c (.bool false))),om 8 83 82,og 9 84 (.fieldA 3 (.t 1)) 83 true,og 10 85 (.loadB 0 none (.t 84)) 83 true,og 11 86 (.bin .geq (.t 85) (.c (.int .i64 0))) 83 true,oa 12 87 (.pick (.t 83) (.t 86) (.c (.bool false))),om 13 88 87,og 14 89 (.fieldA 3 (.t 1)) 88 true,og 15 90 (.loadB 0 none (.t 89)) 88 true,og 16 91 (.bin .leq (.t 90) (.c (.int .i64 3))) 88 true,oa 17 92 (.pick (.t 88) (.t 91) (.c (.bool false))),om 18 2 92]) .ret) (.seq [93,4,1] (.region [oa 0 94 (.bin .eql (.t 4) (.c (.int .i64 9))),om 1 93 94]) (.cond (.t 93) (.seq [2] (.region [oa 0 95 (.fieldA 1 (.t 1)),oa 1 96 (.loadB 0 none (.t 95)),oa 2 97 (.bin .eql (.t 96) (.c (.int .i64 0))),om 3 98 97,og 4 99 (.fieldA 2 (.t 1)) 98 true,og 5 100 (.loadB 0 none (.t 99)) 98 true,og 6 101 (.bin .eql (.t 100) (.c (.int .i64 0))) 98 true,oa 7 102 (.pick (.t 98) (.t 101) (.c (.bool false))),om 8 103 102,og 9 104 (.fieldA 3 (.t 1)) 103 true,og 10 105 (.loadB 0 none (.t 104)) 103 true,og 11 106 (.bin .geq (.t 105) (.c (.int .i64 0))) 103 true,oa 12 107 (.pick (.t 103) (.t 106) (.c (.bool false))),om 13 108 107,og 14 109 (.fieldA 3 (.t 1)) 108 true,og 15 110 (.loadB 0 none (.t 109)) 108 true,og 16 111 (.bin .leq (.t 110) (.c (.int .i64 3))) 108 true,oa 17 112 (.pick (.t 108) (.t 111) (.c (.bool false))),om 18 2 112]) .ret) (.seq [113,4,1] (.region [oa 0 114 (.bin .eql (.t 4) (.c (.int .i64 6))),om 1 113 114]) (.cond (.t 113) (.seq [2] (.region [oa 0 115 (.fieldA 1 (.t 1)),oa 1 116 (.loadB 0 none (.t 115)),oF 2 117 EY [(.t 116)],om 3 118 117,og 4 119 (.fieldA 2 (.t 1)) 118 true,og 5 120 (.loadB 0 none (.t 119)) 118 true,⟨6,some 121,.call false Dw.S Dw.P Dw.D [(.t 120)],(some (118,true)),[]⟩,oa 7 122 (.pick (.t 118) (.t 121) (.c (.bool false))),om 8 123 122,og 9 124 (.fieldA 3 (.t 1)) 123 true,og 10 125 (.loadB 0 none (.t 124)) 123 true,og 11 126 (.bin .eql (.t 125) (.c (.int .i64 0))) 123 true,oa 12 127 (.pick (.t 123) (.t 126) (.c (.bool false))),om 13 2 127]) .ret) (.seq [128,4,1] (.region [oa 0 129 (.bin .eql (.t 4) (.c (.int .i64 7))),om 1 128 129]) (.cond (.t 128) (.seq [2] (.region [oa 0 130 (.fieldA 1 (.t 1)),oa 1 131 (.loadB 0 none (.t 130)),oF 2 132 EY [(.t 131)],om 3 133 132,og 4 134 (.fieldA 2 (.t 1)) 133 true,og 5 135 (.loadB 0 none (.t 134)) 133 true,og 6 136 (.bin .eql (.t 135) (.c (.int .i64 0))) 133 true,oa 7 137 (.pick (.t 133) (.t 136) (.c (.bool false))),om 8 138 137,og 9 139 (.fieldA 3 (.t 1)) 138 true,og 10 140 (.loadB 0 none (.t 139)) 138 true,⟨11,some 141,.call false EU.S EU.P EU.D [(.t 140)],(some (138,true)),[]⟩,oa 12 142 (.pick (.t 138) (.t 141) (.c (.bool false))),om 13 2 142]) .ret) (.seq [143,1] (.region [oa 0 144 (.bin .eql (.t 4) (.c (.int .i64 8))),om 1 143 144]) (.cond (.t 143) (.seq [2] (.region [oa 0 145 (.fieldA 1 (.t 1)),oa 1 146 (.loadB 0 none (.t 145)),oa 2 147 (.bin .eql (.t 146) (.c (.int .i64 0))),om 3 148 147,og 4 149 (.fieldA 2 (.t 1)) 148 true,og 5 150 (.loadB 0 none (.t 149)) 148 true,⟨6,some 151,.call false Dw.S Dw.P Dw.D [(.t 150)],(some (148,true)),[]⟩,oa 7 152 (.pick (.t 148) (.t 151) (.c (.bool false))),om 8 153 152,og 9 154 (.fieldA 3 (.t 1)) 153 true,og 10 155 (.loadB 0 none (.t 154)) 153 true,og 11 156 (.bin .eql (.t 155) (.c (.int .i64 0))) 153 true,oa 12 157 (.pick (.t 153) (.t 156) (.c (.bool false))),om 13 2 157]) .ret) .skip)))))))))))))))))) (.seq [2] (.region [oa 0 2 (.mv (.c (.bool false)))]) .ret)))
def D7:Fn:=⟨⟨1,158,1,true,[.tmp 2],mq⟩,[.agg [(.frz,.int .i64),(.frz,.int .i64),(.frz,.int .i64),(.frz,.int .i64)]],.one (.one .own (.bool))⟩
theorem O5:D7.A:=BS ⟨VN,VT,Z6,VN,VT,VN,Z6,VT,trivial⟩
def CV:Int×Int×Int×Int→Bool:=D7.V
def Jb:Int×Int×Int×Int→Prop:=D7.O
theorem O4:D7.B:=BV ⟨VU,VR,Z9,VU,VR,VU,Z9,VR,trivial⟩ (by kernel_rfl) (fun x=>by kernel_rfl)
def j7:DCode:=(.seq [2,0] (.region [oa 0 2 (.allocB 0 [(.int .i64 0),(.int .i64 0),(.int .i64 0),(.int .i64 0)]),oa 1 3 (.mv (.c (.bool false)))]) (.seq [2,0] (.seq [7,2,0] (.region [on 0 5 0,oa 1 6 (.len (.t 5)),oa 2 7 (.bin .neq (.t 6) (.c (.int .i64 3)))]) (.cond (.t 7) (.seq [3,2] (.region [oa 0 8 (.build [(.int .i64 0),(.int .i64 0),(.int .i64 0),(.int .i64 0)] []),os 1 (.storeB 0 4 (.t 2) (.t 8)),oa 2 3 (.mv (.c (.bool false)))]) .ret) .skip)) (.seq [4,2] (.region [on 0 9 0,xA 1 10 (.indexA 1 (.t 9) (.c (.int .i64 0))) (rg 1),xA 2 11 (.loadH none (.t 10)) (rg 2),xA 3 12 (.conv .i64 (.t 11)) (rg 3),xA 4 13 (.bin .quo (.t 12) (.c (.int .i64 16))) (rg 4),on 5 14 0,xA 6 15 (.indexA 1 (.t 14) (.c (.int .i64 1))) [5],xA 7 16 (.loadH none (.t 15)) [5,6],xA 8 17 (.conv .i64 (.t 16)) [5,6,7],on 9 18 0,xA 10 19 (.indexA 1 (.t 18) (.c (.int .i64 2))) [9],xA 11 20 (.loadH none (.t 19)) [9,10],xA 12 21 (.conv .i64 (.t 20)) [9,10,11],on 13 22 0,xA 14 23 (.indexA 1 (.t 22) (.c (.int .i64 0))) [13],xA 15 24 (.loadH none (.t 23)) [13,14],xA 16 25 (.conv .i64 (.t 24)) [13,14,15],xA 17 26 (.bin .rem (.t 25) (.c (.int .i64 16))) [13,14,15,16],xA 18 27 (.build [(.int .i64 0),(.int .i64 0),(.int .i64 0),(.int .i64 0)] [(0,1,(.t 13)),(1,1,(.t 17)),(2,1,(.t 21)),(3,1,(.t 26))]) (rg 18),oa 19 4 (.allocH [(.int .i64 0),(.int .i64 0),(.int .i64 0),(.int .i64 0)]),xS 20 (.storeH 4 (.t 4) (.t 27)) (rg 20)]) (.seq [4,2] (.seq [30,4,2] (.region [oa 0 28 (.loadH (some 4) (.t 4)),oF 1 29 D7 [(.t 28)],oa 2 30 (.un .not (.t 29))]) (.cond (.t 30) (.seq [3,2] (.region [oa 0 31 (.build [(.int .i64 0),(.int .i64 0),(.int .i64 0),(.int .i64 0)] []),os 1 (.storeB 0 4 (.t 2) (.t 31)),oa 2 3 (.mv (.c (.bool false)))]) .ret) .skip)) (.seq [3,2] (.region [ob 0 32 (.loadH (some 4) (.t 4)),os 1 (.storeB 0 4 (.t 2) (.t 32)),oa 2 3 (.mv (.c (.bool true)))]) .ret)))))
def IU:Fn:=⟨⟨1,33,1,true,[.cell 2 (some 4),.tmp 3],j7⟩,[.one .frz (.sl (.one (.int .u8)))],.tup [.agg [(.own,.int .i64),(.own,.int .i64),(.own,.int .i64),(.own,.int .i64)],.one .own (.bool)]⟩
theorem jU:IU.A:=BS ⟨O5,trivial⟩
def HQ:List (Int)→(Int×Int×Int×Int)×Bool:=IU.V
def OP:List (Int)→Prop:=IU.O
theorem jY:IU.B:=BV ⟨O4,trivial⟩ (by kernel_rfl) (fun x=>by kernel_rfl)
end
section
set_option maxRecDepth 100000
@[irreducible] def Bt(x:Int×Int×Int):Bool:=(bAnd (iGe x.1 x.2.1) (iLe x.1 x.2.2))
@[irreducible] def D9(x:Int×Int×Int):Prop:=True
@[irreducible] def B1(x:Int×Int×Int×Int):Bool:=(bSel (bOr (iEq x.1 0) (bOr (iEq x.1 1) (iEq x.1 10))) (bAnd (iEq x.2.1 0) (bAnd (iEq x.2.2.1 0) (iEq x.2.2.2 0))) (bSel (iEq x.1 2) (bAnd (iEq x.2.2.2 0) (bSel (Bt (x.2.1,1,56)) (bOr (Bt (x.2.2.1,1,15)) (iEq x.2.2.1 0)) (bAnd (iEq x.2.1 0) (bAnd (Bt (x.2.2.1,1,15)) (bOr (Bt (x.2.2.1,1,15)) (iEq x.2.2.1 0)))))) (bSel (bOr (iEq x.1 3) (iEq x.1 4)) (bAnd (Bt (x.2.2.2,1,3)) (bAnd (iEq x.2.1 0) (iEq x.2.2.1 0))) (bSel (bOr (iEq x.1 5) (iEq x.1 9)) (bAnd (Bt (x.2.2.2,0,3)) (bAnd (iEq x.2.1 0) (iEq x.2.2.1 0))) (bSel (iEq x.1 6) (bAnd (Bt (x.2.1,1,56)) (bAnd (Bt (x.2.2.1,1,15)) (iEq x.2.2.2 0))) (bSel (iEq x.1 7) (bAnd (Bt (x.2.1,1,56)) (bAnd (Bt (x.2.2.2,1,3)) (iEq x.2.2.1 0))) (bAnd (iEq x.1 8) (bAnd (Bt (x.2.2.1,1,15)) (bAnd (iEq x.2.1 0) (iEq x.2.2.2 0))))))))))
@[irreducible] def Lq(x:Int×Int×Int×Int):Prop:=((D9 (x.2.1,1,56))∧((D9 (x.2.2.1,1,15))∧((D9 (x.2.2.2,1,3))∧(((bOr (iEq x.1 0) (bOr (iEq x.1 1) (iEq x.1 10)))=true→True)∧((bOr (iEq x.1 0) (bOr (iEq x.1 1) (iEq x.1 10)))=false→(((iEq x.1 2)=true→True)∧((iEq x.1 2)=false→(((bOr (iEq x.1 3) (iEq x.1 4))=true→True)∧((bOr (iEq x.1 3) (iEq x.1 4))=false→(((bOr (iEq x.1 5) (iEq x.1 9))=true→(D9 (x.2.2.2,0,3)))∧((bOr (iEq x.1 5) (iEq x.1 9))=false→True)))))))))))
@[irreducible] def Lh(x:List (Int)):(Int×Int×Int×Int)×Bool:=(bSel (iNe (lLen x) 3) ((0,0,0,0),false) (bSel (bNot (B1 ((iQuo .i64 (iConv .i64 (lGet x (iNat 0) 0)) 16),(iConv .i64 (lGet x (iNat 1) 0)),(iConv .i64 (lGet x (iNat 2) 0)),(iRem (iConv .i64 (lGet x (iNat 0) 0)) 16)))) ((0,0,0,0),false) (((iQuo .i64 (iConv .i64 (lGet x (iNat 0) 0)) 16),(iConv .i64 (lGet x (iNat 1) 0)),(iConv .i64 (lGet x (iNat 2) 0)),(iRem (iConv .i64 (lGet x (iNat 0) 0)) 16)),true)))
@[irreducible] def Vh(x:List (Int)):Prop:=(((iNe (lLen x) 3)=true→True)∧((iNe (lLen x) 3)=false→((((0:Int)≤0)∧((0:Int)<(((List.length x):Int))))∧(((iNat 0)<(List.length x))∧(((16:Int)≠0)∧((((0:Int)≤0)∧((0:Int)<(((List.length x):Int))))∧(((iNat 0)<(List.length x))∧(((16:Int)≠0)∧((((0:Int)≤1)∧((1:Int)<(((List.length x):Int))))∧(((iNat 1)<(List.length x))∧((((0:Int)≤2)∧((2:Int)<(((List.length x):Int))))∧(((iNat 2)<(List.length x))∧(Lq ((iQuo .i64 (iConv .i64 (lGet x (iNat 0) 0)) 16),(iConv .i64 (lGet x (iNat 1) 0)),(iConv .i64 (lGet x (iNat 2) 0)),(iRem (iConv .i64 (lGet x (iNat 0) 0)) 16)))))))))))))))
theorem az (x):He x=(bAnd (iGe x 1) (iLe x 56)):=(EY.v x).trans (by kernel_rfl)
theorem mQ (x):Nf x=True:=(EY.o x).trans (by kernel_rfl)
theorem aX (x):Nn x=(bAnd (iGe x 1) (iLe x 15)):=(Dw.v x).trans (by kernel_rfl)
theorem mX (x):LB x=True:=(Dw.o x).trans (by kernel_rfl)
theorem Z7 (x):Sf x=(bAnd (iGe x 1) (iLe x 3)):=(EU.v x).trans (by kernel_rfl)
theorem mL (x):Pa x=True:=(EU.o x).trans (by kernel_rfl)
theorem Z2 (x):CV x=(bSel (bOr (iEq x.1 0) (bOr (iEq x.1 1) (iEq x.1 10))) (bAnd (iEq x.2.1 0) (bAnd (iEq x.2.2.1 0) (iEq x.2.2.2 0))) (bSel (iEq x.1 2) (bAnd (iEq x.2.2.2 0) (bSel (iEq x.2.1 0) (bSel (iEq x.2.2.1 0) (bOr (iNe x.2.1 0) (iNe x.2.2.1 0)) (bAnd (Nn x.2.2.1) (bOr (iNe x.2.1 0) (iNe x.2.2.1 0)))) (bAnd (He x.2.1) (bSel (iEq x.2.2.1 0) (bOr (iNe x.2.1 0) (iNe x.2.2.1 0)) (bAnd (Nn x.2.2.1) (bOr (iNe x.2.1 0) (iNe x.2.2.1 0))))))) (bSel (bOr (iEq x.1 3) (iEq x.1 4)) (bAnd (iEq x.2.1 0) (bAnd (iEq x.2.2.1 0) (Sf x.2.2.2))) (bSel (iEq x.1 5) (bAnd (iEq x.2.1 0) (bAnd (iEq x.2.2.1 0) (bAnd (iGe x.2.2.2 0) (iLe x.2.2.2 3)))) (bSel (iEq x.1 9) (bAnd (iEq x.2.1 0) (bAnd (iEq x.2.2.1 0) (bAnd (iGe x.2.2.2 0) (iLe x.2.2.2 3)))) (bSel (iEq x.1 6) (bAnd (He x.2.1) (bAnd (Nn x.2.2.1) (iEq x.2.2.2 0))) (bSel (iEq x.1 7) (bAnd (He x.2.1) (bAnd (iEq x.2.2.1 0) (Sf x.2.2.2))) (bAnd (iEq x.1 8) (bAnd (iEq x.2.1 0) (bAnd (Nn x.2.2.1) (iEq x.2.2.2 0))))))))))):=(D7.v x).trans (by kernel_rfl)
theorem mi (x):Jb x=(((bOr (iEq x.1 0) (bOr (iEq x.1 1) (iEq x.1 10)))=true→True)∧((bOr (iEq x.1 0) (bOr (iEq x.1 1) (iEq x.1 10)))=false→(((iEq x.1 2)=true→(((iEq x.2.2.2 0)=true→(((iEq x.2.1 0)=true→(((iEq x.2.2.1 0)=true→True)∧((iEq x.2.2.1 0)=false→(LB x.2.2.1))))∧((iEq x.2.1 0)=false→((Nf x.2.1)∧(((He x.2.1)=true→(((iEq x.2.2.1 0)=true→True)∧((iEq x.2.2.1 0)=false→(LB x.2.2.1))))∧((He x.2.1)=false→True))))))∧((iEq x.2.2.2 0)=false→True)))∧((iEq x.1 2)=false→(((bOr (iEq x.1 3) (iEq x.1 4))=true→(((iEq x.2.1 0)=true→(((iEq x.2.2.1 0)=true→(Pa x.2.2.2))∧((iEq x.2.2.1 0)=false→True)))∧((iEq x.2.1 0)=false→True)))∧((bOr (iEq x.1 3) (iEq x.1 4))=false→(((iEq x.1 5)=true→True)∧((iEq x.1 5)=false→(((iEq x.1 9)=true→True)∧((iEq x.1 9)=false→(((iEq x.1 6)=true→((Nf x.2.1)∧(((He x.2.1)=true→(LB x.2.2.1))∧((He x.2.1)=false→True))))∧((iEq x.1 6)=false→(((iEq x.1 7)=true→((Nf x.2.1)∧(((He x.2.1)=true→(((iEq x.2.2.1 0)=true→(Pa x.2.2.2))∧((iEq x.2.2.1 0)=false→True)))∧((He x.2.1)=false→True))))∧((iEq x.1 7)=false→(((iEq x.1 8)=true→(((iEq x.2.1 0)=true→(LB x.2.2.1))∧((iEq x.2.1 0)=false→True)))∧((iEq x.1 8)=false→True)))))))))))))))):=(D7.o x).trans (by kernel_rfl)
theorem ZI (x):HQ x=(bSel (iNe (lLen x) 3) ((0,0,0,0),false) (bSel (bNot (CV ((iQuo .i64 (iConv .i64 (lGet x (iNat 0) 0)) 16),(iConv .i64 (lGet x (iNat 1) 0)),(iConv .i64 (lGet x (iNat 2) 0)),(iRem (iConv .i64 (lGet x (iNat 0) 0)) 16)))) ((0,0,0,0),false) (((iQuo .i64 (iConv .i64 (lGet x (iNat 0) 0)) 16),(iConv .i64 (lGet x (iNat 1) 0)),(iConv .i64 (lGet x (iNat 2) 0)),(iRem (iConv .i64 (lGet x (iNat 0) 0)) 16)),true))):=(IU.v x).trans (by kernel_rfl)
theorem ZF (x):OP x=(((iNe (lLen x) 3)=true→True)∧((iNe (lLen x) 3)=false→((((0:Int)≤0)∧((0:Int)<(((List.length x):Int))))∧(((iNat 0)<(List.length x))∧(((16:Int)≠0)∧((((0:Int)≤1)∧((1:Int)<(((List.length x):Int))))∧(((iNat 1)<(List.length x))∧((((0:Int)≤2)∧((2:Int)<(((List.length x):Int))))∧(((iNat 2)<(List.length x))∧((((0:Int)≤0)∧((0:Int)<(((List.length x):Int))))∧(((iNat 0)<(List.length x))∧(((16:Int)≠0)∧(Jb ((iQuo .i64 (iConv .i64 (lGet x (iNat 0) 0)) 16),(iConv .i64 (lGet x (iNat 1) 0)),(iConv .i64 (lGet x (iNat 2) 0)),(iRem (iConv .i64 (lGet x (iNat 0) 0)) 16))))))))))))))):=(IU.o x).trans (by kernel_rfl)
attribute [irreducible] He Nf Nn LB Sf Pa CV Jb HQ OP
end
section
set_option maxRecDepth 8000
def o0:DCode:=(.seq [1,0] (.region [oi 0 4 0]) (.seq [4] (.region [om 0 5 0,om 1 6 1,oa 2 7 (.bin .shr (.t 5) (.t 6)),oa 3 8 (.bin .and (.t 7) (.c (.int .i64 1))),om 4 4 8]) .ret))
def Jl:Fn:=⟨⟨2,9,0,true,[.tmp 4],o0⟩,[.one .frz (.int .i64),.one .frz (.int .i64)],.one (.one .own (.int .i64))⟩
theorem o3:Jl.A:=BS trivial
def PB:Int×Int→Int:=Jl.V
def Wf:Int×Int→Prop:=Jl.O
theorem pf:Jl.B:=BV trivial (by kernel_rfl) (fun x=>by kernel_rfl)
end
section
set_option maxRecDepth 100000
theorem pE (x):PB x=(iAnd .i64 (iShr .i64 x.1 x.2) 1):=(Jl.v x).trans (by kernel_rfl)
theorem oO (x):Wf x=((0:Int)≤x.2):=(Jl.o x).trans (by kernel_rfl)
attribute [irreducible] PB Wf
end
section
set_option maxRecDepth 8000
def lY:DCode:=(.seq [1] (.region [oa 0 1 (.boxB 0 2 (.t 0)),oa 1 2 (.mv (.c (.bool false)))]) (.seq [1] (.seq [26,1] (.region [oa 0 7 (.fieldA 0 (.t 1)),oa 1 8 (.loadB 0 none (.t 7)),oa 2 9 (.bin .lss (.t 8) (.c (.int .i64 1))),om 3 10 9,og 4 11 (.fieldA 0 (.t 1)) 10 false,og 5 12 (.loadB 0 none (.t 11)) 10 false,og 6 13 (.bin .gtr (.t 12) (.c (.int .i64 32))) 10 false,oa 7 14 (.pick (.t 10) (.c (.bool true)) (.t 13)),om 8 15 14,og 9 16 (.fieldA 1 (.t 1)) 15 false,og 10 17 (.loadB 0 none (.t 16)) 15 false,og 11 18 (.len (.t 17)) 15 false,og 12 19 (.bin .lss (.t 18) (.c (.int .i64 1))) 15 false,oa 13 20 (.pick (.t 15) (.c (.bool true)) (.t 19)),om 14 21 20,og 15 22 (.fieldA 1 (.t 1)) 21 false,og 16 23 (.loadB 0 none (.t 22)) 21 false,og 17 24 (.len (.t 23)) 21 false,og 18 25 (.bin .gtr (.t 24) (.c (.int .i64 4))) 21 false,oa 19 26 (.pick (.t 21) (.c (.bool true)) (.t 25))]) (.cond (.t 26) (.seq [2] (.region [oa 0 2 (.mv (.c (.bool false)))]) .ret) .skip)) (.seq [] (.seq [30,29,28,1] (.region [oa 0 27 (.fieldA 1 (.t 1)),oa 1 28 (.loadB 0 none (.t 27)),oa 2 29 (.len (.t 28)),oi 3 30 0]) (.block 0 (.loop [1,28,29,30] 1 (.seq [31,30,29,28,1] (.region [oa 0 31 (.bin .lss (.t 30) (.t 29))]) (.seq [30,29,28,1] (.cond (.t 31) .skip (.exit 0)) (.seq [30,29,28,1] (.block 1 (.seq [30,29,28,4,3,1] (.region [om 0 32 30,oa 1 33 (.indexA 1 (.t 28) (.t 30)),oa 2 34 (.loadH none (.t 33)),om 3 3 32,on 4 4 34]) (.seq [30,29,28,4,3,1] (.seq [39,30,29,28,4,3,1] (.region [on 0 35 4,oa 1 36 (.len (.t 35)),oa 2 37 (.fieldA 0 (.t 1)),oa 3 38 (.loadB 0 none (.t 37)),oa 4 39 (.bin .neq (.t 36) (.t 38))]) (.cond (.t 39) (.seq [2] (.region [oa 0 2 (.mv (.c (.bool false)))]) .ret) .skip)) (.seq [42,41,40,30,29,28,3,1] (.region [on 0 40 4,oa 1 41 (.len (.t 40)),oi 2 42 0]) (.block 2 (.loop [1,3,28,29,30,40,41,42] 1 (.seq [43,42,41,40,30,29,28,3,1] (.region [oa 0 43 (.bin .lss (.t 42) (.t 41))]) (.seq [42,41,40,30,29,28,3,1] (.cond (.t 43) .skip (.exit 2)) (.seq [42,41,40,30,29,28,3,1] (.block 3 (.seq [42,41,40,30,29,28,6,3,1] (.region [oa 0 44 (.indexA 4 (.t 40) (.t 42)),ob 1 45 (.loadH (some 4) (.t 44)),oa 2 6 (.allocB 1 [(.int .i64 0),(.int .i64 0),(.int .i64 0),(.int .i64 0)]),os 3 (.storeB 1 4 (.t 6) (.t 45))]) (.seq [70,42,41,40,30,29,28,3,1] (.region [oa 0 46 (.loadB 1 (some 4) (.t 6)),oF 1 47 D7 [(.t 46)],oa 2 48 (.un .not (.t 47)),om 3 49 48,og 4 50 (.mv (.t 3)) 49 false,og 5 51 (.bin .eql (.t 50) (.c (.int .i64 0))) 49 false,og 6 52 (.mv (.t 51)) 49 false,og 7 53 (.fieldA 0 (.t 6)) 52 true,og 8 54 (.loadB 1 none (.t 53)) 52 true,og 9 55 (.bin .eql (.t 54) (.c (.int .i64 1))) 52 true,og 10 56 (.pick (.t 52) (.t 55) (.c (.bool false))) 49 false,oa 11 57 (.pick (.t 49) (.c (.bool true)) (.t 56)),om 12 58 57,og 13 59 (.fieldA 0 (.t 6)) 58 false,og 14 60 (.loadB 1 none (.t 59)) 58 false,og 15 61 (.bin .neq (.t 60) (.c (.int .i64 9))) 58 false,og 16 62 (.mv (.t 61)) 58 false,og 17 63 (.fieldA 3 (.t 6)) 62 true,og 18 64 (.loadB 1 none (.t 63)) 62 true,og 19 65 (.fieldA 1 (.t 1)) 62 true,og 20 66 (.loadB 0 none (.t 65)) 62 true,og 21 67 (.len (.t 66)) 62 true,og 22 68 (.bin .geq (.t 64) (.t 67)) 62 true,og 23 69 (.pick (.t 62) (.t 68) (.c (.bool false))) 58 false,oa 24 70 (.pick (.t 58) (.c (.bool true)) (.t 69))]) (.cond (.t 70) (.seq [2] (.region [oa 0 2 (.mv (.c (.bool false)))]) .ret) .skip)))) (.region [oa 0 71 (.bin .add (.t 42) (.c (.int .i64 1))),om 1 42 71])))))))))) (.region [oa 0 72 (.bin .add (.t 30) (.c (.int .i64 1))),om 1 30 72]))))))) (.seq [2] (.region [oa 0 2 (.mv (.c (.bool true)))]) .ret))))
def CN:Fn:=⟨⟨1,73,2,true,[.tmp 2],lY⟩,[.agg [(.frz,.int .i64),(.frz,.sl (.one (.sl CU)))]],.one (.one .own (.bool))⟩
theorem J3:CN.A:=BS ⟨O5,trivial⟩
def BL:Int×(List (List (Int×Int×Int×Int)))→Bool:=CN.V
def G5:Int×(List (List (Int×Int×Int×Int)))→Prop:=CN.O
theorem J2:CN.B:=BV ⟨O4,trivial⟩ (by kernel_rfl) (fun x=>by kernel_rfl)
end
section
set_option maxRecDepth 100000
@[irreducible] def ER(x:Int×(List (List (Int×Int×Int×Int)))):Bool:=(bAnd (bNot (iLt (Am (fun(x0:Int)=>(bAnd (iLt x0 (lLen x.2)) (bAnd (bNot (iNe (lLen (lGet x.2 (iNat x0) [])) x.1)) (bNot (iLt (Am (fun(x1:Int)=>(bAnd (iLt x1 (lLen (lGet x.2 (iNat x0) []))) (bNot (bOr (bNot (B1 ((lGet (lGet x.2 (iNat x0) []) (iNat x1) (0,0,0,0)).1,(lGet (lGet x.2 (iNat x0) []) (iNat x1) (0,0,0,0)).2.1,(lGet (lGet x.2 (iNat x0) []) (iNat x1) (0,0,0,0)).2.2.1,(lGet (lGet x.2 (iNat x0) []) (iNat x1) (0,0,0,0)).2.2.2))) (bSel (iEq (lGet (lGet x.2 (iNat x0) []) (iNat x1) (0,0,0,0)).1 1) (bOr (iEq x0 0) (bAnd (iNe (lGet (lGet x.2 (iNat x0) []) (iNat x1) (0,0,0,0)).1 9) (iGe (lGet (lGet x.2 (iNat x0) []) (iNat x1) (0,0,0,0)).2.2.2 (lLen x.2)))) (bAnd (iNe (lGet (lGet x.2 (iNat x0) []) (iNat x1) (0,0,0,0)).1 9) (iGe (lGet (lGet x.2 (iNat x0) []) (iNat x1) (0,0,0,0)).2.2.2 (lLen x.2)))))))) (fun(x1:Int)=>(iAdd .i64 x1 1)) 0) (lLen (lGet x.2 (iNat x0) []))))))) (fun(x0:Int)=>(iAdd .i64 x0 1)) 0) (lLen x.2))) (bAnd (Bt (x.1,1,32)) (Bt ((lLen x.2),1,4))))
@[irreducible] def Ll(x:Int×(List (List (Int×Int×Int×Int)))):Prop:=((LoopOk (fun(x0:Int)=>(bAnd (iLt x0 (lLen x.2)) (bAnd (bNot (iNe (lLen (lGet x.2 (iNat x0) [])) x.1)) (bNot (iLt (Am (fun(x1:Int)=>(bAnd (iLt x1 (lLen (lGet x.2 (iNat x0) []))) (bNot (bOr (bNot (B1 ((lGet (lGet x.2 (iNat x0) []) (iNat x1) (0,0,0,0)).1,(lGet (lGet x.2 (iNat x0) []) (iNat x1) (0,0,0,0)).2.1,(lGet (lGet x.2 (iNat x0) []) (iNat x1) (0,0,0,0)).2.2.1,(lGet (lGet x.2 (iNat x0) []) (iNat x1) (0,0,0,0)).2.2.2))) (bSel (iEq (lGet (lGet x.2 (iNat x0) []) (iNat x1) (0,0,0,0)).1 1) (bOr (iEq x0 0) (bAnd (iNe (lGet (lGet x.2 (iNat x0) []) (iNat x1) (0,0,0,0)).1 9) (iGe (lGet (lGet x.2 (iNat x0) []) (iNat x1) (0,0,0,0)).2.2.2 (lLen x.2)))) (bAnd (iNe (lGet (lGet x.2 (iNat x0) []) (iNat x1) (0,0,0,0)).1 9) (iGe (lGet (lGet x.2 (iNat x0) []) (iNat x1) (0,0,0,0)).2.2.2 (lLen x.2)))))))) (fun(x1:Int)=>(iAdd .i64 x1 1)) 0) (lLen (lGet x.2 (iNat x0) []))))))) (fun(x0:Int)=>(iAdd .i64 x0 1)) (fun(x0:Int)=>(((iLt x0 (lLen x.2))=true→((((0:Int)≤x0)∧(x0<(((List.length x.2):Int))))∧(((iNat x0)<(List.length x.2))∧(((iNe (lLen (lGet x.2 (iNat x0) [])) x.1)=true→True)∧((iNe (lLen (lGet x.2 (iNat x0) [])) x.1)=false→(LoopOk (fun(x1:Int)=>(bAnd (iLt x1 (lLen (lGet x.2 (iNat x0) []))) (bNot (bOr (bNot (B1 ((lGet (lGet x.2 (iNat x0) []) (iNat x1) (0,0,0,0)).1,(lGet (lGet x.2 (iNat x0) []) (iNat x1) (0,0,0,0)).2.1,(lGet (lGet x.2 (iNat x0) []) (iNat x1) (0,0,0,0)).2.2.1,(lGet (lGet x.2 (iNat x0) []) (iNat x1) (0,0,0,0)).2.2.2))) (bSel (iEq (lGet (lGet x.2 (iNat x0) []) (iNat x1) (0,0,0,0)).1 1) (bOr (iEq x0 0) (bAnd (iNe (lGet (lGet x.2 (iNat x0) []) (iNat x1) (0,0,0,0)).1 9) (iGe (lGet (lGet x.2 (iNat x0) []) (iNat x1) (0,0,0,0)).2.2.2 (lLen x.2)))) (bAnd (iNe (lGet (lGet x.2 (iNat x0) []) (iNat x1) (0,0,0,0)).1 9) (iGe (lGet (lGet x.2 (iNat x0) []) (iNat x1) (0,0,0,0)).2.2.2 (lLen x.2)))))))) (fun(x1:Int)=>(iAdd .i64 x1 1)) (fun(x1:Int)=>((((0:Int)≤x0)∧(x0<(((List.length x.2):Int))))∧(((iNat x0)<(List.length x.2))∧(((iLt x1 (lLen (lGet x.2 (iNat x0) [])))=true→((((0:Int)≤x0)∧(x0<(((List.length x.2):Int))))∧(((iNat x0)<(List.length x.2))∧((((0:Int)≤x1)∧(x1<(((List.length (lGet x.2 (iNat x0) [])):Int))))∧(((iNat x1)<(List.length (lGet x.2 (iNat x0) [])))∧(Lq ((lGet (lGet x.2 (iNat x0) []) (iNat x1) (0,0,0,0)).1,(lGet (lGet x.2 (iNat x0) []) (iNat x1) (0,0,0,0)).2.1,(lGet (lGet x.2 (iNat x0) []) (iNat x1) (0,0,0,0)).2.2.1,(lGet (lGet x.2 (iNat x0) []) (iNat x1) (0,0,0,0)).2.2.2)))))))∧((iLt x1 (lLen (lGet x.2 (iNat x0) [])))=false→True))))) 0))))))∧((iLt x0 (lLen x.2))=false→True))) 0)∧(((iLt (Am (fun(x0:Int)=>(bAnd (iLt x0 (lLen x.2)) (bAnd (bNot (iNe (lLen (lGet x.2 (iNat x0) [])) x.1)) (bNot (iLt (Am (fun(x1:Int)=>(bAnd (iLt x1 (lLen (lGet x.2 (iNat x0) []))) (bNot (bOr (bNot (B1 ((lGet (lGet x.2 (iNat x0) []) (iNat x1) (0,0,0,0)).1,(lGet (lGet x.2 (iNat x0) []) (iNat x1) (0,0,0,0)).2.1,(lGet (lGet x.2 (iNat x0) []) (iNat x1) (0,0,0,0)).2.2.1,(lGet (lGet x.2 (iNat x0) []) (iNat x1) (0,0,0,0)).2.2.2))) (bSel (iEq (lGet (lGet x.2 (iNat x0) []) (iNat x1) (0,0,0,0)).1 1) (bOr (iEq x0 0) (bAnd (iNe (lGet (lGet x.2 (iNat x0) []) (iNat x1) (0,0,0,0)).1 9) (iGe (lGet (lGet x.2 (iNat x0) []) (iNat x1) (0,0,0,0)).2.2.2 (lLen x.2)))) (bAnd (iNe (lGet (lGet x.2 (iNat x0) []) (iNat x1) (0,0,0,0)).1 9) (iGe (lGet (lGet x.2 (iNat x0) []) (iNat x1) (0,0,0,0)).2.2.2 (lLen x.2)))))))) (fun(x1:Int)=>(iAdd .i64 x1 1)) 0) (lLen (lGet x.2 (iNat x0) []))))))) (fun(x0:Int)=>(iAdd .i64 x0 1)) 0) (lLen x.2))=true→True)∧((iLt (Am (fun(x0:Int)=>(bAnd (iLt x0 (lLen x.2)) (bAnd (bNot (iNe (lLen (lGet x.2 (iNat x0) [])) x.1)) (bNot (iLt (Am (fun(x1:Int)=>(bAnd (iLt x1 (lLen (lGet x.2 (iNat x0) []))) (bNot (bOr (bNot (B1 ((lGet (lGet x.2 (iNat x0) []) (iNat x1) (0,0,0,0)).1,(lGet (lGet x.2 (iNat x0) []) (iNat x1) (0,0,0,0)).2.1,(lGet (lGet x.2 (iNat x0) []) (iNat x1) (0,0,0,0)).2.2.1,(lGet (lGet x.2 (iNat x0) []) (iNat x1) (0,0,0,0)).2.2.2))) (bSel (iEq (lGet (lGet x.2 (iNat x0) []) (iNat x1) (0,0,0,0)).1 1) (bOr (iEq x0 0) (bAnd (iNe (lGet (lGet x.2 (iNat x0) []) (iNat x1) (0,0,0,0)).1 9) (iGe (lGet (lGet x.2 (iNat x0) []) (iNat x1) (0,0,0,0)).2.2.2 (lLen x.2)))) (bAnd (iNe (lGet (lGet x.2 (iNat x0) []) (iNat x1) (0,0,0,0)).1 9) (iGe (lGet (lGet x.2 (iNat x0) []) (iNat x1) (0,0,0,0)).2.2.2 (lLen x.2)))))))) (fun(x1:Int)=>(iAdd .i64 x1 1)) 0) (lLen (lGet x.2 (iNat x0) []))))))) (fun(x0:Int)=>(iAdd .i64 x0 1)) 0) (lLen x.2))=false→((D9 (x.1,1,32))∧(((Bt (x.1,1,32))=true→(D9 ((lLen x.2),1,4)))∧((Bt (x.1,1,32))=false→True))))))
theorem R7 (x):BL x=(bAnd (bNot (bOr (iLt x.1 1) (bOr (iGt x.1 32) (bOr (iLt (lLen x.2) 1) (iGt (lLen x.2) 4))))) (bNot (iLt (Am (fun(x0:Int)=>(bAnd (iLt x0 (lLen x.2)) (bAnd (bNot (iNe (lLen (lGet x.2 (iNat x0) [])) x.1)) (bNot (iLt (Am (fun(x1:Int)=>(bAnd (iLt x1 (lLen (lGet x.2 (iNat x0) []))) (bNot (bOr (bNot (CV ((lGet (lGet x.2 (iNat x0) []) (iNat x1) (0,0,0,0)).1,(lGet (lGet x.2 (iNat x0) []) (iNat x1) (0,0,0,0)).2.1,(lGet (lGet x.2 (iNat x0) []) (iNat x1) (0,0,0,0)).2.2.1,(lGet (lGet x.2 (iNat x0) []) (iNat x1) (0,0,0,0)).2.2.2))) (bSel (iEq x0 0) (bOr (iEq (lGet (lGet x.2 (iNat x0) []) (iNat x1) (0,0,0,0)).1 1) (bAnd (iNe (lGet (lGet x.2 (iNat x0) []) (iNat x1) (0,0,0,0)).1 9) (iGe (lGet (lGet x.2 (iNat x0) []) (iNat x1) (0,0,0,0)).2.2.2 (lLen x.2)))) (bAnd (iNe (lGet (lGet x.2 (iNat x0) []) (iNat x1) (0,0,0,0)).1 9) (iGe (lGet (lGet x.2 (iNat x0) []) (iNat x1) (0,0,0,0)).2.2.2 (lLen x.2)))))))) (fun(x1:Int)=>(iAdd .i64 x1 1)) 0) (lLen (lGet x.2 (iNat x0) []))))))) (fun(x0:Int)=>(iAdd .i64 x0 1)) 0) (lLen x.2)))):=(CN.v x).trans (by kernel_rfl)
theorem mh (x):G5 x=(((bOr (iLt x.1 1) (bOr (iGt x.1 32) (bOr (iLt (lLen x.2) 1) (iGt (lLen x.2) 4))))=true→True)∧((bOr (iLt x.1 1) (bOr (iGt x.1 32) (bOr (iLt (lLen x.2) 1) (iGt (lLen x.2) 4))))=false→(LoopOk (fun(x0:Int)=>(bAnd (iLt x0 (lLen x.2)) (bAnd (bNot (iNe (lLen (lGet x.2 (iNat x0) [])) x.1)) (bNot (iLt (Am (fun(x1:Int)=>(bAnd (iLt x1 (lLen (lGet x.2 (iNat x0) []))) (bNot (bOr (bNot (CV ((lGet (lGet x.2 (iNat x0) []) (iNat x1) (0,0,0,0)).1,(lGet (lGet x.2 (iNat x0) []) (iNat x1) (0,0,0,0)).2.1,(lGet (lGet x.2 (iNat x0) []) (iNat x1) (0,0,0,0)).2.2.1,(lGet (lGet x.2 (iNat x0) []) (iNat x1) (0,0,0,0)).2.2.2))) (bSel (iEq x0 0) (bOr (iEq (lGet (lGet x.2 (iNat x0) []) (iNat x1) (0,0,0,0)).1 1) (bAnd (iNe (lGet (lGet x.2 (iNat x0) []) (iNat x1) (0,0,0,0)).1 9) (iGe (lGet (lGet x.2 (iNat x0) []) (iNat x1) (0,0,0,0)).2.2.2 (lLen x.2)))) (bAnd (iNe (lGet (lGet x.2 (iNat x0) []) (iNat x1) (0,0,0,0)).1 9) (iGe (lGet (lGet x.2 (iNat x0) []) (iNat x1) (0,0,0,0)).2.2.2 (lLen x.2)))))))) (fun(x1:Int)=>(iAdd .i64 x1 1)) 0) (lLen (lGet x.2 (iNat x0) []))))))) (fun(x0:Int)=>(iAdd .i64 x0 1)) (fun(x0:Int)=>(((iLt x0 (lLen x.2))=true→((((0:Int)≤x0)∧(x0<(((List.length x.2):Int))))∧(((iNat x0)<(List.length x.2))∧(((iNe (lLen (lGet x.2 (iNat x0) [])) x.1)=true→True)∧((iNe (lLen (lGet x.2 (iNat x0) [])) x.1)=false→(LoopOk (fun(x1:Int)=>(bAnd (iLt x1 (lLen (lGet x.2 (iNat x0) []))) (bNot (bOr (bNot (CV ((lGet (lGet x.2 (iNat x0) []) (iNat x1) (0,0,0,0)).1,(lGet (lGet x.2 (iNat x0) []) (iNat x1) (0,0,0,0)).2.1,(lGet (lGet x.2 (iNat x0) []) (iNat x1) (0,0,0,0)).2.2.1,(lGet (lGet x.2 (iNat x0) []) (iNat x1) (0,0,0,0)).2.2.2))) (bSel (iEq x0 0) (bOr (iEq (lGet (lGet x.2 (iNat x0) []) (iNat x1) (0,0,0,0)).1 1) (bAnd (iNe (lGet (lGet x.2 (iNat x0) []) (iNat x1) (0,0,0,0)).1 9) (iGe (lGet (lGet x.2 (iNat x0) []) (iNat x1) (0,0,0,0)).2.2.2 (lLen x.2)))) (bAnd (iNe (lGet (lGet x.2 (iNat x0) []) (iNat x1) (0,0,0,0)).1 9) (iGe (lGet (lGet x.2 (iNat x0) []) (iNat x1) (0,0,0,0)).2.2.2 (lLen x.2)))))))) (fun(x1:Int)=>(iAdd .i64 x1 1)) (fun(x1:Int)=>(((iLt x1 (lLen (lGet x.2 (iNat x0) [])))=true→((((0:Int)≤x1)∧(x1<(((List.length (lGet x.2 (iNat x0) [])):Int))))∧(((iNat x1)<(List.length (lGet x.2 (iNat x0) [])))∧(Jb ((lGet (lGet x.2 (iNat x0) []) (iNat x1) (0,0,0,0)).1,(lGet (lGet x.2 (iNat x0) []) (iNat x1) (0,0,0,0)).2.1,(lGet (lGet x.2 (iNat x0) []) (iNat x1) (0,0,0,0)).2.2.1,(lGet (lGet x.2 (iNat x0) []) (iNat x1) (0,0,0,0)).2.2.2)))))∧((iLt x1 (lLen (lGet x.2 (iNat x0) [])))=false→True))) 0))))))∧((iLt x0 (lLen x.2))=false→True))) 0))):=(CN.o x).trans (by kernel_rfl)
attribute [irreducible] BL G5
end
section
set_option maxRecDepth 8000
def kJ:DCode:=(.seq [1] (.region [oa 0 1 (.boxB 0 4 (.t 0)),oa 1 2 (.mv (.c .nils))]) (.seq [1] (.seq [5,1] (.region [oa 0 3 (.loadB 0 (some 4) (.t 1)),oF 1 4 D7 [(.t 3)],oa 2 5 (.un .not (.t 4))]) (.cond (.t 5) (.seq [2] (.region [oa 0 2 (.mv (.c .nils))]) .ret) .skip)) (.seq [2] (.region [oa 0 6 (.fieldA 0 (.t 1)),oa 1 7 (.loadB 0 none (.t 6)),oa 2 8 (.bin .mul (.c (.int .i64 16)) (.t 7)),oa 3 9 (.fieldA 3 (.t 1)),oa 4 10 (.loadB 0 none (.t 9)),oa 5 11 (.bin .add (.t 8) (.t 10)),oa 6 12 (.conv .u8 (.t 11)),oa 7 13 (.fieldA 1 (.t 1)),oa 8 14 (.loadB 0 none (.t 13)),oa 9 15 (.conv .u8 (.t 14)),oa 10 16 (.fieldA 2 (.t 1)),oa 11 17 (.loadB 0 none (.t 16)),oa 12 18 (.conv .u8 (.t 17)),⟨13,some 19,.a false (.litSlice 1 3 [(.int .u8 0),(.int .u8 0),(.int .u8 0)] [(0,1,(.t 12)),(1,1,(.t 15)),(2,1,(.t 18))]) (some (.one (.int .u8))),none,[]⟩,om 14 2 19]) .ret)))
def I6:Fn:=⟨⟨1,20,1,false,[.tmp 2],kJ⟩,[.agg [(.frz,.int .i64),(.frz,.int .i64),(.frz,.int .i64),(.frz,.int .i64)]],.one (.one .own (.sl (.one (.int .u8))))⟩
theorem kH:I6.A:=BS ⟨O5,trivial⟩
def Gx:Int×Int×Int×Int→List (Int):=I6.V
def RG:Int×Int×Int×Int→Prop:=I6.O
theorem kB:I6.B:=BV ⟨O4,trivial⟩ (by kernel_rfl) (fun x=>by kernel_rfl)
def kR:DCode:=(.seq [1] (.region [oa 0 1 (.boxB 0 2 (.t 0)),oa 1 2 (.mv (.c .nils))]) (.seq [1] (.seq [10,1] (.region [oa 0 8 (.loadB 0 (some 2) (.t 1)),oF 1 9 CN [(.t 8)],oa 2 10 (.un .not (.t 9))]) (.cond (.t 10) (.seq [2] (.region [oa 0 2 (.mv (.c .nils))]) .ret) .skip)) (.seq [3,1] (.region [oa 0 11 (.fieldA 0 (.t 1)),oa 1 12 (.loadB 0 none (.t 11)),oa 2 13 (.conv .u8 (.t 12)),oa 3 14 (.fieldA 1 (.t 1)),oa 4 15 (.loadB 0 none (.t 14)),oa 5 16 (.len (.t 15)),oa 6 17 (.conv .u8 (.t 16)),⟨7,some 18,.a false (.litSlice 1 2 [(.int .u8 0),(.int .u8 0)] [(0,1,(.t 13)),(1,1,(.t 17))]) (some (.one (.int .u8))),none,[]⟩,om 8 3 18]) (.seq [3] (.seq [22,21,20,3] (.region [oa 0 19 (.fieldA 1 (.t 1)),oa 1 20 (.loadB 0 none (.t 19)),oa 2 21 (.len (.t 20)),oi 3 22 0]) (.block 0 (.loop [3,20,21,22] 1 (.seq [23,22,21,20,3] (.region [oa 0 23 (.bin .lss (.t 22) (.t 21))]) (.seq [22,21,20,3] (.cond (.t 23) .skip (.exit 0)) (.seq [22,21,20,3] (.block 1 (.seq [22,21,20,5,3] (.region [oa 0 24 (.indexA 1 (.t 20) (.t 22)),oa 1 25 (.loadH none (.t 24)),on 2 5 25]) (.seq [28,27,26,22,21,20,3] (.region [on 0 26 5,oa 1 27 (.len (.t 26)),oi 2 28 0]) (.block 2 (.loop [3,20,21,22,26,27,28] 1 (.seq [29,28,27,26,22,21,20,3] (.region [oa 0 29 (.bin .lss (.t 28) (.t 27))]) (.seq [28,27,26,22,21,20,3] (.cond (.t 29) .skip (.exit 2)) (.seq [28,27,26,22,21,20,3] (.block 3 (.seq [28,27,26,22,21,20,7,3] (.region [oa 0 30 (.indexA 4 (.t 26) (.t 28)),ob 1 31 (.loadH (some 4) (.t 30)),oa 2 7 (.allocB 1 [(.int .i64 0),(.int .i64 0),(.int .i64 0),(.int .i64 0)]),os 3 (.storeB 1 4 (.t 7) (.t 31))]) (.region [om 0 32 3,oa 1 33 (.loadB 1 (some 4) (.t 7)),oF 2 34 I6 [(.t 33)],oa 3 35 (.app 1 (.t 32) (.t 34)),om 4 3 35]))) (.region [oa 0 36 (.bin .add (.t 28) (.c (.int .i64 1))),om 1 28 36]))))))))) (.region [oa 0 37 (.bin .add (.t 22) (.c (.int .i64 1))),om 1 22 37]))))))) (.seq [2] (.region [om 0 38 3,om 1 2 38]) .ret)))))
def I1:Fn:=⟨⟨1,39,2,false,[.tmp 2],kR⟩,[.agg [(.frz,.int .i64),(.frz,.sl (.one (.sl CU)))]],.one (.one .own (.sl (.one (.int .u8))))⟩
theorem kI:I1.A:=BS ⟨J3,kH,trivial⟩
def Fk:Int×(List (List (Int×Int×Int×Int)))→List (Int):=I1.V
def OX:Int×(List (List (Int×Int×Int×Int)))→Prop:=I1.O
theorem kN:I1.B:=BV ⟨J2,kB,trivial⟩ (by kernel_rfl) (fun x=>by kernel_rfl)
def jQ:DCode:=(.seq [2,0] (.region [oa 0 2 (.allocB 0 [(.int .i64 0),.nils]),oa 1 3 (.mv (.c (.bool false)))]) (.seq [2,0] (.seq [27,2,0] (.region [on 0 9 0,xA 1 10 (.len (.t 9)) (rg 1),xA 2 11 (.bin .lss (.t 10) (.c (.int .i64 2))) (rg 2),xA 3 12 (.mv (.t 11)) (rg 3),⟨4,some 13,.a true (.mv (.t 0)) none,(some (12,false)),[0,1,2,3]⟩,⟨5,some 14,.a false (.len (.t 13)) none,(some (12,false)),[0,1,2,3,4]⟩,⟨6,some 15,.a true (.mv (.t 0)) none,(some (12,false)),[0,1,2,3]⟩,⟨7,some 16,.a false (.indexA 1 (.t 15) (.c (.int .i64 0))) none,(some (12,false)),[0,1,2,3,6]⟩,⟨8,some 17,.a false (.loadH none (.t 16)) none,(some (12,false)),[0,1,2,3,6,7]⟩,⟨9,some 18,.a false (.conv .i64 (.t 17)) none,(some (12,false)),[0,1,2,3,6,7,8]⟩,⟨10,some 19,.a false (.bin .mul (.c (.int .i64 3)) (.t 18)) none,(some (12,false)),[0,1,2,3,6,7,8,9]⟩,⟨11,some 20,.a true (.mv (.t 0)) none,(some (12,false)),[0,1,2,3]⟩,⟨12,some 21,.a false (.indexA 1 (.t 20) (.c (.int .i64 1))) none,(some (12,false)),[0,1,2,3,11]⟩,⟨13,some 22,.a false (.loadH none (.t 21)) none,(some (12,false)),[0,1,2,3,11,12]⟩,⟨14,some 23,.a false (.conv .i64 (.t 22)) none,(some (12,false)),[0,1,2,3,11,12,13]⟩,⟨15,some 24,.a false (.bin .mul (.t 19) (.t 23)) none,(some (12,false)),[0,1,2,3,6,7,8,9,10,11,12,13,14]⟩,⟨16,some 25,.a false (.bin .add (.c (.int .i64 2)) (.t 24)) none,(some (12,false)),[0,1,2,3,6,7,8,9,10,11,12,13,14,15]⟩,⟨17,some 26,.a false (.bin .neq (.t 14) (.t 25)) none,(some (12,false)),[0,1,2,3,4,5,6,7,8,9,10,11,12,13,14,15,16]⟩,xA 18 27 (.pick (.t 12) (.c (.bool true)) (.t 26)) (rg 18)]) (.cond (.t 27) (.seq [3,2] (.region [oa 0 28 (.build [(.int .i64 0),.nils] []),os 1 (.storeB 0 2 (.t 2) (.t 28)),oa 2 3 (.mv (.c (.bool false)))]) .ret) .skip)) (.seq [4,2,0] (.region [on 0 29 0,oa 1 30 (.indexA 1 (.t 29) (.c (.int .i64 0))),oa 2 31 (.loadH none (.t 30)),oa 3 32 (.conv .i64 (.t 31)),oa 4 33 (.build [(.int .i64 0),.nils] [(0,1,(.t 32))]),oa 5 4 (.allocB 1 [(.int .i64 0),.nils]),os 6 (.storeB 1 2 (.t 4) (.t 33))]) (.seq [5,4,2,0] (.region [oi 0 5 2]) (.seq [4,2] (.seq [38,37,5,4,2,0] (.region [on 0 34 0,oa 1 35 (.indexA 1 (.t 34) (.c (.int .i64 1))),oa 2 36 (.loadH none (.t 35)),oa 3 37 (.conv .i64 (.t 36)),oi 4 38 0]) (.block 0 (.loop [0,2,4,5,37,38] 1 (.seq [39,38,37,5,4,2,0] (.region [oa 0 39 (.bin .lss (.t 38) (.t 37))]) (.seq [38,37,5,4,2,0] (.cond (.t 39) .skip (.exit 0)) (.seq [38,37,5,4,2,0] (.block 1 (.seq [38,37,6,5,4,2,0] (.region [oa 0 6 (.mv (.c .nils))]) (.seq [38,37,6,5,4,2,0] (.seq [42,41,38,37,6,5,4,2,0] (.region [oa 0 40 (.fieldA 0 (.t 4)),oa 1 41 (.loadB 1 none (.t 40)),oi 2 42 0]) (.block 2 (.loop [0,2,4,5,6,37,38,41,42] 1 (.seq [43,42,41,38,37,6,5,4,2,0] (.region [oa 0 43 (.bin .lss (.t 42) (.t 41))]) (.seq [42,41,38,37,6,5,4,2,0] (.cond (.t 43) .skip (.exit 2)) (.seq [42,41,38,37,6,5,4,2,0] (.block 3 (.seq [42,41,38,37,8,7,6,5,4,2,0] (.region [on 0 45 0,om 1 46 5,om 2 47 5,oa 3 48 (.bin .add (.t 47) (.c (.int .i64 3))),oa 4 49 (.slice 1 (.t 45) (some (.t 46)) (some (.t 48))),oF 5 50 IU [(.t 49)],om 6 44 50,oa 7 51 (.extract (.t 44) 0),oa 8 52 (.extract (.t 44) 1),oa 9 7 (.allocB 2 [(.int .i64 0),(.int .i64 0),(.int .i64 0),(.int .i64 0)]),os 10 (.storeB 2 4 (.t 7) (.t 51)),om 11 8 52]) (.seq [42,41,38,37,7,6,5,4,2,0] (.seq [54,42,41,38,37,7,6,5,4,2,0] (.region [om 0 53 8,oa 1 54 (.un .not (.t 53))]) (.cond (.t 54) (.seq [3,2] (.region [oa 0 55 (.build [(.int .i64 0),.nils] []),os 1 (.storeB 0 2 (.t 2) (.t 55)),oa 2 3 (.mv (.c (.bool false)))]) .ret) .skip)) (.seq [42,41,38,37,7,6,5,4,2,0] (.region [om 0 56 5,oa 1 57 (.bin .add (.t 56) (.c (.int .i64 3))),om 2 5 57]) (.region [om 0 58 6,ob 1 59 (.loadB 2 (some 4) (.t 7)),⟨2,some 60,.a false (.litSlice 4 1 [(.int .i64 0),(.int .i64 0),(.int .i64 0),(.int .i64 0)] [(0,4,(.t 59))]) (some CU),none,[]⟩,oa 3 61 (.app 4 (.t 58) (.t 60)),om 4 6 61]))))) (.region [oa 0 62 (.bin .add (.t 42) (.c (.int .i64 1))),om 1 42 62]))))))) (.region [oa 0 63 (.fieldA 1 (.t 4)),ob 1 64 (.loadB 1 none (.t 63)),om 2 65 6,⟨3,some 66,.a false (.litSlice 1 1 [.nils] [(0,1,(.t 65))]) (some (.one (.sl CU))),none,[]⟩,oa 4 67 (.app 1 (.t 64) (.t 66)),oa 5 68 (.fieldA 1 (.t 4)),os 6 (.storeB 1 1 (.t 68) (.t 67))])))) (.region [oa 0 69 (.bin .add (.t 38) (.c (.int .i64 1))),om 1 38 69]))))))) (.seq [4,2] (.seq [72,4,2] (.region [oa 0 70 (.loadB 1 (some 2) (.t 4)),oF 1 71 CN [(.t 70)],oa 2 72 (.un .not (.t 71))]) (.cond (.t 72) (.seq [3,2] (.region [oa 0 73 (.build [(.int .i64 0),.nils] []),os 1 (.storeB 0 2 (.t 2) (.t 73)),oa 2 3 (.mv (.c (.bool false)))]) .ret) .skip)) (.seq [3,2] (.region [ob 0 74 (.loadB 1 (some 2) (.t 4)),os 1 (.storeB 0 2 (.t 2) (.t 74)),oa 2 3 (.mv (.c (.bool true)))]) .ret)))))))
def IV:Fn:=⟨⟨1,75,3,false,[.cell 2 (some 2),.tmp 3],jQ⟩,[.one .frz (.sl (.one (.int .u8)))],.tup [.agg [(.own,.int .i64),(.own,.sl (.one (.sl CU)))],.one .own (.bool)]⟩
theorem jR:IV.A:=BS ⟨jU,J3,trivial⟩
def FJ:List (Int)→(Int×(List (List (Int×Int×Int×Int))))×Bool:=IV.V
def OS:List (Int)→Prop:=IV.O
theorem jW:IV.B:=BV ⟨jY,J2,trivial⟩ (by kernel_rfl) (fun x=>by kernel_rfl)
end
section
set_option maxRecDepth 100000
@[irreducible] def RQ(x:Int×Int×Int×Int):List (Int):=(bSel (bNot (B1 x)) [] [(iConv .u8 (iAdd .i64 (iMul .i64 16 x.1) x.2.2.2)),(iConv .u8 x.2.1),(iConv .u8 x.2.2.1)])
@[irreducible] def Vo(x:Int×Int×Int×Int):Prop:=(Lq x)
def Ru(x:Int×(List (List (Int×Int×Int×Int))))(x0:((List Int)×Int)):Bool:=(iLt x0.2 (lLen x.2))
def JX(x:Int×(List (List (Int×Int×Int×Int))))(x1:((List Int)×Int)):Bool:=(iLt x1.2 x.1)
def Lf(x:Int×(List (List (Int×Int×Int×Int))))(x0:((List Int)×Int))(x1:((List Int)×Int)):((List Int)×Int):=((lApp x1.1 (RQ (lGet (lGet x.2 (iNat x0.2) []) (iNat x1.2) (0,0,0,0)))),(iAdd .i64 x1.2 1))
def Rw(x:Int×(List (List (Int×Int×Int×Int))))(x0:((List Int)×Int)):((List Int)×Int):=((Am (JX x) (Lf x x0) (x0.1,0)).1,(iAdd .i64 x0.2 1))
def Rv(x:Int×(List (List (Int×Int×Int×Int))))(x0:((List Int)×Int))(x1:((List Int)×Int)):Prop:=(((iLt x1.2 x.1)=true→((((0:Int)≤x0.2)∧(x0.2<(((List.length x.2):Int))))∧(((iNat x0.2)<(List.length x.2))∧((((0:Int)≤x1.2)∧(x1.2<(((List.length (lGet x.2 (iNat x0.2) [])):Int))))∧(((iNat x1.2)<(List.length (lGet x.2 (iNat x0.2) [])))∧((Vo (lGet (lGet x.2 (iNat x0.2) []) (iNat x1.2) (0,0,0,0)))∧(AE (((List.length x1.1)+(List.length (RQ (lGet (lGet x.2 (iNat x0.2) []) (iNat x1.2) (0,0,0,0)))))*1))))))))∧((iLt x1.2 x.1)=false→True))
def Vj(x:Int×(List (List (Int×Int×Int×Int))))(x0:((List Int)×Int)):Prop:=(((iLt x0.2 (lLen x.2))=true→(LoopOk (JX x) (Lf x x0) (Rv x x0) (x0.1,0)))∧((iLt x0.2 (lLen x.2))=false→True))
@[irreducible] def Vu(x:Int×(List (List (Int×Int×Int×Int)))):List (Int):=(bSel (bNot (ER x)) [] (Am (Ru x) (Rw x) ((lApp [] [(iConv .u8 x.1),(iConv .u8 (lLen x.2))]),0)).1)
@[irreducible] def ZP(x:Int×(List (List (Int×Int×Int×Int)))):Prop:=((Ll x)∧(((bNot (ER x))=true→True)∧((bNot (ER x))=false→((AE 2)∧(LoopOk (Ru x) (Rw x) (Vj x) ((lApp [] [(iConv .u8 x.1),(iConv .u8 (lLen x.2))]),0))))))
theorem OZ (x):Gx x=(bSel (bNot (CV x)) [] [(iConv .u8 (iAdd .i64 (iMul .i64 16 x.1) x.2.2.2)),(iConv .u8 x.2.1),(iConv .u8 x.2.2.1)]):=(I6.v x).trans (by kernel_rfl)
theorem kS (x):RG x=(Jb x):=(I6.o x).trans (by kernel_rfl)
def MM(x:Int×(List (List (Int×Int×Int×Int))))(x0:((List Int)×Int)):Bool:=(iLt x0.2 (lLen x.2))
def IL(x:Int×(List (List (Int×Int×Int×Int))))(x0:((List Int)×Int))(x1:((List Int)×Int)):Bool:=(iLt x1.2 (lLen (lGet x.2 (iNat x0.2) [])))
def JY(x:Int×(List (List (Int×Int×Int×Int))))(x0:((List Int)×Int))(x1:((List Int)×Int)):((List Int)×Int):=((lApp x1.1 (Gx (lGet (lGet x.2 (iNat x0.2) []) (iNat x1.2) (0,0,0,0)))),(iAdd .i64 x1.2 1))
def MN(x:Int×(List (List (Int×Int×Int×Int))))(x0:((List Int)×Int)):((List Int)×Int):=((Am (IL x x0) (JY x x0) (x0.1,0)).1,(iAdd .i64 x0.2 1))
def Rx(x:Int×(List (List (Int×Int×Int×Int))))(x0:((List Int)×Int))(x1:((List Int)×Int)):Prop:=(((iLt x1.2 (lLen (lGet x.2 (iNat x0.2) [])))=true→((((0:Int)≤x1.2)∧(x1.2<(((List.length (lGet x.2 (iNat x0.2) [])):Int))))∧(((iNat x1.2)<(List.length (lGet x.2 (iNat x0.2) [])))∧((RG (lGet (lGet x.2 (iNat x0.2) []) (iNat x1.2) (0,0,0,0)))∧(AE (((List.length x1.1)+(List.length (Gx (lGet (lGet x.2 (iNat x0.2) []) (iNat x1.2) (0,0,0,0)))))*1))))))∧((iLt x1.2 (lLen (lGet x.2 (iNat x0.2) [])))=false→True))
def Vg(x:Int×(List (List (Int×Int×Int×Int))))(x0:((List Int)×Int)):Prop:=(((iLt x0.2 (lLen x.2))=true→((((0:Int)≤x0.2)∧(x0.2<(((List.length x.2):Int))))∧(((iNat x0.2)<(List.length x.2))∧(LoopOk (IL x x0) (JY x x0) (Rx x x0) (x0.1,0)))))∧((iLt x0.2 (lLen x.2))=false→True))
theorem ZS (x):Fk x=(bSel (bNot (BL x)) [] (Am (MM x) (MN x) ([(iConv .u8 x.1),(iConv .u8 (lLen x.2))],0)).1):=(I1.v x).trans (by kernel_rfl)
theorem kv (x):OX x=((G5 x)∧(((bNot (BL x))=true→True)∧((bNot (BL x))=false→(LoopOk (MM x) (MN x) (Vg x) ([(iConv .u8 x.1),(iConv .u8 (lLen x.2))],0))))):=(I1.o x).trans (by kernel_rfl)
def DJ(x:List (Int))(x1:(Int×((List (Int×(Int×(Int×Int))))×Int))):Bool:=(bAnd (iLt x1.2.2 (iConv .i64 (lGet x (iNat 0) 0))) (bNot (bNot (Lh (lSub x (iNat x1.1) (iNat (iAdd .i64 x1.1 3)))).2)))
def DK(x:List (Int))(x1:(Int×((List (Int×(Int×(Int×Int))))×Int))):(Int×((List (Int×(Int×(Int×Int))))×Int)):=((iAdd .i64 x1.1 3),(lApp x1.2.1 [(Lh (lSub x (iNat x1.1) (iNat (iAdd .i64 x1.1 3)))).1]),(iAdd .i64 x1.2.2 1))
def D5(x:List (Int))(x0:(Int×(Int×(List (List (Int×(Int×(Int×Int)))))))):Bool:=(bAnd (iLt x0.2.1 (iConv .i64 (lGet x (iNat 1) 0))) (bNot (iLt (Am (DJ x) (DK x) (x0.1,[],0)).2.2 (iConv .i64 (lGet x (iNat 0) 0)))))
def D4(x:List (Int))(x0:(Int×(Int×(List (List (Int×(Int×(Int×Int)))))))):(Int×(Int×(List (List (Int×(Int×(Int×Int))))))):=((Am (DJ x) (DK x) (x0.1,[],0)).1,(iAdd .i64 x0.2.1 1),(lApp x0.2.2 [(Am (DJ x) (DK x) (x0.1,[],0)).2.1]))
def Rp(x:List (Int))(x1:(Int×((List (Int×(Int×(Int×Int))))×Int))):Prop:=(((iLt x1.2.2 (iConv .i64 (lGet x (iNat 0) 0)))=true→(((((0:Int)≤x1.1)∧((0:Int)≤(iAdd .i64 x1.1 3)))∧(((iNat x1.1)≤(iNat (iAdd .i64 x1.1 3)))∧(((iNat (iAdd .i64 x1.1 3))≤(List.length x))∧(0<(List.length x)))))∧((Vh (lSub x (iNat x1.1) (iNat (iAdd .i64 x1.1 3))))∧(((bNot (Lh (lSub x (iNat x1.1) (iNat (iAdd .i64 x1.1 3)))).2)=true→True)∧((bNot (Lh (lSub x (iNat x1.1) (iNat (iAdd .i64 x1.1 3)))).2)=false→(AE (((List.length x1.2.1)+(List.length [(Lh (lSub x (iNat x1.1) (iNat (iAdd .i64 x1.1 3)))).1]))*4)))))))∧((iLt x1.2.2 (iConv .i64 (lGet x (iNat 0) 0)))=false→True))
def Ro(x:List (Int))(x0:(Int×(Int×(List (List (Int×(Int×(Int×Int)))))))):Prop:=((((0:Int)≤1)∧((1:Int)<(((List.length x):Int))))∧(((iNat 1)<(List.length x))∧(((iLt x0.2.1 (iConv .i64 (lGet x (iNat 1) 0)))=true→((LoopOk (DJ x) (DK x) (Rp x) (x0.1,[],0))∧(((iLt (Am (DJ x) (DK x) (x0.1,[],0)).2.2 (iConv .i64 (lGet x (iNat 0) 0)))=true→True)∧((iLt (Am (DJ x) (DK x) (x0.1,[],0)).2.2 (iConv .i64 (lGet x (iNat 0) 0)))=false→(AE (((List.length x0.2.2)+(List.length [(Am (DJ x) (DK x) (x0.1,[],0)).2.1]))*1))))))∧((iLt x0.2.1 (iConv .i64 (lGet x (iNat 1) 0)))=false→True))))
@[irreducible] def Vl(x:List (Int)):(Int×(List (List (Int×Int×Int×Int))))×Bool:=(bSel (bOr (iLt (lLen x) 2) (iNe (lLen x) (iAdd .i64 2 (iMul .i64 (iMul .i64 3 (iConv .i64 (lGet x (iNat 0) 0))) (iConv .i64 (lGet x (iNat 1) 0)))))) ((0,[]),false) (bSel (iLt (Am (D5 x) (D4 x) (2,0,[])).2.1 (iConv .i64 (lGet x (iNat 1) 0))) ((0,[]),false) (bSel (bNot (ER ((iConv .i64 (lGet x (iNat 0) 0)),(Am (D5 x) (D4 x) (2,0,[])).2.2))) ((0,[]),false) (((iConv .i64 (lGet x (iNat 0) 0)),(Am (D5 x) (D4 x) (2,0,[])).2.2),true))))
@[irreducible] def ZA(x:List (Int)):Prop:=((((iLt (lLen x) 2)=true→True)∧((iLt (lLen x) 2)=false→((((0:Int)≤0)∧((0:Int)<(((List.length x):Int))))∧(((iNat 0)<(List.length x))∧((((0:Int)≤1)∧((1:Int)<(((List.length x):Int))))∧((iNat 1)<(List.length x)))))))∧(((bOr (iLt (lLen x) 2) (iNe (lLen x) (iAdd .i64 2 (iMul .i64 (iMul .i64 3 (iConv .i64 (lGet x (iNat 0) 0))) (iConv .i64 (lGet x (iNat 1) 0))))))=true→True)∧((bOr (iLt (lLen x) 2) (iNe (lLen x) (iAdd .i64 2 (iMul .i64 (iMul .i64 3 (iConv .i64 (lGet x (iNat 0) 0))) (iConv .i64 (lGet x (iNat 1) 0))))))=false→((((0:Int)≤0)∧((0:Int)<(((List.length x):Int))))∧(((iNat 0)<(List.length x))∧((LoopOk (D5 x) (D4 x) (Ro x) (2,0,[]))∧(((iLt (Am (D5 x) (D4 x) (2,0,[])).2.1 (iConv .i64 (lGet x (iNat 1) 0)))=true→True)∧((iLt (Am (D5 x) (D4 x) (2,0,[])).2.1 (iConv .i64 (lGet x (iNat 1) 0)))=false→(Ll ((iConv .i64 (lGet x (iNat 0) 0)),(Am (D5 x) (D4 x) (2,0,[])).2.2))))))))))
def FG(x:List (Int))(x1:(Int×((List (Int×(Int×(Int×Int))))×Int))):Bool:=(bAnd (iLt x1.2.2 (iConv .i64 (lGet x (iNat 0) 0))) (bNot (bNot (HQ (lSub x (iNat x1.1) (iNat (iAdd .i64 x1.1 3)))).2)))
def Gt(x:List (Int))(x1:(Int×((List (Int×(Int×(Int×Int))))×Int))):(Int×((List (Int×(Int×(Int×Int))))×Int)):=((iAdd .i64 x1.1 3),(lApp x1.2.1 [(HQ (lSub x (iNat x1.1) (iNat (iAdd .i64 x1.1 3)))).1]),(iAdd .i64 x1.2.2 1))
def Gs(x:List (Int))(x0:(Int×(Int×(List (List (Int×(Int×(Int×Int)))))))):Bool:=(bAnd (iLt x0.2.1 (iConv .i64 (lGet x (iNat 1) 0))) (bNot (iLt (Am (FG x) (Gt x) (x0.1,[],0)).2.2 (iConv .i64 (lGet x (iNat 0) 0)))))
def GZ(x:List (Int))(x0:(Int×(Int×(List (List (Int×(Int×(Int×Int)))))))):(Int×(Int×(List (List (Int×(Int×(Int×Int))))))):=((Am (FG x) (Gt x) (x0.1,[],0)).1,(iAdd .i64 x0.2.1 1),(lApp x0.2.2 [(Am (FG x) (Gt x) (x0.1,[],0)).2.1]))
def Rn(x:List (Int))(x1:(Int×((List (Int×(Int×(Int×Int))))×Int))):Prop:=(((iLt x1.2.2 (iConv .i64 (lGet x (iNat 0) 0)))=true→(((((0:Int)≤x1.1)∧((0:Int)≤(iAdd .i64 x1.1 3)))∧(((iNat x1.1)≤(iNat (iAdd .i64 x1.1 3)))∧(((iNat (iAdd .i64 x1.1 3))≤(List.length x))∧(0<(List.length x)))))∧((OP (lSub x (iNat x1.1) (iNat (iAdd .i64 x1.1 3))))∧(((bNot (HQ (lSub x (iNat x1.1) (iNat (iAdd .i64 x1.1 3)))).2)=true→True)∧((bNot (HQ (lSub x (iNat x1.1) (iNat (iAdd .i64 x1.1 3)))).2)=false→(AE (((List.length x1.2.1)+(List.length [(HQ (lSub x (iNat x1.1) (iNat (iAdd .i64 x1.1 3)))).1]))*4)))))))∧((iLt x1.2.2 (iConv .i64 (lGet x (iNat 0) 0)))=false→True))
def Rm(x:List (Int))(x0:(Int×(Int×(List (List (Int×(Int×(Int×Int)))))))):Prop:=(((iLt x0.2.1 (iConv .i64 (lGet x (iNat 1) 0)))=true→((LoopOk (FG x) (Gt x) (Rn x) (x0.1,[],0))∧(((iLt (Am (FG x) (Gt x) (x0.1,[],0)).2.2 (iConv .i64 (lGet x (iNat 0) 0)))=true→True)∧((iLt (Am (FG x) (Gt x) (x0.1,[],0)).2.2 (iConv .i64 (lGet x (iNat 0) 0)))=false→(AE (((List.length x0.2.2)+(List.length [(Am (FG x) (Gt x) (x0.1,[],0)).2.1]))*1))))))∧((iLt x0.2.1 (iConv .i64 (lGet x (iNat 1) 0)))=false→True))
theorem ZK (x):FJ x=(bSel (bOr (iLt (lLen x) 2) (iNe (lLen x) (iAdd .i64 2 (iMul .i64 (iMul .i64 3 (iConv .i64 (lGet x (iNat 0) 0))) (iConv .i64 (lGet x (iNat 1) 0)))))) ((0,[]),false) (bSel (iLt (Am (Gs x) (GZ x) (2,0,[])).2.1 (iConv .i64 (lGet x (iNat 1) 0))) ((0,[]),false) (bSel (bNot (BL ((iConv .i64 (lGet x (iNat 0) 0)),(Am (Gs x) (GZ x) (2,0,[])).2.2))) ((0,[]),false) (((iConv .i64 (lGet x (iNat 0) 0)),(Am (Gs x) (GZ x) (2,0,[])).2.2),true)))):=(IV.v x).trans (by kernel_rfl)
theorem j5 (x):OS x=((((iLt (lLen x) 2)=true→True)∧((iLt (lLen x) 2)=false→((((0:Int)≤0)∧((0:Int)<(((List.length x):Int))))∧(((iNat 0)<(List.length x))∧((((0:Int)≤1)∧((1:Int)<(((List.length x):Int))))∧((iNat 1)<(List.length x)))))))∧(((bOr (iLt (lLen x) 2) (iNe (lLen x) (iAdd .i64 2 (iMul .i64 (iMul .i64 3 (iConv .i64 (lGet x (iNat 0) 0))) (iConv .i64 (lGet x (iNat 1) 0))))))=true→True)∧((bOr (iLt (lLen x) 2) (iNe (lLen x) (iAdd .i64 2 (iMul .i64 (iMul .i64 3 (iConv .i64 (lGet x (iNat 0) 0))) (iConv .i64 (lGet x (iNat 1) 0))))))=false→((((0:Int)≤0)∧((0:Int)<(((List.length x):Int))))∧(((iNat 0)<(List.length x))∧((((0:Int)≤1)∧((1:Int)<(((List.length x):Int))))∧(((iNat 1)<(List.length x))∧((LoopOk (Gs x) (GZ x) (Rm x) (2,0,[]))∧(((iLt (Am (Gs x) (GZ x) (2,0,[])).2.1 (iConv .i64 (lGet x (iNat 1) 0)))=true→True)∧((iLt (Am (Gs x) (GZ x) (2,0,[])).2.1 (iConv .i64 (lGet x (iNat 1) 0)))=false→(G5 ((iConv .i64 (lGet x (iNat 0) 0)),(Am (Gs x) (GZ x) (2,0,[])).2.2)))))))))))):=(IV.o x).trans (by kernel_rfl)
attribute [irreducible] Gx RG Fk OX FJ OS
end
section
set_option maxRecDepth 8000
def nS:DCode:=(.seq [0] (.region [oa 0 2 (.mv (.c .undef))]) (.seq [3,0] (.region [on 0 5 0,oa 1 6 (.len (.t 5)),oa 2 7 (.bin .add (.c (.int .i64 10729)) (.t 6)),om 3 3 7]) (.seq [3,0] (.seq [4,3,0] (.region [oi 0 4 0]) (.block 0 (.loop [0,3,4] 1 (.seq [4,3,0] (.seq [15,4,3,0] (.region [om 0 8 4,on 1 9 0,oa 2 10 (.len (.t 9)),oa 3 11 (.bin .lss (.t 8) (.t 10)),om 4 12 11,og 5 13 (.mv (.t 4)) 12 true,og 6 14 (.bin .lss (.t 13) (.c (.int .i64 4000))) 12 true,oa 7 15 (.pick (.t 12) (.t 14) (.c (.bool false)))]) (.cond (.t 15) .skip (.exit 0))) (.seq [4,3,0] (.block 1 (.region [om 0 18 3,oa 1 19 (.bin .mul (.t 18) (.c (.int .i64 131))),on 2 20 0,om 3 21 4,oa 4 22 (.indexA 1 (.t 20) (.t 21)),oa 5 23 (.loadH none (.t 22)),oa 6 24 (.conv .i64 (.t 23)),oa 7 25 (.bin .add (.t 19) (.t 24)),oa 8 26 (.bin .add (.t 25) (.c (.int .i64 7))),oa 9 27 (.bin .and (.t 26) (.c (.int .i64 1073741823))),om 10 3 27])) (.region [om 0 16 4,oa 1 17 (.bin .add (.t 16) (.c (.int .i64 1))),om 2 4 17])))))) (.seq [2] (.region [om 0 28 0,om 1 29 3,oa 2 30 (.build [.nils,(.int .i64 0),(.int .i64 0)] [(0,1,(.t 28)),(2,1,(.t 29))]),oa 3 31 (.boxH 3 (.t 30)),om 4 2 31]) .ret))))
def Kh:DFun:=⟨1,32,0,false,[.tmp 2],nS⟩
@[irreducible] def Np:A3:=F5 Kh.er.er
@[irreducible] def Pt:BI:=DA Kh.er
theorem nX:Dd Np Pt:=by unfold Np Pt;exact H6 (f:=Kh.er) trivial
def SP:List HT:=[.one .frz (.sl (.one (.int .u8)))]
def SL:List (Ql×CT):=[(.frz,.sl (.one (.int .u8))),(.own,.int .i64),(.own,.int .i64)]
@[irreducible] def Jg(x:List (Int)):List (Int)×Int×Int:=(shut fun x=>Rh Kh SP SL x).1 x
@[irreducible] def Nl(x:List (Int)):Prop:=(shut fun x=>QZ Kh SP SL x).1 x
def bB:De:=T1 SP SL Nl Jg
theorem od:FZ Pt bB:=by unfold Pt;exact dg (f:=Kh) (hs:=SP) (cs:=SL) trivial (by kernel_rfl) (fun x=>by kernel_rfl) (fun x h=>by unfold Nl at h;exact Eq.mp (congrFun (shut _).2 x) h) (fun x=>by unfold Jg;exact(congrFun (shut _).2 x).symm)
def nj:DCode:=(.seq [0] (.region [oi 0 2 0]) (.seq [0] (.region [om 0 4 0,om 1 5 0,oa 2 6 (.nilck (.t 5)),oa 3 7 (.fieldA 2 (.t 6)),oa 4 8 (.loadH none (.t 7)),oa 5 9 (.bin .mul (.t 8) (.c (.int .i64 6364136223846793005))),oa 6 10 (.bin .add (.t 9) (.c (.int .i64 1442695040888963407))),oa 7 11 (.nilck (.t 4)),oa 8 12 (.fieldA 2 (.t 11)),os 9 (.storeH 1 (.t 12) (.t 10))]) (.seq [3,0] (.region [om 0 13 0,xA 1 14 (.nilck (.t 13)) (rg 1),xA 2 15 (.fieldA 2 (.t 14)) (rg 2),xA 3 16 (.loadH none (.t 15)) (rg 3),xA 4 17 (.bin .shr (.t 16) (.c (.int .u64 33))) (rg 4),om 5 18 0,xA 6 19 (.nilck (.t 18)) [5],xA 7 20 (.fieldA 2 (.t 19)) [5,6],xA 8 21 (.loadH none (.t 20)) [5,6,7],xA 9 22 (.bin .shr (.t 21) (.c (.int .u64 45))) [5,6,7,8],xA 10 23 (.bin .xor (.t 17) (.t 22)) (rg 10),xA 11 24 (.bin .and (.t 23) (.c (.int .i64 255))) (rg 11),xA 12 3 (.mv (.t 24)) (rg 12)]) (.seq [3] (.seq [34,3,0] (.region [om 0 25 0,xA 1 26 (.nilck (.t 25)) (rg 1),xA 2 27 (.fieldA 1 (.t 26)) (rg 2),xA 3 28 (.loadH none (.t 27)) (rg 3),om 4 29 0,xA 5 30 (.nilck (.t 29)) [4],xA 6 31 (.fieldA 0 (.t 30)) [4,5],xA 7 32 (.loadH none (.t 31)) [4,5,6],xA 8 33 (.len (.t 32)) [4,5,6,7],xA 9 34 (.bin .lss (.t 28) (.t 33)) (rg 9)]) (.cond (.t 34) (.seq [3,0] (.region [om 0 35 3,om 1 36 0,xA 2 37 (.nilck (.t 36)) [1],xA 3 38 (.fieldA 0 (.t 37)) [1,2],xA 4 39 (.loadH none (.t 38)) [1,2,3],om 5 40 0,xA 6 41 (.nilck (.t 40)) [5],xA 7 42 (.fieldA 1 (.t 41)) [5,6],xA 8 43 (.loadH none (.t 42)) [5,6,7],xA 9 44 (.indexA 1 (.t 39) (.t 43)) [1,2,3,4,5,6,7,8],xA 10 45 (.loadH none (.t 44)) [1,2,3,4,5,6,7,8,9],xA 11 46 (.conv .i64 (.t 45)) [1,2,3,4,5,6,7,8,9,10],xA 12 47 (.bin .add (.t 35) (.t 46)) (rg 12),xA 13 48 (.bin .and (.t 47) (.c (.int .i64 255))) (rg 13),xA 14 3 (.mv (.t 48)) (rg 14)]) (.region [om 0 49 0,om 1 50 0,oa 2 51 (.nilck (.t 50)),oa 3 52 (.fieldA 1 (.t 51)),oa 4 53 (.loadH none (.t 52)),oa 5 54 (.bin .add (.t 53) (.c (.int .i64 1))),oa 6 55 (.nilck (.t 49)),oa 7 56 (.fieldA 1 (.t 55)),os 8 (.storeH 1 (.t 56) (.t 54))])) .skip)) (.seq [2] (.region [om 0 57 3,om 1 2 57]) .ret)))))
def Kb:DFun:=⟨1,58,0,false,[.tmp 2],nj⟩
@[irreducible] def Fl:A3:=F5 Kb.er.er
@[irreducible] def Je:BI:=DA Kb.er
theorem Pf:Dd Fl Je:=by unfold Fl Je;exact H6 (f:=Kb.er) trivial
def SC:List HT:=[]
def SH:List (Ql×CT):=[(.frz,.sl (.one (.int .u8))),(.own,.int .i64),(.own,.int .i64)]
def Sr:QT:=.one (.one .own (.int .i64))
@[irreducible] def BD(x:List (Int)×Int×Int):Int×(Int×Int):=(shut fun x=>IE Kb SC SH Sr x).1 x
@[irreducible] def HV(x:List (Int)×Int×Int):Prop:=(shut fun x=>Iv Kb SC SH Sr x).1 x
def Nh:De:=JA SC SH Sr HV BD
theorem Pd:FZ Je Nh:=by unfold Je;exact LH (f:=Kb) (hs:=SC) (cs:=SH) (q:=Sr) trivial (by kernel_rfl) (fun x=>by kernel_rfl) (fun x h=>by unfold HV at h;exact Eq.mp (congrFun (shut _).2 x) h) (fun x=>by unfold BD;exact(congrFun (shut _).2 x).symm)
def mH:DCode:=(.seq [1,0] (.region [oi 0 4 0]) (.seq [1,0] (.seq [10,1,0] (.region [om 0 9 1,oa 1 10 (.bin .leq (.t 9) (.c (.int .i64 0)))]) (.cond (.t 10) (.seq [4] (.region [oi 0 4 0]) .ret) .skip)) (.seq [1,0] (.seq [12,1,0] (.region [om 0 11 1,oa 1 12 (.bin .leq (.t 11) (.c (.int .i64 256)))]) (.cond (.t 12) (.seq [4] (.region [om 0 13 0,op 1 14 Fl Je Nh [(.t 13)],om 2 15 1,oa 3 16 (.bin .rem (.t 14) (.t 15)),om 4 4 16]) .ret) .skip)) (.seq [5,1,0] (.region [om 0 17 0,op 1 18 Fl Je Nh [(.t 17)],om 2 5 18]) (.seq [6,5,1,0] (.region [om 0 19 0,op 1 20 Fl Je Nh [(.t 19)],om 2 6 20]) (.seq [7,6,5,1,0] (.region [om 0 21 0,op 1 22 Fl Je Nh [(.t 21)],om 2 7 22]) (.seq [8,7,6,5,1] (.region [om 0 23 0,op 1 24 Fl Je Nh [(.t 23)],om 2 8 24]) (.seq [4] (.region [om 0 25 5,oa 1 26 (.bin .mul (.t 25) (.c (.int .i64 16777216))),om 2 27 6,oa 3 28 (.bin .mul (.t 27) (.c (.int .i64 65536))),oa 4 29 (.bin .add (.t 26) (.t 28)),om 5 30 7,oa 6 31 (.bin .mul (.t 30) (.c (.int .i64 256))),oa 7 32 (.bin .add (.t 29) (.t 31)),om 8 33 8,oa 9 34 (.bin .add (.t 32) (.t 33)),om 10 35 1,oa 11 36 (.bin .rem (.t 34) (.t 35)),om 12 4 36]) .ret))))))))
def J5:DFun:=⟨2,37,0,false,[.tmp 4],mH⟩
@[irreducible] def BZ:A3:=F5 J5.er.er
@[irreducible] def Dv:BI:=DA J5.er
theorem EP:Dd BZ Dv:=by unfold BZ Dv;exact H6 (f:=J5.er) ⟨Pf,Pf,Pf,Pf,Pf,trivial⟩
def Si:List HT:=[.one .frz (.int .i64)]
def Sl:List (Ql×CT):=[(.frz,.sl (.one (.int .u8))),(.own,.int .i64),(.own,.int .i64)]
def Sm:QT:=.one (.one .own (.int .i64))
@[irreducible] def Ao(x:(List (Int)×Int×Int)×Int):Int×(Int×Int):=(shut fun x=>IE J5 Si Sl Sm x).1 x
@[irreducible] def Di(x:(List (Int)×Int×Int)×Int):Prop:=(shut fun x=>Iv J5 Si Sl Sm x).1 x
def En:De:=JA Si Sl Sm Di Ao
theorem EN:FZ Dv En:=by unfold Dv;exact LH (f:=J5) (hs:=Si) (cs:=Sl) (q:=Sm) ⟨Pd,Pd,Pd,Pd,Pd,trivial⟩ (by kernel_rfl) (fun x=>by kernel_rfl) (fun x h=>by unfold Di at h;exact Eq.mp (congrFun (shut _).2 x) h) (fun x=>by unfold Ao;exact(congrFun (shut _).2 x).symm)
def mT:DCode:=(.seq [1,0] (.region [oa 0 4 (.mv (.c (.bool false)))]) (.seq [4] (.region [om 0 5 0,om 1 6 1,op 2 7 BZ Dv En [(.t 5),(.t 6)],oa 3 8 (.bin .eql (.t 7) (.c (.int .i64 0))),om 4 4 8]) .ret))
def Kc:DFun:=⟨2,9,0,false,[.tmp 4],mT⟩
@[irreducible] def Kf:A3:=F5 Kc.er.er
@[irreducible] def Ng:BI:=DA Kc.er
theorem aB:Dd Kf Ng:=by unfold Kf Ng;exact H6 (f:=Kc.er) ⟨EP,trivial⟩
def Sv:List HT:=[.one .frz (.int .i64)]
def SB:List (Ql×CT):=[(.frz,.sl (.one (.int .u8))),(.own,.int .i64),(.own,.int .i64)]
def Sx:QT:=.one (.one .own (.bool))
@[irreducible] def C7(x:(List (Int)×Int×Int)×Int):Bool×(Int×Int):=(shut fun x=>IE Kc Sv SB Sx x).1 x
@[irreducible] def LA(x:(List (Int)×Int×Int)×Int):Prop:=(shut fun x=>Iv Kc Sv SB Sx x).1 x
def VX:De:=JA Sv SB Sx LA C7
theorem bf:FZ Ng VX:=by unfold Ng;exact LH (f:=Kc) (hs:=Sv) (cs:=SB) (q:=Sx) ⟨EN,trivial⟩ (by kernel_rfl) (fun x=>by kernel_rfl) (fun x h=>by unfold LA at h;exact Eq.mp (congrFun (shut _).2 x) h) (fun x=>by unfold C7;exact(congrFun (shut _).2 x).symm)
def lC:DCode:=(.seq [1,0] (.region [oi 0 4 0]) (.seq [4] (.region [on 0 5 1,om 1 6 0,on 2 7 1,oa 3 8 (.len (.t 7)),op 4 9 BZ Dv En [(.t 6),(.t 8)],oa 5 10 (.indexA 1 (.t 5) (.t 9)),ob 6 11 (.loadH none (.t 10)),om 7 4 11]) .ret))
def J1:DFun:=⟨2,12,0,false,[.tmp 4],lC⟩
@[irreducible] def MZ:A3:=F5 J1.er.er
@[irreducible] def O7:BI:=DA J1.er
theorem ll:Dd MZ O7:=by unfold MZ O7;exact H6 (f:=J1.er) ⟨EP,trivial⟩
def RX:List HT:=[.one .frz (.sl (.one (.int .i64)))]
def RY:List (Ql×CT):=[(.frz,.sl (.one (.int .u8))),(.own,.int .i64),(.own,.int .i64)]
def R8:QT:=.one (.one .own (.int .i64))
@[irreducible] def Gz(x:(List (Int)×Int×Int)×List (Int)):Int×(Int×Int):=(shut fun x=>IE J1 RX RY R8 x).1 x
@[irreducible] def MR(x:(List (Int)×Int×Int)×List (Int)):Prop:=(shut fun x=>Iv J1 RX RY R8 x).1 x
def Z1:De:=JA RX RY R8 MR Gz
theorem lE:FZ O7 Z1:=by unfold O7;exact LH (f:=J1) (hs:=RX) (cs:=RY) (q:=R8) ⟨EN,trivial⟩ (by kernel_rfl) (fun x=>by kernel_rfl) (fun x h=>by unfold MR at h;exact Eq.mp (congrFun (shut _).2 x) h) (fun x=>by unfold Gz;exact(congrFun (shut _).2 x).symm)
def oM:DCode:=(.seq [0] (.region [oa 0 2 (.mv (.c (.bool false)))]) (.seq [2] (.region [on 0 3 0,oa 1 4 (.len (.t 3)),oa 2 5 (.bin .gtr (.t 4) (.c (.int .i64 1048576))),om 3 2 5]) .ret))
def Jk:Fn:=⟨⟨1,6,0,true,[.tmp 2],oM⟩,[.one .frz (.sl (.one (.int .u8)))],.one (.one .own (.bool))⟩
theorem oY:Jk.A:=BS trivial
def Nv:List (Int)→Bool:=Jk.V
def SV:List (Int)→Prop:=Jk.O
theorem pz:Jk.B:=BV trivial (by kernel_rfl) (fun x=>by kernel_rfl)
end
section
set_option maxRecDepth 100000
def VK(x:List (Int))(x0:(Int×Int)):Bool:=(bAnd (iLt x0.2 (lLen x)) (iLt x0.2 4000))
def aj(x:List (Int))(x0:(Int×Int)):(Int×Int):=((iAnd .i64 (iAdd .i64 (iAdd .i64 (iMul .i64 x0.1 131) (iConv .i64 (lGet x (iNat x0.2) 0))) 7) 1073741823),(iAdd .i64 x0.2 1))
def au(x:List (Int))(x0:(Int×Int)):Prop:=(((bAnd (iLt x0.2 (lLen x)) (iLt x0.2 4000))=true→((((0:Int)≤x0.2)∧(x0.2<(((List.length x):Int))))∧((iNat x0.2)<(List.length x))))∧((bAnd (iLt x0.2 (lLen x)) (iLt x0.2 4000))=false→True))
theorem nM (x):Jg x=(x,0,(Am (VK x) (aj x) ((iAdd .i64 10729 (lLen x)),0)).1):=by unfold Jg;exact(congrFun (shut _).2 x).trans (by kernel_rfl)
theorem nP (x):Nl x=(LoopOk (VK x) (aj x) (au x) ((iAdd .i64 10729 (lLen x)),0)):=by unfold Nl;exact(congrFun (shut _).2 x).trans (by kernel_rfl)
theorem nw (x):BD x=((bSel (iLt x.2.1 (lLen x.1)) (iAnd .i64 (iAdd .i64 (iAnd .i64 (iXor .i64 (iShr .i64 (iAdd .i64 (iMul .i64 x.2.2 6364136223846793005) 1442695040888963407) 33) (iShr .i64 (iAdd .i64 (iMul .i64 x.2.2 6364136223846793005) 1442695040888963407) 45)) 255) (iConv .i64 (lGet x.1 (iNat x.2.1) 0))) 255) (iAnd .i64 (iXor .i64 (iShr .i64 (iAdd .i64 (iMul .i64 x.2.2 6364136223846793005) 1442695040888963407) 33) (iShr .i64 (iAdd .i64 (iMul .i64 x.2.2 6364136223846793005) 1442695040888963407) 45)) 255)),(bSel (iLt x.2.1 (lLen x.1)) (iAdd .i64 x.2.1 1) x.2.1),(iAdd .i64 (iMul .i64 x.2.2 6364136223846793005) 1442695040888963407)):=by unfold BD;exact(congrFun (shut _).2 x).trans (by kernel_rfl)
theorem ni (x):HV x=(((0:Int)≤33)∧(((0:Int)≤45)∧(((iLt x.2.1 (lLen x.1))=true→((((0:Int)≤x.2.1)∧(x.2.1<(((List.length x.1):Int))))∧((iNat x.2.1)<(List.length x.1))))∧((iLt x.2.1 (lLen x.1))=false→True)))):=by unfold HV;exact(congrFun (shut _).2 x).trans (by kernel_rfl)
theorem mu (x):Ao x=(bSel (iLe x.2 0) (0,x.1.2) (bSel (iLe x.2 256) ((iRem (BD x.1).1 x.2),(BD x.1).2) ((iRem (iAdd .i64 (iAdd .i64 (iAdd .i64 (iMul .i64 (BD x.1).1 16777216) (iMul .i64 (BD (x.1.1,(BD x.1).2)).1 65536)) (iMul .i64 (BD (x.1.1,(BD (x.1.1,(BD x.1).2)).2)).1 256)) (BD (x.1.1,(BD (x.1.1,(BD (x.1.1,(BD x.1).2)).2)).2)).1) x.2),(BD (x.1.1,(BD (x.1.1,(BD (x.1.1,(BD x.1).2)).2)).2)).2))):=by unfold Ao;exact(congrFun (shut _).2 x).trans (by kernel_rfl)
theorem mE (x):Di x=(((iLe x.2 0)=true→True)∧((iLe x.2 0)=false→(((iLe x.2 256)=true→((HV x.1)∧(x.2≠0)))∧((iLe x.2 256)=false→((HV x.1)∧((HV (x.1.1,(BD x.1).2))∧((HV (x.1.1,(BD (x.1.1,(BD x.1).2)).2))∧((HV (x.1.1,(BD (x.1.1,(BD (x.1.1,(BD x.1).2)).2)).2))∧(x.2≠0))))))))):=by unfold Di;exact(congrFun (shut _).2 x).trans (by kernel_rfl)
theorem nE (x):C7 x=((iEq (Ao x).1 0),(Ao x).2):=by unfold C7;exact(congrFun (shut _).2 x).trans (by kernel_rfl)
theorem nk (x):LA x=(Di x):=by unfold LA;exact(congrFun (shut _).2 x).trans (by kernel_rfl)
theorem lq (x):Gz x=((lGet x.2 (iNat (Ao (x.1,(lLen x.2))).1) 0),(Ao (x.1,(lLen x.2))).2):=by unfold Gz;exact(congrFun (shut _).2 x).trans (by kernel_rfl)
theorem lD (x):MR x=((Di (x.1,(lLen x.2)))∧((((0:Int)≤(Ao (x.1,(lLen x.2))).1)∧((Ao (x.1,(lLen x.2))).1<(((List.length x.2):Int))))∧((iNat (Ao (x.1,(lLen x.2))).1)<(List.length x.2)))):=by unfold MR;exact(congrFun (shut _).2 x).trans (by kernel_rfl)
theorem ph (x):Nv x=(iGt (lLen x) 1048576):=(Jk.v x).trans (by kernel_rfl)
theorem oL (x):SV x=True:=(Jk.o x).trans (by kernel_rfl)
attribute [irreducible] Nv SV
end
open Go.RowKit
theorem HRel.below{ι:As}{σ:Ac}{w w':World}(H:HRel ι σ w)(B:Below w.heap.size w w'):HRel ι σ w':=by
 have far:∀ (j:Nat) (b:Blk),σ[j]?=some b→b.k≠.dead→w'.heap[(ι j).b]?=w.heap[(ι j).b]?:=fun j b hj hbk=>B.block _ (H.there j b hj hbk)
 refine⟨fun l blk h hd i v hv=>?_,fun l blk h hk=>?_,H.apart,fun l blk h hd=>Ik (H.there l blk h hd) B.size⟩
 · obtain⟨c,x,hx,hr⟩:=H.cells l blk h hd i v hv;exact⟨c,x,by rw[TZ (w:=w) (far l blk h hd)];exact hx,hr⟩
 · obtain⟨g1,g2,arr,e,g3,g4⟩:=H.own l blk h hk;exact⟨g1,g2,arr,e,by rw[far l blk h (by rw[hk];decide)];exact g3,g4⟩
theorem Step.below{ι:As}{σ:Ac}{w w':World}(B:Below w.heap.size w w'):Step ι σ w ι σ w':=
 { Step.refl ι σ w with frame:=fun b hb _=>B.block b hb,size:=B.size,os:=B.os,output:=B.output,tape:=B.tape }
def Bn(xs:List (List UInt8))(sep:List UInt8):List UInt8:=sep.intercalate xs
def Pb:A3:=fun args h Q=>∃ (u:V) (sep:List UInt8) (xs:List (List UInt8)),args=[u,.str sep]∧xs.length≤140737488355328∧(Bn xs sep).length≤140737488355328 ∧
 ((xs=[]∧(u= .nils∨∃ l o,u= .slice l o 0))∨∃ (l o:Nat) (b:Blk),u= .slice l o xs.length∧0<xs.length∧h[l]?=some b∧b.k≠.dead∧∀ (k:Nat) x,xs[k]?=some x→b.cs[o+k]?=some (.str x))∧Q (.str (Bn xs sep)) h
def tG(P:Program)(g:FuncId):Prop:=
 (∀ (bk o c:Nat) (xs:List ByteArray) (sep:ByteArray) (w:World),(∀ (j:Nat) x,xs[j]?=some x→w.cell? ⟨bk,o+j,none⟩=some (.string x))→bk<w.heap.size→xs.length≤140737488355328→xs.length≤c→(Lib.join (xs.map (·.data.toList)) sep.data.toList).length≤140737488355328 →
  Calls P g #[.slice (some ⟨bk,o,none⟩) xs.length c,.string sep] w fun e w'=>e= .returned (.string ⟨(Lib.join (xs.map (·.data.toList)) sep.data.toList).toArray⟩)∧Below w.heap.size w w') ∧
 ∀ (a:Option Addr) (c:Nat) (sep:ByteArray) (w:World),Calls P g #[.slice a 0 c,.string sep] w fun e w'=>e= .returned (.string ⟨#[]⟩)∧w'=w
theorem p7{P:Program}{g:FuncId}(hs:tG P g):AB P g Pb:=by
 rintro Φ ι σ w args xs Q hΦ H hargs ⟨u,sep,ss,rfl,hn,hlen,hu,hQ⟩ _;have hl:=hargs.1
 match xs,hl with
 | [x, y], _=>
   have hy:=FX (hargs.2 1 _ _ rfl rfl (fun _=>0));have hx:=hargs.2 0 _ _ rfl rfl (fun _=>0);subst hy;rcases hu with⟨rfl,hu⟩|⟨l,o,b,rfl,hpos,hb,hk,hc⟩
   · have key:∃ a c,x= .slice a 0 c:=by
      rcases hu with rfl|⟨l,o,rfl⟩
      · obtain⟨a,rfl⟩:=NH hx;exact⟨a,0,rfl⟩
      · obtain⟨_,_,⟨c,rfl,_⟩|⟨_,a,rfl⟩⟩:=Fp hx
        · exact⟨_,c,rfl⟩
        · exact⟨a,0,rfl⟩
     obtain⟨a,c,rfl⟩:=key;refine(hs.2 a c ⟨sep.toArray⟩ w).mono ?_;rintro e w' ⟨rfl,rfl⟩;exact⟨_,.str (Bn [] sep),σ,ι,rfl,hQ,hΦ,fun β=>.str _,H,.refl _ _ _⟩
   · have hl:Φ l=none:=(XE hx).1 l o _ rfl
     have hb':(kill Φ σ)[l]?=some b:=by rw[NU hl];exact hb
     obtain⟨b1,g1,hc1⟩:=Fp hx;rw[hb'] at g1;cases g1;rcases hc1 with⟨c,rfl,c1,c2⟩|⟨h0,_⟩
     · have hbs:∀ (s:List UInt8),(ByteArray.mk s.toArray).data.toList=s:=fun s=>by simp
       have e1:(ss.map fun s=>ByteArray.mk s.toArray).map (·.data.toList)=ss:=by
        rw[List.map_map];simp[Function.comp_def]
       have hcall:=hs.1 (ι l).b ((ι l).o+o) c (ss.map fun s=>ByteArray.mk s.toArray) ⟨sep.toArray⟩ w (fun j x hx=>by
        rw[Fz] at hx
        cases hj:ss[j]? with
        |none=>rw[hj] at hx;cases hx
        | some s=>
          rw[hj] at hx;cases hx;obtain⟨_,z,q1,q2⟩:=H.cells l b hb' hk (o+j) _ (hc j s hj)
          rw[L3,q1,FX (q2 (fun _=>0))]) (H.there l b hb' hk) (by simpa using hn) (by simpa using c1) (by rw[e1,hbs];exact hlen)
       rw[Bb,e1,hbs] at hcall;refine hcall.mono ?_;rintro e w' ⟨rfl,B⟩;exact⟨_,.str (Bn ss sep),σ,ι,rfl,hQ,hΦ,fun β=>.str _,H.below B,Step.below B⟩
     · omega
def Tp:List UInt8:=[97,32,98,32,99,32,100,32,101,32,102,32,103,32,104,32,105,32,106,32,107,32,108,32,109,32,110,32,111,32,112,32,113,32,114,32,115,32,116,32,117,32,118,32,119,32,120,32,121,32,122,32,49,32,50,32,51,32,52,32,53,32,54,32,55,32,56,32,57,32,48,32,101,110,116,101,114,32,101,115,99,32,98,97,99,107,32,116,97,98,32,115,112,97,99,101,32,109,105,110,117,115,32,101,113,117,97,108,32,108,101,102,116,32,114,105,103,104,116,32,117,112,32,100,111,119,110,32,102,49,32,102,50,32,102,51,32,102,52,32,102,53,32,102,54,32,102,55,32,102,56,32,102,57]
def Co:List (List UInt8):=[[97],[98],[99],[100],[101],[102],[103],[104],[105],[106],[107],[108],[109],[110],[111],[112],[113],[114],[115],[116],[117],[118],[119],[120],[121],[122],[49],[50],[51],[52],[53],[54],[55],[56],[57],[48],[101,110,116,101,114],[101,115,99],[98,97,99,107],[116,97,98],[115,112,97,99,101],[109,105,110,117,115],[101,113,117,97,108],[108,101,102,116],[114,105,103,104,116],[117,112],[100,111,119,110],[102,49],[102,50],[102,51],[102,52],[102,53],[102,54],[102,55],[102,56],[102,57]]
def Jd:A3:=fun args h Q=>∃ s sep:List UInt8,args=[.str s,.str sep]∧s.length<4294967281∧1≤sep.length∧Q (.slice h.length 0 (Lib.split s sep).length) (h++[⟨.own,1,(Lib.split s sep).map .str⟩])
def dJ(P:Program)(g:FuncId):Prop:=∃ gm,P.globalNamed "internal/bytealg.MaxLen"= some gm∧∀ (s sep:List UInt8) (m:Int) (w:World),s.length<4294967281→1≤sep.length→w.cell? ⟨gm,0,none⟩=some (.int .i64 m) →
 Calls P g #[.string ⟨s.toArray⟩,.string ⟨sep.toArray⟩] w fun e w'=>∃ T,e= .returned (.slice (some ⟨w.heap.size,0,none⟩) (Lib.split s sep).length (Lib.split s sep).length)∧w'=w.alloc (.cells ((Lib.split s sep).map fun s=>Value.string ⟨s.toArray⟩).toArray T)
theorem Gl.maxLen{P:Program}{ι:As}{σ:Ac}{w:World}(h:Gl P ι σ w){gm:Nat}(hg:P.globalNamed "internal/bytealg.MaxLen"= some gm):∃ m,w.cell? ⟨gm,0,none⟩=some (.int .i64 m):=by
 obtain⟨cs,h1,h2⟩:=h.1 "internal/bytealg.MaxLen" (by simp[Kv]) gm hg
 unfold Mt at h2;rw[Ad (by decide),Ab rfl] at h2;obtain⟨m,hm⟩:=h2
 exact⟨m,by
  have:w.cell? ⟨gm,0,none⟩=cs[0]?:=by
   simp only[World.var?,hg,Fy] at h1;split at h1<;>simp_all [World.cell?]
  rw[this,hm]⟩
theorem oN{P:Program}{g:FuncId}(hs:dJ P g):AB P g Jd:=by
 obtain⟨gm,hgm,hs⟩:=hs;rintro Φ ι σ w args xs Q hΦ H hargs ⟨s,sep,rfl,hs1,hs2,hQ⟩ hG;have hl:=hargs.1;obtain⟨m,hm⟩:=hG.maxLen hgm
 match xs,hl with
 | [x, y],_=>
   have hx:=FX (hargs.2 0 _ _ rfl rfl (fun _=>0));have hy:=FX (hargs.2 1 _ _ rfl rfl (fun _=>0));subst hx;subst hy;refine(hs s sep m w hs1 hs2 hm).mono ?_;rintro e w' ⟨T,rfl,rfl⟩;generalize Lib.split s sep=ws at hQ
   have hcl:RelCells ι (kill Φ σ) (ws.map .str) (ws.map fun s=>Value.string ⟨s.toArray⟩).toArray.toList:=by
    refine⟨by simp,fun i v hv=>?_⟩;rw[Fz] at hv
    cases hi:ws[i]? with
    |none=>rw[hi] at hv;cases hv
    | some s=>
      rw[hi] at hv;cases hv;exact⟨rfl,.string ⟨s.toArray⟩,by simp[hi],fun β=>.str s⟩
   have B:BRel ι (kill Φ σ) (fun _=>0) [] w w:=⟨fun i cs h=>by simp at h,fun i cs h=>by simp at h,fun i j cs ds _ h=>by simp at h,fun i cs l blk h=>by simp at h⟩;have S:SRel ι (kill Φ σ) (fun _=>0) [] #[]:=⟨AO _,fun i=>by rw[show get [] i=V.undef from rfl];exact Rel.undef _⟩;obtain⟨g1,_,_,g2⟩:=NK H B S (ws.map fun s=>Value.string ⟨s.toArray⟩).toArray T 1 (ws.map .str) hcl;rw[← Jq hΦ] at g1 g2;refine⟨_,.slice σ.length 0 ws.length,_,_,rfl,hQ,hΦ.push _,fun β=>?_,g1,g2⟩;have hlen:(kill Φ σ).length=σ.length:=Dl Φ σ;rw[Jq hΦ]
   have:=Rel.slice (ι:=upd ι (kill Φ σ).length ⟨w.heap.size,0,(ws.map fun s=>Value.string ⟨s.toArray⟩).toArray.size⟩) (σ:=kill Φ σ++[⟨.own,1,ws.map .str⟩]) (β:=β) σ.length 0 ws.length ws.length ⟨.own,1,ws.map .str⟩
    (by rw[← hlen];simp) (AO _) (by rw[← hlen,B3];simp) (AO _)
   rw[← hlen,B3] at this;rw[← hlen];simpa using this
def qm(P:Program)(g:FuncId):Prop:=∃ gm,P.globalNamed "internal/bytealg.MaxLen"= some gm∧∀ (s sub:ByteArray) (m:Int) (w:World),s.size<4294967281→w.cell? ⟨gm,0,none⟩=some (.int .i64 m) →
 Calls P g #[.string s,.string sub] w fun e w'=>e= .returned (.int .i64 (Lib.index s.data.toList sub.data.toList))∧w'=w
def Pc:A3:=fun args h Q=>∃ s:List UInt8,args=[.str s]∧s.length≤18∧Q (.tup [.int .i64 ((Lib.atoi s).getD 0),.ifc (Lib.atoi s).isSome]) h
def fM(P:Program)(g:FuncId):Prop:=∃ ge,P.globalNamed "strconv.ErrSyntax"= some ge ∧
 (∀ (s:ByteArray) (n:Int) (w:World),s.size≤18→Lib.atoi s.data.toList=some n→Calls P g #[.string s] w fun e w'=>e= .returned (.tuple #[.int .i64 n,.nilIface])∧Below w.heap.size w w') ∧
 ∀ (s:ByteArray) (t:TypeId) (p:Value) (w:World),s.size≤18→Lib.atoi s.data.toList=none→w.var? P "strconv.ErrSyntax"= some #[.iface t p]→Calls P g #[.string s] w fun e w'=>(∃ T v,e= .returned (.tuple #[.int .i64 0,.iface T v]))∧Below w.heap.size w w'
theorem gC{ι:As}{σ:Ac}{β:Nat→Nat}{a b:V}{x y:Value}(ha:a.ok1=true)(hb:b.ok1=true)(h1:Rel ι σ β a x)(h2:Rel ι σ β b y):Rel ι σ β (.tup [a,b]) (.tuple #[x,y]):=by
 refine Rel.tup [a,b] [x,y] rfl (fun v hv=>?_) (fun i v w hv hw=>?_)
 · simp only[BG,List.not_mem_nil,or_false] at hv;rcases hv with rfl|rfl
   · exact ha
   · exact hb
 · match i with
   |0=>cases hv;cases hw;exact h1
   |1=>cases hv;cases hw;exact h2
   |n+2=>cases hv
theorem qt{P:Program}{g:FuncId}(hs:fM P g):AB P g Pc:=by
 obtain⟨ge,hge,hok,herr⟩:=hs;rintro Φ ι σ w args xs Q hΦ H hargs ⟨s,rfl,hlt,hQ⟩ hG;have hl:=hargs.1
 match xs,hl with
 | [x],_=>
   have hx:=FX (hargs.2 0 _ _ rfl rfl (fun _=>0));subst hx
   have hsz:(ByteArray.mk s.toArray).size≤18:=by simpa [ByteArray.size] using hlt
   have hd:(ByteArray.mk s.toArray).data.toList=s:=by simp
   cases ha:Lib.atoi s with
   | some n=>
     rw[ha] at hQ;refine(hok ⟨s.toArray⟩ n w hsz (by rw[hd];exact ha)).mono ?_;rintro e w' ⟨rfl,B⟩;exact⟨_,.tup [.int .i64 n,.ifc true],σ,ι,rfl,hQ,hΦ,fun β=>gC rfl rfl (.int .i64 n) .nilIfc,H.below B,Step.below B⟩
   | none=>
     rw[ha] at hQ
     obtain⟨cs,h1,h2⟩:=hG.1 "strconv.ErrSyntax" (by simp[Kv]) ge hge
     unfold Mt at h2;rw[Ab rfl] at h2;obtain⟨t,p,rfl⟩:=h2;refine(herr ⟨s.toArray⟩ t p w hsz (by rw[hd];exact ha) h1).mono ?_;rintro e w' ⟨⟨T,v,rfl⟩,B⟩;exact⟨_,.tup [.int .i64 0,.ifc false],σ,ι,rfl,hQ,hΦ,fun β=>gC rfl rfl (.int .i64 0) (.ifc T v),H.below B,Step.below B⟩
def OK:A3:=fun args h Q=>∃ (s:List UInt8) (b:UInt8),args=[.str s,.str [b]]∧Q (.int .i64 (Lib.indexByte s b)) h
def rj(P:Program)(g:FuncId):Prop:=∀ (s:ByteArray) (c:UInt8) (w:World),Calls P g #[.string s,.string ⟨#[c]⟩] w fun e w'=>e= .returned (.int .i64 (Lib.indexByte s.data.toList c))∧w'=w
theorem pr{P:Program}{g:FuncId}(hs:rj P g):AB P g OK:=by
 rintro Φ ι σ w args xs Q hΦ H hargs ⟨s,b,rfl,hQ⟩ _;have hl:=hargs.1
 match xs,hl with
 | [x,y],_=>
   have hx:=FX (hargs.2 0 _ _ rfl rfl (fun _=>0));have hy:=FX (hargs.2 1 _ _ rfl rfl (fun _=>0));subst hx;subst hy;refine(hs ⟨s.toArray⟩ b w).mono ?_;rintro e w' ⟨rfl,rfl⟩;exact⟨_,.int .i64 (Lib.indexByte s b),σ,ι,rfl,hQ,hΦ,fun β=>by simpa using Rel.int .i64 _,H,.refl _ _ _⟩
def Pk:A3:=fun args h Q=>∃ i:Int,args=[.int .i64 i]∧-9223372036854775808≤i∧i≤9223372036854775807∧Q (.str (Lib.itoa i)) h
def fP(P:Program)(g:FuncId):Prop:=∃ gt,P.globalNamed "internal/strconv.uint64pow10"= some gt∧∀ (i:Int) (_:-9223372036854775808≤i) (_:i≤9223372036854775807) (w:World),w.var? P "internal/strconv.uint64pow10"= some ((List.range 20).map fun i=>Value.int .u64 ((10^i:Nat):Int)).toArray →
 Calls P g #[.int .i64 i] w fun e w'=>e= .returned (.string ⟨(Lib.itoa i).toArray⟩)∧Below w.heap.size w w'
theorem pI{P:Program}{g:FuncId}(hs:fP P g):AB P g Pk:=by
 obtain⟨gt,hgt,hs⟩:=hs;rintro Φ ι σ w args xs Q hΦ H hargs ⟨i,rfl,h0,h1,hQ⟩ hG;have hl:=hargs.1
 match xs,hl with
 | [x],_=>
   have hx:=Ea (hargs.2 0 _ _ rfl rfl (fun _=>0));subst hx
   obtain⟨cs,g1,g2⟩:=hG.1 "internal/strconv.uint64pow10" (by simp[Kv]) gt hgt
   unfold Mt at g2;rw[Ad (by decide),Ad (by decide)] at g2;subst g2;refine(hs i h0 h1 w g1).mono ?_;rintro e w' ⟨rfl,B⟩;exact⟨_,.str (Lib.itoa i),σ,ι,rfl,hQ,hΦ,fun β=>.str _,H.below B,Step.below B⟩
section
set_option maxRecDepth 8000
def pL(hs:List HT)(q:QT)(ok:TuX hs→Prop)(v:TuX hs→q.D):BI:=fun args H Q=>∃ x:TuX hs,DV.encL (C5 hs x)=args∧ok x∧Q (q.dv (v x)).enc H
theorem P4(hs:List HT)(q:QT)(ok:TuX hs→Prop)(v:TuX hs→q.D):Il (pL hs q ok v) (Ij hs q ok v):=by
 intro args g w Q h hg hQ;unfold Ij at h
 cases hx:Fe hs args with
 |none=>rw[hx] at h;cases h
 | some x=>
   rw[hx] at h;simp only[Aj,Ak] at h;obtain⟨rfl,rfl⟩:=h;exact⟨x,Oo hx,hg,hQ []⟩
theorem Xy{h h0:Ac}{ω0 ω:Nat→W}{ρ:Nat→Nat}{args:List PV}{us:List V}{H:List (List PV)}(R:RS h0 ω0 ω ρ ⟨args,[],H⟩ ⟨us,[],h⟩ X0)(x:V)(hx:x.flat=true):RS h0 ω0 ω ρ ⟨[],[],H⟩ ⟨[],[],h⟩ (X1 (.fl x) x):=by
 have e:∀ p:List Nat,((PV.fl x).fcell p= .fl .undef)∨((PV.fl x).fcell p= .fl x∧x.fcell p=x):=by
  intro p
  match p with
  |[]=>exact .inl rfl
  |[0]=>right;cases x<;>first|exact⟨rfl,rfl⟩|cases hx
  |[n+1]=>exact .inl rfl
  |_::_::_=>exact .inl (by simp[PV.fcell])
 refine(R.forget).handx ?_ (fun p=>?_) (fun p i pb tp=>?_)
 · cases x<;>first|trivial|(refine⟨fun us h=>?_,fun us h=>?_⟩<;>cases h)|cases hx
 · rcases e p with e|⟨e1,e2⟩
   · rw[e];exact .undef _ _
   · rw[e1,e2];exact .v _ _ hx
 · rcases e p with e|⟨e1,e2⟩
   · rw[e];simp[PV.q]
   · rw[e1];simp[PV.q]
theorem Yl(x:V):(PV.fl x).nob:=by
 intro p hb pb tp
 match p with
 |[]=>simp[PV.fcell,PV.q]
 |[0]=>simp[PV.fcell,PV.q]
 |[n+1]=>simp[PV.fcell,PV.q]
 |_::_::_=>simp[PV.fcell,PV.q]
theorem KK{h0:Ac}{ω0 ω:Nat→W}{ρ:Nat→Nat}{st:PS}{us:St}(R:RS h0 ω0 ω ρ st us X0)(t:Nat){v:PV}(hv:Aa st.sl t=v)(h1:∀ cs,v≠.agg cs)(h2:∀ vs,v≠.tup vs)(h3:v≠.fl .undef):RC us.hp ω (.at (.s t) [0]) v (get us.sl t):=by
 have r:RC us.hp ω (.at (.s t) [0]) ((Aa st.sl t).fcell [0]) ((get us.sl t).fcell [0]):=R.core.rc (.s t) [0];have sh:=R.sh t;rw[hv] at r sh
 have e1:v.fcell [0]=v:=by cases v<;>first|rfl|exact absurd rfl (h1 _)|exact absurd rfl (h2 _)
 have e2:(get us.sl t).fcell [0]=get us.sl t:=by
  have s1:(∀ us',get us.sl t≠.agg us')∧∀ us',get us.sl t≠.tup us':=by
   cases v with
   |agg cs=>exact absurd rfl (h1 _)
   |tup vs=>exact absurd rfl (h2 _)
   |fl x=>cases x<;>first|exact absurd rfl h3|exact sh
   |_=>exact sh
  generalize get us.sl t=u at s1
  cases u<;>first|rfl|exact absurd rfl (s1.1 _)|exact absurd rfl (s1.2 _)
 rw[e1,e2] at r;exact r
def E9(l:List (List UInt8)):List (List PV):=l.map fun s=>[.fl (.str s)]
theorem cw(l:List (List UInt8)):(E9 l).flatten=l.map fun s=>.fl (.str s):=by
 induction l with
 |nil=>rfl
 |cons n r ih=>simpa [E9] using ih
theorem qS{l:List (List UInt8)}{k:Nat}(h:k<l.length):Aa (E9 l).flatten k= .fl (.str (l[k])):=by
 rw[cw,Ec,Fz,AF h];rfl
def aZ:List HT:=[.one .frz (.sl (.one .str)),.one .frz .str]
def aG:QT:=.one (.one .own .str)
@[irreducible] def Nd(x:List (List UInt8)×List UInt8):List UInt8:=(shut fun(x:List (List UInt8)×List UInt8)=>Bn x.1 x.2).1 x
@[irreducible] def M9(x:List (List UInt8)×List UInt8):Prop:=(shut fun(x:List (List UInt8)×List UInt8)=>x.1.length≤140737488355328∧(Bn x.1 x.2).length≤140737488355328).1 x
theorem VM (x):Nd x=Bn x.1 x.2:=by unfold Nd;exact congrFun (shut _).2 x
theorem VJ (x):M9 x=(x.1.length≤140737488355328∧(Bn x.1 x.2).length≤140737488355328):=by unfold M9;exact congrFun (shut _).2 x
def aD:FE:=Ij aZ aG M9 Nd
@[irreducible] def Ph:BI:=pL aZ aG M9 Nd
theorem mJ:Il Ph aD:=by unfold Ph;exact P4 _ _ _ _
theorem mG:Dd Pb Ph:=by
 unfold Ph;rintro h ω0 ρ args us H Q K R hloc ⟨⟨(xs:List (List UInt8)),(sep:List UInt8)⟩,rfl,hok,hQ⟩ hK;have hlen:=R.lsl
 match us,hlen with
 | [u1,u2],_=>
   have c1:RC h ω0 (.at (.s 0) [0]) (.sl .frz (E9 xs)) u1:=KK (us:=⟨[u1,u2],[],h⟩) R 0 rfl (by simp) (by simp) (by simp);have c2:RC h ω0 (.at (.s 1) [0]) (.fl (.str sep)) u2:=KK (us:=⟨[u1,u2],[],h⟩) R 1 rfl (by simp) (by simp) (by simp)
   have e2:u2= .str sep:=by cases c2;rfl
   subst e2;have hok:M9 (xs,sep):=hok;have hQ:Q (.fl (.str (Nd (xs,sep)))) H:=hQ;rw[VJ] at hok;rw[VM] at hQ;refine⟨u1,sep,xs,rfl,hok.1,hok.2,?_,hK _ _ _ _ _ _ hQ (Xy R _ rfl) (Yl _)⟩;generalize hes:E9 xs=es at c1
   have hxl:es.length=xs.length:=by rw[← hes];simp[E9]
   cases c1 with
   |nil=>exact .inl ⟨E4 (by rw[← hxl];rfl),.inl rfl⟩
   | sl _ _ _ l o n b hb hk hc hne hn hw hle hr=>
     subst hes;rcases Mb xs.length with h0|h0
     · exact .inl ⟨E4 h0,.inr ⟨l,o,by rw[hn,hxl,h0]⟩⟩
     · refine .inr ⟨l,o,b,by rw[hn,hxl],h0,hb,hk,fun k x hx=>?_⟩
       have hkl:k<xs.length:=by
        rcases Bq k xs.length with h|h
        · exact h
        · rw[Bu h] at hx;cases hx
       have hbw:b.w=1:=by
        obtain⟨y,ys,rfl⟩:=List.exists_cons_of_length_pos h0;have:=hw [.fl (.str y)] (by simp[E9]);simpa using this.symm
       rw[hxl,hbw,KH] at hle hr;have r:=hr k hkl;rw[qS hkl] at r;rw[AF hkl] at hx;cases hx
       have e:get b.cs (o+k)= .str (xs[k]):=by
        generalize get b.cs (o+k)=z at r
        cases r with
        |v=>rfl
       rw[CO,AF (show o+k<b.cs.length by omega)] at e;rw[AF (show o+k<b.cs.length by omega)];simpa using e
def ai:List HT:=[.one .frz .str,.one .frz .str]
def al:QT:=.one (.one .own (.sl (.one .str)))
@[irreducible] def BA(x:List UInt8×List UInt8):List (List UInt8):=(shut fun(x:List UInt8×List UInt8)=>Lib.split x.1 x.2).1 x
@[irreducible] def I8(x:List UInt8×List UInt8):Prop:=(shut fun(x:List UInt8×List UInt8)=>x.1.length<4294967281∧1≤x.2.length).1 x
theorem Vx (x):BA x=(Lib.split x.1 x.2):=by unfold BA;exact congrFun (shut _).2 x
theorem VF (x):I8 x=(x.1.length<4294967281∧1≤x.2.length):=by unfold I8;exact congrFun (shut _).2 x
def Sc:FE:=Ij ai al I8 BA
@[irreducible] def Lv:BI:=pL ai al I8 BA
theorem VB:Il Lv Sc:=by unfold Lv;exact P4 _ _ _ _
theorem sD(s sep:List UInt8):Lib.split s sep≠[]:=by
 unfold Lib.split;generalize Lib.count s sep=k
 cases k with
 |zero=>simp[Lib.splitK]
 |succ k=>unfold Lib.splitK;split<;>simp
theorem uR{h h0:Ac}{ω0 ω:Nat→W}{ρ:Nat→Nat}{args:List PV}{us:List V}{H:List (List PV)}(R:RS h0 ω0 ω ρ ⟨args,[],H⟩ ⟨us,[],h⟩ X0)(l:List (List UInt8))(hl:l≠[]) :
 ∃ ω',RS h0 ω0 ω' ρ ⟨[],[],H⟩ ⟨[],[],h++[⟨.own,1,l.map .str⟩]⟩ (X1 (.sl .own (E9 l)) (.slice h.length 0 l.length)):=by
 have hz:(l.map V.str).all V.flat=true:=by simp[V.flat]
 have h1:=(R.forget).handz hz
 have e1:(l.map V.str).map Bo=l.map fun s=>PV.fl (.str s):=by rw[List.map_map];rfl
 rw[e1] at h1
 have hc:Bi (l.map fun s=>PV.fl (.str s))=true:=by
  rw[← e1];exact LL hz
 obtain⟨ω',h2⟩:=h1.newslice (es:=E9 l) (w:=1) hc (by intro e;exact hl (by simpa [E9] using e)) (fun e he=>by simp only[E9,List.mem_map] at he;obtain⟨_,_,rfl⟩:=he;rfl) (fun k _=>by rw[cw]) (by simp[E9])
 have e2:(E9 l).length=l.length:=by simp[E9]
 rw[e2] at h2
 exact⟨ω',h2⟩
theorem vS(es:List (List PV)):(PV.sl .own es).nob:=by
 intro p hb pb tp
 match p with
 |[]=>simp[PV.fcell,PV.q]
 |[0]=>simp[PV.fcell,PV.q]
 |[n+1]=>simp[PV.fcell,PV.q]
 |_::_::_=>simp[PV.fcell,PV.q]
theorem Vy:Dd Jd Lv:=by
 unfold Lv;rintro h ω0 ρ args us H Q K R hloc ⟨⟨(s:List UInt8),(sep:List UInt8)⟩,rfl,hok,hQ⟩ hK;have hlen:=R.lsl
 match us,hlen with
 | [u1,u2],_=>
   have c1:RC h ω0 (.at (.s 0) [0]) (.fl (.str s)) u1:=KK (us:=⟨[u1,u2],[],h⟩) R 0 rfl (by simp) (by simp) (by simp);have c2:RC h ω0 (.at (.s 1) [0]) (.fl (.str sep)) u2:=KK (us:=⟨[u1,u2],[],h⟩) R 1 rfl (by simp) (by simp) (by simp)
   have e1:u1= .str s:=by cases c1;rfl
   have e2:u2= .str sep:=by cases c2;rfl
   subst e1;subst e2;have hok:I8 (s,sep):=hok;have hQ:Q (.sl .own (E9 (BA (s,sep)))) H:=hQ;rw[VF] at hok;rw[Vx] at hQ;obtain⟨ω',R'⟩:=uR R (Lib.split s sep) (sD s sep);exact⟨s,sep,rfl,hok.1,hok.2,hK _ _ _ _ _ _ hQ R' (vS _)⟩
def Zv:List HT:=[.one .frz .str,.one .frz .str]
def Zt:QT:=.one (.one .own (.int .i64))
@[irreducible] def D3(x:List UInt8×List UInt8):Int:=(shut fun(x:List UInt8×List UInt8)=>Lib.indexByte x.1 (x.2.getD 0 0)).1 x
@[irreducible] def JW(x:List UInt8×List UInt8):Prop:=(shut fun(x:List UInt8×List UInt8)=>x.2.length=1).1 x
theorem U9 (x):D3 x=Lib.indexByte x.1 (x.2.getD 0 0):=by unfold D3;exact congrFun (shut _).2 x
theorem Va (x):JW x=(x.2.length=1):=by unfold JW;exact congrFun (shut _).2 x
def Zu:FE:=Ij Zv Zt JW D3
@[irreducible] def OJ:BI:=pL Zv Zt JW D3
theorem jK:Il OJ Zu:=by unfold OJ;exact P4 _ _ _ _
theorem jJ:Dd OK OJ:=by
 unfold OJ;rintro h ω0 ρ args us H Q K R hloc ⟨⟨(s:List UInt8),(sep:List UInt8)⟩,rfl,hok,hQ⟩ hK;have hlen:=R.lsl
 match us,hlen with
 | [u1,u2],_=>
   have c1:RC h ω0 (.at (.s 0) [0]) (.fl (.str s)) u1:=KK (us:=⟨[u1,u2],[],h⟩) R 0 rfl (by simp) (by simp) (by simp);have c2:RC h ω0 (.at (.s 1) [0]) (.fl (.str sep)) u2:=KK (us:=⟨[u1,u2],[],h⟩) R 1 rfl (by simp) (by simp) (by simp)
   have e1:u1= .str s:=by cases c1;rfl
   have e2:u2= .str sep:=by cases c2;rfl
   subst e1;subst e2;have hok:JW (s,sep):=hok;have hQ:Q (.fl (.int .i64 (D3 (s,sep)))) H:=hQ;rw[Va] at hok;rw[U9] at hQ;obtain⟨b,rfl⟩:=List.length_eq_one_iff.1 hok;exact⟨s,b,rfl,hK _ _ _ _ _ _ hQ (Xy R _ rfl) (Yl _)⟩
def aI:List HT:=[.one .frz (.int .i64)]
def aQ:QT:=.one (.one .own .str)
@[irreducible] def Nc(x:Int):List UInt8:=(shut fun(x:Int)=>Lib.itoa x).1 x
@[irreducible] def M7(x:Int):Prop:=(shut fun(x:Int)=>-9223372036854775808≤x∧x≤9223372036854775807).1 x
theorem VL (x):Nc x=(Lib.itoa x):=by unfold Nc;exact congrFun (shut _).2 x
theorem VG (x):M7 x=(-9223372036854775808≤x∧x≤9223372036854775807):=by unfold M7;exact congrFun (shut _).2 x
def aR:FE:=Ij aI aQ M7 Nc
@[irreducible] def Pg:BI:=pL aI aQ M7 Nc
theorem mz:Il Pg aR:=by unfold Pg;exact P4 _ _ _ _
theorem my:Dd Pk Pg:=by
 unfold Pg;rintro h ω0 ρ args us H Q K R hloc ⟨(x:Int),rfl,hok,hQ⟩ hK;have hlen:=R.lsl
 match us,hlen with
 | [u1],_=>
   have c1:RC h ω0 (.at (.s 0) [0]) (.fl (.int .i64 x)) u1:=KK (us:=⟨[u1],[],h⟩) R 0 rfl (by simp) (by simp) (by simp)
   have e1:u1= .int .i64 x:=by cases c1;rfl
   subst e1;have hok:M7 x:=hok;have hQ:Q (.fl (.str (Nc x))) H:=hQ;rw[VG] at hok;rw[VL] at hQ;exact⟨x,rfl,hok.1,hok.2,hK _ _ _ _ _ _ hQ (Xy R _ rfl) (Yl _)⟩
def aA:List HT:=[.one .frz .str]
def aY:QT:=.tup [.one .own (.int .i64),.one .own .ifc]
@[irreducible] def DP(x:List UInt8):Int×Bool:=(shut fun(x:List UInt8)=>((Lib.atoi x).getD 0,(Lib.atoi x).isSome)).1 x
@[irreducible] def M8(x:List UInt8):Prop:=(shut fun(x:List UInt8)=>x.length≤18).1 x
theorem ah (x):DP x=(((Lib.atoi x).getD 0,(Lib.atoi x).isSome)):=by unfold DP;exact congrFun (shut _).2 x
theorem Z8 (x):M8 x=(x.length≤18):=by unfold M8;exact congrFun (shut _).2 x
def aH:FE:=Ij aA aY M8 DP
@[irreducible] def Pm:BI:=pL aA aY M8 DP
theorem mr:Il Pm aH:=by unfold Pm;exact P4 _ _ _ _
theorem e9{x:V}(hx:x.flat=true):Shp1 (.fl x) x:=by
 cases x<;>first|trivial|(refine⟨fun us h=>?_,fun us h=>?_⟩<;>cases h)|cases hx
theorem cR{x:V}(hx:x.flat=true):x.cells=[x]:=by
 cases x<;>first|rfl|cases hx
theorem uw{h h0:Ac}{ω0 ω:Nat→W}{ρ:Nat→Nat}{args:List PV}{us:List V}{H:List (List PV)}(R:RS h0 ω0 ω ρ ⟨args,[],H⟩ ⟨us,[],h⟩ X0)(x y:V)(hx:x.flat=true)(hy:y.flat=true) :
 RS h0 ω0 ω ρ ⟨[],[],H⟩ ⟨[],[],h⟩ (X1 (.tup [.fl x,.fl y]) (.tup [x,y]))∧(PV.tup [.fl x,.fl y]).nob:=by
 have e:∀ p:List Nat,((PV.tup [.fl x,.fl y]).fcell p= .fl .undef)∨∃ z,z.flat=true∧(PV.tup [.fl x,.fl y]).fcell p= .fl z∧(V.tup [x,y]).fcell p=z:=by
  intro p
  match p with
  |[]=>exact .inl rfl
  |[_]=>exact .inl rfl
  |[0,0]=>exact .inr ⟨x,hx,rfl,by show get x.cells 0=x;rw[cR hx];rfl⟩
  |[1,0]=>exact .inr ⟨y,hy,rfl,by show get y.cells 0=y;rw[cR hy];rfl⟩
  |[0,c+1]=>exact .inl rfl
  |[1,c+1]=>exact .inl rfl
  |[i+2,0]=>exact .inl rfl
  |[i+2,c+1]=>exact .inl rfl
  |_::_::_::_=>exact .inl rfl
 refine⟨(R.forget).handx ⟨[x,y],rfl,rfl,fun i=>?_⟩ (fun p=>?_) (fun p i pb tp=>?_),fun p hb pb tp=>?_⟩
 · match i with
   |0=>exact e9 hx
   |1=>exact e9 hy
   |n+2=>trivial
 · rcases e p with e|⟨z,hz,e1,e2⟩
   · rw[e];exact .undef _ _
   · rw[e1,e2];exact .v _ _ hz
 · rcases e p with e|⟨z,hz,e1,e2⟩
   · rw[e];simp[PV.q]
   · rw[e1];simp[PV.q]
 · rcases e p with e|⟨z,hz,e1,e2⟩
   · rw[e];simp[PV.q]
   · rw[e1];simp[PV.q]
theorem mC:Dd Pc Pm:=by
 unfold Pm;rintro h ω0 ρ args us H Q K R hloc ⟨(x:List UInt8),rfl,hok,hQ⟩ hK;have hlen:=R.lsl
 match us,hlen with
 | [u1],_=>
   have c1:RC h ω0 (.at (.s 0) [0]) (.fl (.str x)) u1:=KK (us:=⟨[u1],[],h⟩) R 0 rfl (by simp) (by simp) (by simp)
   have e1:u1= .str x:=by cases c1;rfl
   subst e1;have hok:M8 x:=hok;have hQ:Q (.tup [.fl (.int .i64 (DP x).1),.fl (.ifc (DP x).2)]) H:=hQ;rw[Z8] at hok;rw[ah] at hQ;have r:=uw R (.int .i64 ((Lib.atoi x).getD 0)) (.ifc (Lib.atoi x).isSome) rfl rfl;exact⟨x,rfl,hok,hK _ _ _ _ _ _ hQ r.1 r.2⟩
end
section
set_option maxRecDepth 8000
def mb:DCode:=(.seq [0] (.region [oa 0 2 (.mv (.c (.str [])))]) (.seq [0] (.seq [8,0] (.region [om 0 3 0,oa 1 4 (.bin .lss (.t 3) (.c (.int .i64 1))),om 2 5 4,og 3 6 (.mv (.t 0)) 5 false,og 4 7 (.bin .gtr (.t 6) (.c (.int .i64 56))) 5 false,oa 5 8 (.pick (.t 5) (.c (.bool true)) (.t 7))]) (.cond (.t 8) (.seq [2] (.region [oa 0 2 (.mv (.c (.str [])))]) .ret) .skip)) (.seq [2] (.region [oc 0 9 Jd Lv Sc [(.c (.str [97,32,98,32,99,32,100,32,101,32,102,32,103,32,104,32,105,32,106,32,107,32,108,32,109,32,110,32,111,32,112,32,113,32,114,32,115,32,116,32,117,32,118,32,119,32,120,32,121,32,122,32,49,32,50,32,51,32,52,32,53,32,54,32,55,32,56,32,57,32,48,32,101,110,116,101,114,32,101,115,99,32,98,97,99,107,32,116,97,98,32,115,112,97,99,101,32,109,105,110,117,115,32,101,113,117,97,108,32,108,101,102,116,32,114,105,103,104,116,32,117,112,32,100,111,119,110,32,102,49,32,102,50,32,102,51,32,102,52,32,102,53,32,102,54,32,102,55,32,102,56,32,102,57])),(.c (.str [32]))],om 1 10 0,oa 2 11 (.bin .sub (.t 10) (.c (.int .i64 1))),oa 3 12 (.indexA 1 (.t 9) (.t 11)),ob 4 13 (.loadH none (.t 12)),om 5 2 13]) .ret)))
def EO:Fn:=⟨⟨1,14,0,true,[.tmp 2],mb⟩,[.one .frz (.int .i64)],.one (.one .own (.str))⟩
theorem RV:EO.A:=BS ⟨Vy,trivial⟩
def HU:Int→List UInt8:=EO.V
def Lo:Int→Prop:=EO.O
theorem R9:EO.B:=BV ⟨VB,trivial⟩ (by kernel_rfl) (fun x=>by kernel_rfl)
def kD:DCode:=(.seq [0] (.region [oa 0 2 (.mv (.c (.str [])))]) (.seq [0] (.seq [11,0] (.region [om 0 6 0,oa 1 7 (.bin .lss (.t 6) (.c (.int .i64 1))),om 2 8 7,og 3 9 (.mv (.t 0)) 8 false,og 4 10 (.bin .gtr (.t 9) (.c (.int .i64 15))) 8 false,oa 5 11 (.pick (.t 8) (.c (.bool true)) (.t 10))]) (.cond (.t 11) (.seq [2] (.region [oa 0 2 (.mv (.c (.str [])))]) .ret) .skip)) (.seq [3,0] (.region [oa 0 3 (.mv (.c (.str [])))]) (.seq [3] (.seq [14,13,12,3,0] (.region [⟨0,some 12,.a false (.litSlice 1 4 [(.str []),(.str []),(.str []),(.str [])] [(0,1,(.c (.str [67]))),(1,1,(.c (.str [83]))),(2,1,(.c (.str [65]))),(3,1,(.c (.str [71])))]) (some (.one (.str))),none,[]⟩,oa 1 13 (.len (.t 12)),oi 2 14 0]) (.block 0 (.loop [0,3,12,13,14] 1 (.seq [15,14,13,12,3,0] (.region [oa 0 15 (.bin .lss (.t 14) (.t 13))]) (.seq [14,13,12,3,0] (.cond (.t 15) .skip (.exit 0)) (.seq [14,13,12,3,0] (.block 1 (.seq [14,13,12,5,4,3,0] (.region [om 0 16 14,oa 1 17 (.indexA 1 (.t 12) (.t 14)),oa 2 18 (.loadH none (.t 17)),om 3 4 16,om 4 5 18]) (.seq [22,14,13,12,5,3,0] (.region [om 0 19 0,om 1 20 4,oF 2 21 Jl [(.t 19),(.t 20)],oa 3 22 (.bin .eql (.t 21) (.c (.int .i64 1)))]) (.cond (.t 22) (.region [om 0 23 3,om 1 24 5,oa 2 25 (.bin .add (.t 23) (.t 24)),om 3 3 25]) .skip)))) (.region [oa 0 26 (.bin .add (.t 14) (.c (.int .i64 1))),om 1 14 26]))))))) (.seq [2] (.region [om 0 27 3,om 1 2 27]) .ret)))))
def EK:Fn:=⟨⟨1,28,0,true,[.tmp 2],kD⟩,[.one .frz (.int .i64)],.one (.one .own (.str))⟩
theorem RM:EK.A:=BS ⟨o3,trivial⟩
def FM:Int→List UInt8:=EK.V
def J0:Int→Prop:=EK.O
theorem RL:EK.B:=BV ⟨pf,trivial⟩ (by kernel_rfl) (fun x=>by kernel_rfl)
def lX:DCode:=(.seq [1,0] (.region [oa 0 4 (.mv (.c (.str [])))]) (.seq [4] (.region [on 0 5 0,om 1 6 1,oc 2 7 Pb Ph aD [(.t 5),(.t 6)],om 3 4 7]) .ret))
def G8:Fn:=⟨⟨2,8,0,true,[.tmp 4],lX⟩,[.one .frz (.sl (.one (.str))),.one .frz (.str)],.one (.one .own (.str))⟩
theorem Z4:G8.A:=BS ⟨mG,trivial⟩
def Lt:List (List UInt8)×List UInt8→List UInt8:=G8.V
def MY:List (List UInt8)×List UInt8→Prop:=G8.O
theorem Z3:G8.B:=BV ⟨mJ,trivial⟩ (by kernel_rfl) (fun x=>by kernel_rfl)
end
section
set_option maxRecDepth 100000
def OV(x:List UInt8×Int)(x0:((List (List UInt8))×(Int×Int))):Bool:=(iLe x0.2.2 (lLen x.1))
def RD(x:List UInt8×Int)(x0:((List (List UInt8))×(Int×Int))):((List (List UInt8))×(Int×Int)):=((bSel (bOr (iEq x0.2.2 (lLen x.1)) (iEq (sGet x.1 x0.2.2) x.2)) (lApp x0.1 [(lSub x.1 (iNat x0.2.1) (iNat x0.2.2))]) x0.1),(bSel (bOr (iEq x0.2.2 (lLen x.1)) (iEq (sGet x.1 x0.2.2) x.2)) (iAdd .i64 x0.2.2 1) x0.2.1),(iAdd .i64 x0.2.2 1))
def Vn(x:List UInt8×Int)(x0:((List (List UInt8))×(Int×Int))):Prop:=(((iLe x0.2.2 (lLen x.1))=true→((((iEq x0.2.2 (lLen x.1))=true→True)∧((iEq x0.2.2 (lLen x.1))=false→(((0:Int)≤x0.2.2)∧(x0.2.2<(((List.length x.1):Int))))))∧(((bOr (iEq x0.2.2 (lLen x.1)) (iEq (sGet x.1 x0.2.2) x.2))=true→(((((0:Int)≤x0.2.1)∧((0:Int)≤x0.2.2))∧(((iNat x0.2.1)≤(iNat x0.2.2))∧((iNat x0.2.2)≤(List.length x.1))))∧(AE (((List.length x0.1)+(List.length [(lSub x.1 (iNat x0.2.1) (iNat x0.2.2))]))*1))))∧((bOr (iEq x0.2.2 (lLen x.1)) (iEq (sGet x.1 x0.2.2) x.2))=false→True))))∧((iLe x0.2.2 (lLen x.1))=false→True))
@[irreducible] def An(x:List UInt8×Int):List (List UInt8):=(Am (OV x) (RD x) ([],0,0)).1
@[irreducible] def Lk(x:List UInt8×Int):Prop:=(LoopOk (OV x) (RD x) (Vn x) ([],0,0))
@[irreducible] def Pe(x:Unit):List (List UInt8):=(An ([(97:UInt8),32,98,32,99,32,100,32,101,32,102,32,103,32,104,32,105,32,106,32,107,32,108,32,109,32,110,32,111,32,112,32,113,32,114,32,115,32,116,32,117,32,118,32,119,32,120,32,121,32,122,32,49,32,50,32,51,32,52,32,53,32,54,32,55,32,56,32,57,32,48,32,101,110,116,101,114,32,101,115,99,32,98,97,99,107,32,116,97,98,32,115,112,97,99,101,32,109,105,110,117,115,32,101,113,117,97,108,32,108,101,102,116,32,114,105,103,104,116,32,117,112,32,100,111,119,110,32,102,49,32,102,50,32,102,51,32,102,52,32,102,53,32,102,54,32,102,55,32,102,56,32,102,57],32))
@[irreducible] def VI(x:Unit):Prop:=(Lk ([(97:UInt8),32,98,32,99,32,100,32,101,32,102,32,103,32,104,32,105,32,106,32,107,32,108,32,109,32,110,32,111,32,112,32,113,32,114,32,115,32,116,32,117,32,118,32,119,32,120,32,121,32,122,32,49,32,50,32,51,32,52,32,53,32,54,32,55,32,56,32,57,32,48,32,101,110,116,101,114,32,101,115,99,32,98,97,99,107,32,116,97,98,32,115,112,97,99,101,32,109,105,110,117,115,32,101,113,117,97,108,32,108,101,102,116,32,114,105,103,104,116,32,117,112,32,100,111,119,110,32,102,49,32,102,50,32,102,51,32,102,52,32,102,53,32,102,54,32,102,55,32,102,56,32,102,57],32))
@[irreducible] def BC(x:Int):List UInt8:=(bSel (bNot (Bt (x,1,56))) [] (lGet (Pe PUnit.unit) (iNat (iSub .i64 x 1)) []))
@[irreducible] def Lr(x:Int):Prop:=((D9 (x,1,56))∧(((bNot (Bt (x,1,56)))=true→True)∧((bNot (Bt (x,1,56)))=false→((VI PUnit.unit)∧((((0:Int)≤(iSub .i64 x 1))∧((iSub .i64 x 1)<(((List.length (Pe PUnit.unit)):Int))))∧((iNat (iSub .i64 x 1))<(List.length (Pe PUnit.unit))))))))
def Le(x:Int)(x0:((List UInt8)×Int)):Bool:=(bAnd (iLt x0.2 4) (Bt (x,1,15)))
def OR(x:Int)(x0:((List UInt8)×Int)):((List UInt8)×Int):=((bSel (iEq (iAnd .i64 (iShr .i64 x x0.2) 1) 1) (sAdd x0.1 (lSub [(67:UInt8),83,65,71] (iNat x0.2) (iNat (iAdd .i64 x0.2 1)))) x0.1),(iAdd .i64 x0.2 1))
def ML(x:Int)(x0:((List UInt8)×Int)):Prop:=((((iLt x0.2 4)=true→(D9 (x,1,15)))∧((iLt x0.2 4)=false→True))∧(((bAnd (iLt x0.2 4) (Bt (x,1,15)))=true→(((0:Int)≤x0.2)∧(((iEq (iAnd .i64 (iShr .i64 x x0.2) 1) 1)=true→(((((0:Int)≤x0.2)∧((0:Int)≤(iAdd .i64 x0.2 1)))∧(((iNat x0.2)≤(iNat (iAdd .i64 x0.2 1)))∧((iNat (iAdd .i64 x0.2 1))≤(List.length [(67:UInt8),83,65,71]))))∧(((List.length x0.1)+(List.length (lSub [(67:UInt8),83,65,71] (iNat x0.2) (iNat (iAdd .i64 x0.2 1)))))≤9223372036854775807)))∧((iEq (iAnd .i64 (iShr .i64 x x0.2) 1) 1)=false→True))))∧((bAnd (iLt x0.2 4) (Bt (x,1,15)))=false→True)))
@[irreducible] def B7(x:Int):List UInt8:=(Am (Le x) (OR x) ([],0)).1
@[irreducible] def Li(x:Int):Prop:=(LoopOk (Le x) (OR x) (ML x) ([],0))
def OY(x:List (List UInt8)×List UInt8)(x0:((List Int)×Int)):Bool:=(iLt x0.2 (lLen x.1))
def RP(x:List (List UInt8)×List UInt8)(x0:((List Int)×Int)):((List Int)×Int):=((lApp (bSel (iGt x0.2 0) (lApp x0.1 (sRow x.2)) x0.1) (sRow (lGet x.1 (iNat x0.2) []))),(iAdd .i64 x0.2 1))
def RH(x:List (List UInt8)×List UInt8)(x0:((List Int)×Int)):Prop:=(((iLt x0.2 (lLen x.1))=true→((((iGt x0.2 0)=true→(AE (((List.length x0.1)+(List.length (sRow x.2)))*1)))∧((iGt x0.2 0)=false→True))∧((((0:Int)≤x0.2)∧(x0.2<(((List.length x.1):Int))))∧(((iNat x0.2)<(List.length x.1))∧(AE (((List.length (bSel (iGt x0.2 0) (lApp x0.1 (sRow x.2)) x0.1))+(List.length (sRow (lGet x.1 (iNat x0.2) []))))*1))))))∧((iLt x0.2 (lLen x.1))=false→True))
@[irreducible] def Lu(x:List (List UInt8)×List UInt8):List UInt8:=(rowS (Am (OY x) (RP x) ([],0)).1)
@[irreducible] def M3(x:List (List UInt8)×List UInt8):Prop:=(LoopOk (OY x) (RP x) (RH x) ([],0))
theorem mj (x):HU x=(bSel (bOr (iLt x 1) (iGt x 56)) [] (lGet (BA ([(97:UInt8),32,98,32,99,32,100,32,101,32,102,32,103,32,104,32,105,32,106,32,107,32,108,32,109,32,110,32,111,32,112,32,113,32,114,32,115,32,116,32,117,32,118,32,119,32,120,32,121,32,122,32,49,32,50,32,51,32,52,32,53,32,54,32,55,32,56,32,57,32,48,32,101,110,116,101,114,32,101,115,99,32,98,97,99,107,32,116,97,98,32,115,112,97,99,101,32,109,105,110,117,115,32,101,113,117,97,108,32,108,101,102,116,32,114,105,103,104,116,32,117,112,32,100,111,119,110,32,102,49,32,102,50,32,102,51,32,102,52,32,102,53,32,102,54,32,102,55,32,102,56,32,102,57],[(32:UInt8)])) (iNat (iSub .i64 x 1)) [])):=(EO.v x).trans (by kernel_rfl)
theorem mf (x):Lo x=(((bOr (iLt x 1) (iGt x 56))=true→True)∧((bOr (iLt x 1) (iGt x 56))=false→((I8 ([(97:UInt8),32,98,32,99,32,100,32,101,32,102,32,103,32,104,32,105,32,106,32,107,32,108,32,109,32,110,32,111,32,112,32,113,32,114,32,115,32,116,32,117,32,118,32,119,32,120,32,121,32,122,32,49,32,50,32,51,32,52,32,53,32,54,32,55,32,56,32,57,32,48,32,101,110,116,101,114,32,101,115,99,32,98,97,99,107,32,116,97,98,32,115,112,97,99,101,32,109,105,110,117,115,32,101,113,117,97,108,32,108,101,102,116,32,114,105,103,104,116,32,117,112,32,100,111,119,110,32,102,49,32,102,50,32,102,51,32,102,52,32,102,53,32,102,54,32,102,55,32,102,56,32,102,57],[(32:UInt8)]))∧((((0:Int)≤(iSub .i64 x 1))∧((iSub .i64 x 1)<(((List.length (BA ([(97:UInt8),32,98,32,99,32,100,32,101,32,102,32,103,32,104,32,105,32,106,32,107,32,108,32,109,32,110,32,111,32,112,32,113,32,114,32,115,32,116,32,117,32,118,32,119,32,120,32,121,32,122,32,49,32,50,32,51,32,52,32,53,32,54,32,55,32,56,32,57,32,48,32,101,110,116,101,114,32,101,115,99,32,98,97,99,107,32,116,97,98,32,115,112,97,99,101,32,109,105,110,117,115,32,101,113,117,97,108,32,108,101,102,116,32,114,105,103,104,116,32,117,112,32,100,111,119,110,32,102,49,32,102,50,32,102,51,32,102,52,32,102,53,32,102,54,32,102,55,32,102,56,32,102,57],[(32:UInt8)]))):Int))))∧((iNat (iSub .i64 x 1))<(List.length (BA ([(97:UInt8),32,98,32,99,32,100,32,101,32,102,32,103,32,104,32,105,32,106,32,107,32,108,32,109,32,110,32,111,32,112,32,113,32,114,32,115,32,116,32,117,32,118,32,119,32,120,32,121,32,122,32,49,32,50,32,51,32,52,32,53,32,54,32,55,32,56,32,57,32,48,32,101,110,116,101,114,32,101,115,99,32,98,97,99,107,32,116,97,98,32,115,112,97,99,101,32,109,105,110,117,115,32,101,113,117,97,108,32,108,101,102,116,32,114,105,103,104,116,32,117,112,32,100,111,119,110,32,102,49,32,102,50,32,102,51,32,102,52,32,102,53,32,102,54,32,102,55,32,102,56,32,102,57],[(32:UInt8)])))))))):=(EO.o x).trans (by kernel_rfl)
def OU(x0:((List UInt8)×Int)):Bool:=(iLt x0.2 (lLen [[(67:UInt8)],[(83:UInt8)],[(65:UInt8)],[(71:UInt8)]]))
def Ry(x:Int)(x0:((List UInt8)×Int)):((List UInt8)×Int):=((bSel (iEq (PB (x,x0.2)) 1) (sAdd x0.1 (lGet [[(67:UInt8)],[(83:UInt8)],[(65:UInt8)],[(71:UInt8)]] (iNat x0.2) [])) x0.1),(iAdd .i64 x0.2 1))
def Rz(x:Int)(x0:((List UInt8)×Int)):Prop:=(((iLt x0.2 (lLen [[(67:UInt8)],[(83:UInt8)],[(65:UInt8)],[(71:UInt8)]]))=true→((((0:Int)≤x0.2)∧(x0.2<(((List.length [[(67:UInt8)],[(83:UInt8)],[(65:UInt8)],[(71:UInt8)]]):Int))))∧(((iNat x0.2)<(List.length [[(67:UInt8)],[(83:UInt8)],[(65:UInt8)],[(71:UInt8)]]))∧((Wf (x,x0.2))∧(((iEq (PB (x,x0.2)) 1)=true→(((List.length x0.1)+(List.length (lGet [[(67:UInt8)],[(83:UInt8)],[(65:UInt8)],[(71:UInt8)]] (iNat x0.2) [])))≤9223372036854775807))∧((iEq (PB (x,x0.2)) 1)=false→True))))))∧((iLt x0.2 (lLen [[(67:UInt8)],[(83:UInt8)],[(65:UInt8)],[(71:UInt8)]]))=false→True))
theorem kC (x):FM x=(bSel (bOr (iLt x 1) (iGt x 15)) [] (Am OU (Ry x) ([],0)).1):=(EK.v x).trans (by kernel_rfl)
theorem k8 (x):J0 x=(((bOr (iLt x 1) (iGt x 15))=true→True)∧((bOr (iLt x 1) (iGt x 15))=false→(LoopOk OU (Ry x) (Rz x) ([],0)))):=(EK.o x).trans (by kernel_rfl)
theorem Z5 (x):Lt x=(Nd x):=(G8.v x).trans (by kernel_rfl)
theorem ZZ (x):MY x=(M9 x):=(G8.o x).trans (by kernel_rfl)
attribute [irreducible] HU Lo FM J0 Lt MY
end
end
end Go.Ag
