/- Part 5 of what FnExactParseMacro needs. No conditions. -/
import Derived.WalkKit
import Derived.ProofKit
import Derived.OpenShut
import Derived.Carry
import Derived.ChangeSame
import Derived.Attr
import Derived.KernelRfl
import Derived.Below
import Derived.Lib.Join
import Derived.Lib.Split
import Derived.Lib.Bytealg
import Derived.Lib.ItoaNum
import Derived.Lib.Atoi
import Derived.Sort.Grow
import Derived.Test.YtijikmakanpmlaaGreatDoorLibD
namespace Go.Ag
set_option linter.unusedSimpArgs false
set_option linter.unusedVariables false
noncomputable section
theorem aP(d:DS)(c:Opnd)(t:Bool):ChgS d (setc d c t):=by
 cases c with
 |t g=>exact UI d g t
 |c v=>exact ChgS.refl d
theorem cW{d:DS}{s:PS}{c:Opnd}{b:Bool}(hs:ES d s)(h:c.pev s.sl= .fl (.bool b)):ES (setc d c b) s:=by
 cases c with
 |t g=>exact cu hs h
 |c v=>exact hs
theorem Hv:∀ (c:DCode) (d:DS),(dev c d).All (ChgS d)
 |.skip,d=>ChgS.refl d
 |.region ops,d=>U9 ops d (ChgS.refl d)
 | .regionU ops,d=>by
   simp only[dev]
   split
   · exact U9 ops d (ChgS.refl d)
   · trivial
 | .seq l a b,d=>by
   refine DT.then_all (Hv a d.clean) (fun st h=>?_) (fun st h=>h.rem)
   have h1:ChgS d (JY d (SD l st)):=(h.trans (o5 l st)).rem
   exact DT.All.imp (fun _ h2=>h1.trans h2) (Hv b _)
 | .cond c a b,d=>by
   simp only[dev]
   cases hc:c.dev d.sl with
   | bool t=>
     cases t with
     |lit t=>cases t<;>first|exact Hv a d|exact Hv b d
     |dyn t=>exact⟨DT.All.imp (fun _ h=>(aP d c true).trans h) (Hv a _),DT.All.imp (fun _ h=>(aP d c false).trans h) (Hv b _)⟩
   |_=>trivial
 |.block i a,d=>DT.unexit_all i (Hv a d)
 |.loop live n a,d=>oO (fun d=>Hv a d.clean) d
 |.exit i,d=>ChgS.refl d
 |.ret,d=>ChgS.refl d
theorem G4:∀ (c:DCode),AllD c.obs→∀ {d d':DS} {s:PS} {e:AExit} {k:Fe},ES d s→(dev c d).ok.den→(dev c d).lf=some (e,d')→(∀ s',ES d' s'→k e s')→FZ c.er k s
 | .skip,_,d,d',s,e,k,hs,hok,hl,hk=>by
   simp only[dev,DT.lf,Ai,Ak] at hl
   obtain⟨rfl,rfl⟩:=hl
   exact hk s hs
 | .region ops,ho,d,d',s,e,k,hs,hok,hl,hk=>by
   have he:=dA ops hl
   subst he
   exact Ws ops ho rfl hk d s hs hok hl
 | .regionU ops,ho,d,d',s,e,k,hs,hok,hl,hk=>by
   simp only[dev] at hok hl
   split at hok
   · rename_i hp
     rw[Ab hp] at hl
     have he:=dA ops hl
     subst he
     exact⟨hp,Ws ops ho rfl hk d s hs hok hl⟩
   · exact hok.elim
 | .seq l a b,ho,d,d',s,e,k,hs,hok,hl,hk=>by
   obtain⟨h1,h2⟩:=ho.app
   obtain⟨hoa,hc⟩:=DT.then_s (Hv a d.clean) hok hl
   simp only[DCode.er,FZ]
   rcases hc with⟨st0,m,hla,hm,hch,hob,hlb⟩|⟨he,st0,hla,rfl⟩
   · refine G4 a h1 hs.clean hoa hla fun s' hs'=>?_
     exact G4 b h2 (((hm s' hs').trim l).rem) hob hlb hk
   · refine G4 a h1 hs.clean hoa hla fun s' hs'=>?_
     cases e<;>first|(cases he;done)|exact hk s' hs'.rem
 | .cond c a b,ho,d,d',s,e,k,hs,hok,hl,hk=>by
   obtain⟨h1,h2⟩:=ho.app
   have hv:=c.dev_ev hs
   simp only[dev] at hok hl
   simp only[DCode.er,FZ]
   cases hc:c.dev d.sl with
   | bool t=>
     rw[hc] at hok hl hv
     have hp:=hv.of (by simp)
     simp only[DV.enc] at hp
     rw[hp]
     simp only
     cases t with
     | lit t=>
       cases t with
       |true=>exact G4 a h1 hs hok hl hk
       |false=>exact G4 b h2 hs hok hl hk
     | dyn t=>
       have hok:=(PX.if_den _ _ _).mp hok
       cases t with
       |true=>exact G4 a h1 (cW hs hp) (hok.1 rfl) hl hk
       |false=>exact G4 b h2 (cW hs hp) (hok.2 rfl) hl hk
   |_=>rw[hc] at hok;exact hok.elim
 | .block i a,ho,d,d',s,e,k,hs,hok,hl,hk=>by
   simp only[dev,DT.unexit_ok,DT.unexit_lf] at hok hl
   obtain⟨e0,d0,h0⟩:=DT.ok_lf hok
   rw[h0] at hl
   simp only[BV,Ai,Ak] at hl
   obtain⟨rfl,rfl⟩:=hl
   refine G4 a ho hs hok h0 fun s' hs'=>?_
   have:=hk s' hs'
   cases e0 with
   |normal=>exact this
   |ret=>exact this
   | exit j=>
     simp only[VF]
     simp only[AExit.un] at this
     split
     · rename_i hj;rw[Ab hj] at this;exact this
     · rename_i hj;rw[Ad hj] at this;exact this
 | .loop live n a,ho,d,d',s,e,k,hs,hok,hl,hk=>by
   simp only[dev] at hok hl
   exact ue (fun d=>Hv a d.clean) (fun d s e d' k hs hok hl hk=>G4 a ho hs.clean hok hl hk) hs hok hl hk
 | .exit i,_,d,d',s,e,k,hs,hok,hl,hk=>by
   simp only[dev,DT.lf,Ai,Ak] at hl
   obtain⟨rfl,rfl⟩:=hl
   exact hk s hs
 | .ret,_,d,d',s,e,k,hs,hok,hl,hk=>by
   simp only[dev,DT.lf,Ai,Ak] at hl
   obtain⟨rfl,rfl⟩:=hl
   exact hk s hs
mutual
def DV.flt:DV→Bool
 |.bool _|.int _ _|.str _|.ifc _=>true
 |.agg cs=>DV.fltL cs
 |.tup vs=>DV.fltL vs
 |_=>false
def DV.fltL:List DV→Bool
 |[]=>true
 |v::r=>v.flt&&DV.fltL r
end
mutual
theorem Vt:∀ (v:DV),v.flt=true→v.enc.flt=true
 |.bool _,_|.int _ _,_|.str _,_|.ifc _,_=>rfl
 |.agg cs,h=>UQ cs h
 |.tup cs,h=>UQ cs h
theorem UQ:∀ (l:List DV),DV.fltL l=true→PV.fltL (DV.encL l)=true
 |[],_=>rfl
 | v::r,h=>by
   simp only[DV.fltL,Ah] at h
   simp only[DV.encL,PV.fltL,Vt v h.1,UQ r h.2,Cw]
end
theorem UT:∀ (l:List DV),HG l=true→DV.okL l=true
 |[],_=>rfl
 | v::r,h=>by
   simp only[HG,Ah] at h
   have:v.ok=true:=by cases v<;>first|rfl|(have:=h.1;cases this)
   simp only[DV.okL,this,UT r h.2,Cw]
theorem EBx.segm2{a:List DC}{b:List PV}{o n:Nat}(h:EBx a b)(hl:o+n≤a.length)(hk:DV.okL (BA (BB a) o n)=true):Go.Ag.segm b o n=DV.encL (BA (BB a) o n)∧o+n≤b.length:=by
 rcases h with rfl|h
 · simp only[AO,Nat.le_zero_eq,Nat.add_eq_zero_iff] at hl;obtain⟨rfl,rfl⟩:=hl;refine⟨?_,FI _⟩;cases b<;>rfl
 · exact⟨h.segm o n hk,by rw[← h.len];exact hl⟩
theorem bU{st st':DS}{s:PS}{r:ARes}{v:DV}(hs:ES st s)(h:OS st r=some (v,st'))(hv:v.ok=true):∃ s',HE s r=some (v.enc,s')∧ES st' s':=by
 cases r with
 | tmp t=>
   simp only[OS] at h;split at h
   · rename_i hc;simp only[Ah] at hc;simp only[Ai] at h
     have hk:(A0 (.t t) st).1.ok=true:=by
      have:(A0 (.t t) st).1=v:=by simp only[A0,h]
      rw[this];exact hv
     obtain⟨m1,m2⟩:=Ec (.t t) hs hk
     have hne:Bc st.sl t≠.any:=by intro e;rw[e] at hc;cases hc.2
     have hp:=(hs.sl.get t).of hne;simp only[A0,h,mvOut] at m1 m2;refine⟨(Eo (Aa s.sl t) t s).2,?_,m2⟩;simp only[HE];rw[Ab (by rw[hp];exact qg _ hc.1),← m1]
   · cases h
 | cell t n=>
   simp only[OS] at h;have hp:=hs.sl.get t
   cases hv:Bc st.sl t with
   | box i o=>
     rw[hv] at h hp;have hp:=hp.of (by simp);simp only at h;split at h
     · rename_i hc;simp only[Ah] at hc;simp only[Bw] at h;obtain⟨⟨g,r⟩,h1,h2⟩:=h;simp only at h2;subst h2;obtain⟨e1,e2⟩:=(hs.bx.get i).segm2 (CF hc.1) (UT _ hc.2)
       have hg:g= .tt:=by
        unfold KN at h1;simp only[AA] at h1;split at h1
        · simp only[Bw,Ak] at h1;obtain⟨_,_,rfl,_⟩:=h1;rfl
        · cases h1
       subst hg;obtain⟨s',e3,e4⟩:=YT (p:=.box i o) hs (.inr rfl) h1;refine⟨s',?_,e4⟩;simp only[HE,hp,DV.enc];rw[Ab ⟨e2,by rw[e1];exact Rh _ hc.2⟩];exact e3
     · cases h
   | ptr i o=>
     rw[hv] at h hp;have hp:=hp.of (by simp);simp only at h;split at h
     · rename_i hc;simp only[Ah] at hc;simp only[Bw] at h;obtain⟨⟨g,r⟩,h1,h2⟩:=h;simp only at h2;subst h2;obtain⟨e1,e2⟩:=(hs.hp.get i).segm2 (CF hc.1) (UT _ hc.2)
       have hg:g= .tt∧i<st.hp.length:=by
        unfold JB at h1;simp only[AA] at h1;split at h1
        · rename_i hb;simp only[Ah] at hb;simp only[Bw,Ak] at h1;obtain⟨_,_,rfl,_⟩:=h1;exact⟨rfl,CF hb.1.1⟩
        · cases h1
       obtain⟨rfl,hi⟩:=hg;obtain⟨s',e3,e4⟩:=YZ (p:=.ptr i o) hs (.inr rfl) h1 trivial;refine⟨s',?_,e4⟩;simp only[HE,hp,DV.enc];rw[Ab ⟨by rw[← hs.hp.len];exact hi,e2,by rw[e1];exact Rh _ hc.2⟩];exact e3
     · cases h
   |_=>rw[hv] at h;cases h
theorem aC:∀ {res:List ARes} {st st':DS} {s:PS} {vs:List DV},ES st s→Mg st res=some (vs,st')→DV.okL vs=true→∃ s',Hs s res=some (DV.encL vs,s')∧ES st' s'
 | [],st,st',s,vs,hs,h,_=>by
   simp only[Mg,Ai,Ak] at h
   obtain⟨rfl,rfl⟩:=h
   exact⟨s,rfl,hs⟩
 | r :: rs,st,st',s,vs,hs,h,hk=>by
   simp only[Mg] at h
   split at h
   · rename_i v st1 h1
     split at h
     · rename_i vs1 st2 h2
       simp only[Ai,Ak] at h
       obtain⟨rfl,rfl⟩:=h
       simp only[DV.okL,Ah] at hk
       obtain⟨s1,e1,e2⟩:=bU hs h1 hk.1
       obtain⟨s2,e3,e4⟩:=aC e2 h2 hk.2
       exact⟨s2,by simp only[Hs,e1,e3,DV.encL],e4⟩
     · cases h
   · cases h
theorem cg:∀ {res:List ARes} {st:DS} {s:PS} {v:DV},ES st s→FN st res=some v→v.ok=true→∃ s',Lb s res=some (v.enc,s'):=by
 have gen:∀ {res:List ARes} {st:DS} {s:PS} {v:DV},ES st s→v.ok=true→(Mg st res).map (fun x=>DV.tup x.1)=some v→∃ s',(Hs s res).map (fun(vs,st)=>(PV.tup vs,st))=some (v.enc,s'):=fun hs hv h=>by
  simp only[Bw] at h;obtain⟨⟨vs,st'⟩,h1,rfl⟩:=h;obtain⟨s',e1,_⟩:=aC hs h1 hv;exact⟨s',by rw[e1];rfl⟩
 intro res st s v hs h hv
 cases res with
 |nil=>exact gen (res:=[]) hs hv h
 | cons r rs=>
   cases rs with
   | nil=>
     simp only[FN,Bw] at h;obtain⟨⟨v',st'⟩,h1,rfl⟩:=h;obtain⟨s',e1,_⟩:=bU hs h1 hv;exact⟨s',e1⟩
   |cons r2 rs=>exact gen (res:=r::r2::rs) hs hv h
theorem MO {res:List ARes}:∀ {t:DT} {g:PX} {v:DV},t.val res=(g,some v)→v≠.any→g.den →
 t.ok.den∧∃ e st v0,t.lf=some (e,st)∧(∀ i,e≠.exit i)∧FN st res=some v0∧v0.ok=true∧v.enc=v0.enc
 | .leaf e st,g,v,h,hv,hg=>by
   have gen:(match FN st res with|some v=>if (v.ok&&!v.hasPtr)=true then (PX.tt,some v) else (PX.ff,none)|none=>(PX.ff,none))=(g,some v)→FN st res=some v∧v.ok=true:=fun h=>by
    split at h
    · split at h
      · rename_i h1 h2;simp only[Ak,Ai] at h;obtain⟨_,rfl⟩:=h;simp only[Ah] at h2;exact⟨h1,h2.1⟩
      · simp at h
    · simp at h
   cases e with
   |exit i=>simp[DT.val] at h
   |normal=>obtain⟨h1,h2⟩:=gen h;exact⟨trivial,.normal,st,v,rfl,by simp,h1,h2,rfl⟩
   |ret=>obtain⟨h1,h2⟩:=gen h;exact⟨trivial,.ret,st,v,rfl,by simp,h1,h2,rfl⟩
 | .node c a b,g,v,h,hv,hg=>by
   simp only[DT.val] at h
   have hno:∀ {t:DT} {g:PX},t.val res=(g,none)→¬ g.den:=by
    intro t
    induction t with
    | leaf e st=>
      intro g h;cases e<;>simp only[DT.val] at h<;>(repeat' split at h)<;>simp only[Ak,reduceCtorEq,and_false,and_true] at h<;>subst h<;>exact id
    | node c x y ih1 ih2=>
      intro g h hg;simp only[DT.val] at h
      cases h1:x.val res with
      | mk g1 v1=>
        cases h2:y.val res with
        | mk g2 v2=>
          rw[h1,h2] at h
          cases v1 with
          | none=>
            simp only[Ak] at h;obtain⟨rfl,rfl⟩:=h;have:=(PX.if_den _ _ _).mp hg
            cases c with
            |true=>exact ih1 h1 (this.1 rfl)
            |false=>exact ih2 h2 (this.2 rfl)
          |some v1=>cases v2<;>simp at h
    | chk g0 t ih=>
      intro g h hg;simp only[DT.val] at h
      cases h1:t.val res with
      | mk g1 v1=>
        rw[h1] at h;simp only[Ak] at h;obtain⟨rfl,rfl⟩:=h;exact ih h1 ((PX.land_den _ _).mp hg).2
    | bad=>
      intro g h;simp only[DT.val,Ak,and_true] at h;subst h;exact id
   cases h1:a.val res with
   | mk g1 v1=>
     cases h2:b.val res with
     | mk g2 v2=>
       rw[h1,h2] at h
       have fin:∀ (v1 v2:DV),g=PX.if' c g1 g2→a.val res=(g1,some v1)→b.val res=(g2,some v2)→v=CM c v1 v2→(DT.node c a b).ok.den∧∃ e st v0,(DT.node c a b).lf=some (e,st)∧(∀ i,e≠.exit i)∧FN st res=some v0∧v0.ok=true∧v.enc=v0.enc:=by
        intro v1 v2 hgg h1 h2 hvv;subst hgg;have hg:=(PX.if_den _ _ _).mp hg;have he:=(Si c v1 v2).resolve_left (by rw[← hvv];exact hv);rw[← hvv] at he
        have n1:v1≠.any:=by rintro rfl;apply hv;rw[hvv];cases v2<;>rfl
        have n2:v2≠.any:=by rintro rfl;apply hv;rw[hvv];cases v1<;>rfl
        show (PX.if' c a.ok b.ok).den∧∃ e st v0,(DT.node c a b).lf=some (e,st)∧(∀ i,e≠.exit i)∧FN st res=some v0∧v0.ok=true∧v.enc=v0.enc;rw[PX.if_den]
        cases c with
        | true=>
          obtain⟨k1,e,st,v0,k2,k3,k4,k5,k6⟩:=MO h1 n1 (hg.1 rfl);exact⟨⟨fun _=>k1,fun h=>by cases h⟩,e,st,v0,k2,k3,k4,k5,by rw[he];exact k6⟩
        | false=>
          obtain⟨k1,e,st,v0,k2,k3,k4,k5,k6⟩:=MO h2 n2 (hg.2 rfl);exact⟨⟨fun h=>(by cases h),fun _=>k1⟩,e,st,v0,k2,k3,k4,k5,by rw[he];exact k6⟩
       cases v1 with
       | none=>
         simp only[Ak] at h;obtain⟨rfl,rfl⟩:=h;have hg:=(PX.if_den _ _ _).mp hg;show (PX.if' c a.ok b.ok).den∧_;rw[PX.if_den]
         cases c with
         |true=>exact absurd (hg.1 rfl) (hno h1)
         | false=>
           obtain⟨k1,e,st,v0,k2,k3,k4,k5,k6⟩:=MO h2 hv (hg.2 rfl);exact⟨⟨fun h=>(by cases h),fun _=>k1⟩,e,st,v0,k2,k3,k4,k5,k6⟩
       | some v1=>
         cases v2 with
         | none=>
           simp only[Ak,Ai] at h;obtain⟨rfl,rfl⟩:=h;have hg:=(PX.if_den _ _ _).mp hg;show (PX.if' c a.ok b.ok).den∧_;rw[PX.if_den]
           cases c with
           |false=>exact absurd (hg.2 rfl) (hno h2)
           | true=>
             obtain⟨k1,e,st,v0,k2,k3,k4,k5,k6⟩:=MO h1 hv (hg.1 rfl);exact⟨⟨fun _=>k1,fun h=>by cases h⟩,e,st,v0,k2,k3,k4,k5,k6⟩
         | some v2=>
           simp only[Ak,Ai] at h;exact fin v1 v2 h.1.symm h1 h2 h.2.symm
 | .chk g0 t,g,v,h,hv,hg=>by
   simp only[DT.val] at h
   cases h1:t.val res with
   | mk g1 v1=>
     rw[h1] at h;simp only[Ak] at h;obtain⟨rfl,rfl⟩:=h;have hg:=(PX.land_den _ _).mp hg;obtain⟨k1,k2⟩:=MO h1 hv hg.2;exact⟨(PX.land_den _ _).mpr ⟨hg.1,k1⟩,k2⟩
 |.bad,g,v,h,hv,hg=>by simp[DT.val] at h
theorem EL.append:∀ {a:List DC} {b:List PV} {c:List DC} {d:List PV},EL a b→EL c d→EL (a++c) (b++d)
 |[],[],_,_,_,h=>h
 |_::_,_::_,_,_,h,h'=>⟨h.1,EL.append h.2 h'⟩
theorem U3:∀ (n:Nat),EL (KX n) (HJ n)
 |0=>trivial
 |n+1=>⟨.inl rfl,U3 n⟩
theorem Vc:∀ (n:Nat),EB (KR n) (JL n)
 |0=>trivial
 |n+1=>⟨.inl rfl,Vc n⟩
theorem mV {f:DFun} (ho:AllD f.body.obs) {args:List DV} {g:PX} {v:DV} (h:Pz f args=(g,some v)) (hg:g.den) (hv:v≠.any) (hl:args.length=f.nparams) (hp:f.pure=true→v.flt=true)
 {Q:PV→List (List PV)→Prop} (hQ:∀ H,Q v.enc H):Mk f.er (DV.encL args) [] Q:=by
 unfold Pz at h
 obtain⟨hok,e,st,v0,h1,h2,h3,h4,h5⟩:=MO h hv hg
 refine⟨by rw[E7];exact hl,fun _=>rfl,?_⟩
 refine G4 f.body ho (d:=⟨news args++KX (f.nslots-f.nparams),KR f.nbox,[]⟩) ⟨(EL.news args).append (U3 _),Vc _,trivial⟩ hok h1 fun s' hs'=>?_
 obtain⟨s2,e2⟩:=cg hs' h3 h4
 rw[← h5] at e2
 have fin:(match Lb s' f.res with|some (v,st)=>if f.pure=true then v.flt=true∧Q v [] else Q v st.hp|none=>False):=by
  rw[e2];simp only;split
  · rename_i hpu;exact⟨Vt v (hp hpu),hQ _⟩
  · exact hQ _
 cases e with
 |normal=>exact fin
 |ret=>exact fin
 |exit i=>exact absurd rfl (h2 i)
def TuX:List HT→Type
 |[]=>Unit
 |[a]=>a.D
 |a::r=>a.D×TuX r
def G6:(l:List HT)→List DV→Option (TuX l)
 |[],[]=>some ()
 |[a],[v]=>a.of v
 | a::b::r,v::vs=>(match a.of v,G6 (b::r) vs with
   |some x,some y=>some (x,y)
   |_,_=>none)
 |_,_=>none
def Em:(l:List HT)→TuX l→List DV
 |[],_=>[]
 |[a],x=>[a.dv x]
 |a::b::r,x=>a.dv x.1::Em (b::r) x.2
inductive QT where
 |one (h:HT)|tup (l:List HT)
def QT.D:QT→Type
 |.one h=>h.D
 |.tup l=>TuX l
def QT.of:(q:QT)→DV→Option q.D
 |.one h,v=>h.of v
 |.tup l,.tup vs=>G6 l vs
 |.tup _,_=>none
def QT.dv:(q:QT)→q.D→DV
 |.one h,x=>h.dv x
 |.tup l,x=>.tup (Em l x)
def QT.ofO(q:QT):Option DV→Option q.D
 |some v=>q.of v
 |none=>none
def dR:(l:List (Ql×CT))→AgX l
 |[]=>()
 |[a]=>a.2.dflt
 |a::b::r=>(a.2.dflt,dR (b::r))
def HT.dflt:(h:HT)→h.D
 |.one _ t=>t.dflt
 |.agg l=>dR l
def dM:(l:List HT)→TuX l
 |[]=>()
 |[a]=>a.dflt
 |a::b::r=>(a.dflt,dM (b::r))
def QT.dflt:(q:QT)→q.D
 |.one h=>h.dflt
 |.tup l=>dM l
def HT.flt:HT→Bool
 |.one _ t=>t.flat
 |.agg l=>l.all fun a=>a.2.flat
def QT.flt:QT→Bool
 |.one h=>h.flt
 |.tup l=>l.all HT.flt
theorem SE:∀ {l:List HT} {vs:List DV} {x:TuX l},G6 l vs=some x→DV.encL (Em l x)=DV.encL vs
 |[],[],_,_=>rfl
 | [a],[v],x,h=>by
   show [(a.dv x).enc]=[v.enc]
   rw[(Pe (t:=a) h).1]
 | a :: b::r,v::vs,x,h=>by
   have h':(match a.of v,G6 (b::r) vs with|some x,some y=>some (x,y)|_,_=>none)=some x:=h
   clear h
   cases h1:a.of v with
   |none=>rw[h1] at h';cases h'
   | some p=>
     cases h2:G6 (b::r) vs with
     |none=>rw[h1,h2] at h';cases h'
     | some q=>
       rw[h1,h2] at h'
       have h':=CJ h'
       subst h'
       show (a.dv p).enc::DV.encL (Em (b::r) q)=v.enc::DV.encL vs
       rw[(Pe h1).1,SE h2]
theorem eI{q:QT}{v:DV}{x:q.D}(h:q.of v=some x):(q.dv x).enc=v.enc∧v≠.any:=by
 cases q with
 |one t=>exact Pe (t:=t) h
 | tup l=>
   cases v<;>try (cases h;done)
   rename_i cs;refine⟨?_,by simp⟩;show PV.tup _=PV.tup _;rw[SE (l:=l) h]
theorem Rn:∀ (l:List HT) (x:TuX l),(Em l x).length=l.length
 |[],_=>rfl
 |[_],_=>rfl
 | a::b::r,x=>by
   show (Em (b::r) x.2).length+1=(b::r).length+1
   rw[Rn (b::r) x.2]
theorem We{q:Ql}{t:CT}{v:DV}{x:t.D}(hf:t.flat=true)(h:t.ofQ q v=some x):v.flt=true:=by
 cases t<;>first|(cases hf;done)|skip
 all_goals (cases v<;>first|rfl|(cases h;done))
theorem de:∀ {l:List (Ql×CT)} {vs:List DV} {x:AgX l},l.all (fun a=>a.2.flat)=true→JZ l vs=some x→DV.fltL vs=true
 |[],[],_,_,_=>rfl
 | [a],[v],x,hf,h=>by
   simp only[EI,Sd,IX] at hf
   simp only[DV.fltL,We (q:=a.1) hf h,Cw]
 | a :: b::r,v::vs,x,hf,h=>by
   have h':(match a.2.ofQ a.1 v,JZ (b::r) vs with|some x,some y=>some (x,y)|_,_=>none)=some x:=h
   clear h
   rw[EI,Ah] at hf
   cases h1:a.2.ofQ a.1 v with
   |none=>rw[h1] at h';cases h'
   | some p=>
     cases h2:JZ (b::r) vs with
     |none=>rw[h1,h2] at h';cases h'
     |some q=>simp only[DV.fltL,We hf.1 h1,de hf.2 h2,Cw]
theorem V0{t:HT}{v:DV}{x:t.D}(hf:t.flt=true)(h:t.of v=some x):v.flt=true:=by
 cases t with
 |one q t=>exact We (q:=q) (t:=t) hf h
 | agg l=>
   cases v<;>try (cases h;done)
   exact de (l:=l) hf h
theorem dj:∀ {l:List HT} {vs:List DV} {x:TuX l},l.all HT.flt=true→G6 l vs=some x→DV.fltL vs=true
 |[],[],_,_,_=>rfl
 | [a],[v],x,hf,h=>by
   simp only[EI,Sd,IX] at hf
   simp only[DV.fltL,V0 (t:=a) hf h,Cw]
 | a :: b::r,v::vs,x,hf,h=>by
   have h':(match a.of v,G6 (b::r) vs with|some x,some y=>some (x,y)|_,_=>none)=some x:=h
   clear h
   rw[EI,Ah] at hf
   cases h1:a.of v with
   |none=>rw[h1] at h';cases h'
   | some p=>
     cases h2:G6 (b::r) vs with
     |none=>rw[h1,h2] at h';cases h'
     |some q=>simp only[DV.fltL,V0 hf.1 h1,dj hf.2 h2,Cw]
theorem dH{q:QT}{v:DV}{x:q.D}(hf:q.flt=true)(h:q.of v=some x):v.flt=true:=by
 cases q with
 |one t=>exact V0 (t:=t) hf h
 | tup l=>
   cases v<;>try (cases h;done)
   exact dj (l:=l) hf h
def GW(hs:List HT)(q:QT)(ok:TuX hs→Prop)(v:TuX hs→q.D):EW:=fun args=>match G6 hs args with
 |some x=>some (.p (ok x),q.dv (v x))
 |none=>none
def DT.valQ(q:QT)(res:List ARes):DT→PX×Option q.D
 |.leaf (.exit _) _=>(.ff,none)
 | .leaf _ st=>(match FN st res with
   | some v=>if v.ok&&!v.hasPtr then (match q.of v with
     |some y=>(.tt,some y)
     |none=>(.ff,none)) else (.ff,none)
   |none=>(.ff,none))
 | .node c a b=>(match a.valQ q res,b.valQ q res with
   |(g,none),(g',y)=>(PX.if' c g g',y)
   |(g,x),(g',none)=>(PX.if' c g g',x)
   |(g,some x),(g',some y)=>(PX.if' c g g',some (bSel c x y)))
 | .chk g t=>(match t.valQ q res with
   |(g',v)=>(g.land g',v))
 |.bad=>(.ff,none)
theorem Od{q:QT}{res:List ARes}:∀ {t:DT} {g:PX},t.valQ q res=(g,none)→¬ g.den
 | .leaf e st,g,h=>by
   cases e<;>simp only[DT.valQ] at h<;>(repeat' split at h)<;>simp only[Ak,reduceCtorEq,and_false,and_true] at h<;>subst h<;>exact id
 | .node c x y,g,h=>by
   intro hg
   simp only[DT.valQ] at h
   cases h1:x.valQ q res with
   | mk g1 v1=>
     cases h2:y.valQ q res with
     | mk g2 v2=>
       rw[h1,h2] at h
       cases v1 with
       | none=>
         simp only[Ak] at h
         obtain⟨rfl,rfl⟩:=h
         have:=(PX.if_den _ _ _).mp hg
         cases c with
         |true=>exact Od h1 (this.1 rfl)
         |false=>exact Od h2 (this.2 rfl)
       |some v1=>cases v2<;>simp at h
 | .chk g0 t,g,h=>by
   intro hg
   simp only[DT.valQ] at h
   cases h1:t.valQ q res with
   | mk g1 v1=>
     rw[h1] at h
     simp only[Ak] at h
     obtain⟨rfl,rfl⟩:=h
     exact Od h1 ((PX.land_den _ _).mp hg).2
 | .bad,g,h=>by
   simp only[DT.valQ,Ak,and_true] at h
   subst h;exact id
theorem Sl{q:QT}{res:List ARes}:∀ {t:DT} {g:PX} {y:q.D},t.valQ q res=(g,some y)→g.den →
 t.ok.den∧∃ e st v0,t.lf=some (e,st)∧(∀ i,e≠.exit i)∧FN st res=some v0∧v0.ok=true∧q.of v0=some y
 | .leaf e st,g,y,h,hg=>by
   have gen:(match FN st res with|some v=>if (v.ok&&!v.hasPtr)=true then (match q.of v with|some y=>(PX.tt,some y)|none=>(PX.ff,none)) else (PX.ff,none)|none=>(PX.ff,none))=(g,some y)→∃ v,FN st res=some v∧v.ok=true∧q.of v=some y:=fun h=>by
    split at h
    · rename_i v hv;split at h
      · rename_i hc;simp only[Ah] at hc;split at h
        · rename_i y' hy;simp only[Ak,Ai] at h;obtain⟨_,rfl⟩:=h;exact⟨v,hv,hc.1,hy⟩
        · simp at h
      · simp at h
    · simp at h
   cases e with
   |exit i=>simp[DT.valQ] at h
   |normal=>obtain⟨v,h1,h2,h3⟩:=gen h;exact⟨trivial,.normal,st,v,rfl,by simp,h1,h2,h3⟩
   |ret=>obtain⟨v,h1,h2,h3⟩:=gen h;exact⟨trivial,.ret,st,v,rfl,by simp,h1,h2,h3⟩
 | .node c a b,g,y,h,hg=>by
   simp only[DT.valQ] at h;show (PX.if' c a.ok b.ok).den∧∃ e st v0,(DT.node c a b).lf=some (e,st)∧(∀ i,e≠.exit i)∧FN st res=some v0∧v0.ok=true∧q.of v0=some y;rw[PX.if_den]
   cases h1:a.valQ q res with
   | mk g1 v1=>
     cases h2:b.valQ q res with
     | mk g2 v2=>
       rw[h1,h2] at h
       have hgg:g=PX.if' c g1 g2:=by
        cases v1<;>cases v2<;>simp only[Ak] at h<;>exact h.1.symm
       subst hgg;have hg:=(PX.if_den _ _ _).mp hg
       cases c with
       | true=>
         have:v1=some y:=by
          cases v1 with
          |none=>exact absurd (hg.1 rfl) (Od h1)
          |some v1=>cases v2<;>simp only[Ak,AR] at h<;>exact h.2
         subst this;obtain⟨k1,k2⟩:=Sl h1 (hg.1 rfl);exact⟨⟨fun _=>k1,fun h=>by cases h⟩,k2⟩
       | false=>
         have:v2=some y:=by
          cases v2 with
          |none=>exact absurd (hg.2 rfl) (Od h2)
          |some v2=>cases v1<;>simp only[Ak,AN] at h<;>exact h.2
         subst this;obtain⟨k1,k2⟩:=Sl h2 (hg.2 rfl);exact⟨⟨fun h=>(by cases h),fun _=>k1⟩,k2⟩
 | .chk g0 t,g,y,h,hg=>by
   simp only[DT.valQ] at h
   cases h1:t.valQ q res with
   | mk g1 v1=>
     rw[h1] at h;simp only[Ak] at h;obtain⟨rfl,rfl⟩:=h;have hg:=(PX.land_den _ _).mp hg;obtain⟨k1,k2⟩:=Sl h1 hg.2;exact⟨(PX.land_den _ _).mpr ⟨hg.1,k1⟩,k2⟩
 |.bad,g,y,h,hg=>by simp[DT.valQ] at h
def QT.isB:QT→Bool
 |.one (.one _ .bool)=>true
 |_=>false
def PI(f:DFun)(hs:List HT)(q:QT)(x:TuX hs):PX×Option q.D:=
 if q.isB then ((Pz f (Em hs x)).1,q.ofO (Pz f (Em hs x)).2)
 else (dev f.body ⟨news (Em hs x)++KX (f.nslots-f.nparams),KR f.nbox,[]⟩).valQ q f.res
def Lo(f:DFun)(hs:List HT)(q:QT)(x:TuX hs):q.D:=(PI f hs q x).2.getD q.dflt
def Li(f:DFun)(hs:List HT)(q:QT)(x:TuX hs):Prop:=(PI f hs q x).1.den
def MP(f:DFun)(hs:List HT)(q:QT)(x:TuX hs):Bool:=(PI f hs q x).2.isSome
def MY(f:DFun)(hs:List HT)(q:QT):Bool:=hs.length == f.nparams&&(!f.pure||q.flt)
theorem aS {f:DFun} {hs:List HT} {q:QT} (ho:AllD f.body.obs) (hst:MY f hs q=true) (x:TuX hs) (hc:MP f hs q x=true) (hok:Li f hs q x)
 {Q:PV→List (List PV)→Prop} (hQ:∀ H,Q (q.dv (Lo f hs q x)).enc H):Mk f.er (DV.encL (Em hs x)) [] Q:=by
 simp only[MY,Ah,AW,Ce,DA] at hst
 unfold MP at hc
 unfold Lo at hQ
 unfold Li at hok
 unfold PI at hc hQ hok
 by_cases hb:q.isB=true
 · rw[Ab hb] at hc hQ hok
   cases hd:Pz f (Em hs x) with
   | mk g o=>
     rw[hd] at hc hQ hok
     cases o with
     |none=>cases hc
     | some w=>
       obtain⟨y,hy⟩:=Option.isSome_iff_exists.mp hc;rw[hy] at hQ;have hy:q.of w=some y:=hy;obtain⟨h1,h2⟩:=eI hy
       refine mV ho hd hok h2 (by rw[Rn];exact hst.1) (fun hp=>dH (by simpa [hp] using hst.2) hy) fun H=>?_
       have:=hQ H;rw[Hw,h1] at this;exact this
 · rw[Ad hb] at hc hQ hok
   cases hd:(dev f.body ⟨news (Em hs x)++KX (f.nslots-f.nparams),KR f.nbox,[]⟩).valQ q f.res with
   | mk g o=>
     rw[hd] at hc hQ hok
     cases o with
     |none=>cases hc
     | some y=>
       simp only[Hw] at hQ;obtain⟨k1,e,st,v0,k2,k3,k4,k5,k6⟩:=Sl hd hok;obtain⟨h1,h2⟩:=eI k6;refine⟨by rw[E7,Rn];exact hst.1,fun _=>rfl,?_⟩
       refine G4 f.body ho (d:=⟨news (Em hs x)++KX (f.nslots-f.nparams),KR f.nbox,[]⟩) ⟨(EL.news _).append (U3 _),Vc _,trivial⟩ k1 k2 fun s' hs'=>?_
       obtain⟨s2,e2⟩:=cg hs' k4 k5;rw[← h1] at e2
       have fin:(match Lb s' f.res with|some (v,st)=>if f.pure=true then v.flt=true∧Q v [] else Q v st.hp|none=>False):=by
        rw[e2];simp only;split
        · rename_i hpu;exact⟨by rw[h1];exact Vt _ (dH (by simpa [hpu] using hst.2) k6),hQ _⟩
        · exact hQ _
       cases e with
       |normal=>exact fin
       |ret=>exact fin
       |exit i=>exact absurd rfl (k3 i)
theorem oP{f:DFun}{hs:List HT}{q:QT}(ho:AllD f.body.obs)(hst:MY f hs q=true)(hc:∀ x,MP f hs q x=true){ok:TuX hs→Prop}{v:TuX hs→q.D}(hok:∀ x,ok x→Li f hs q x)(hv:∀ x,Lo f hs q x=v x) :
 GR (Mk f.er) (GW hs q ok v):=by
 intro args g w Q h hg hQ
 unfold GW at h
 cases hx:G6 hs args with
 |none=>rw[hx] at h;cases h
 | some x=>
   rw[hx] at h;simp only[Ai,Ak] at h;obtain⟨rfl,rfl⟩:=h;rw[← SE hx]
   exact aS ho hst x (hc x) (hok x hg) fun H=>by rw[hv];exact hQ H
attribute [irreducible] PI Lo Li MP MY
def A6:List DV→List DC
 |[]=>[]
 |v::r=>⟨false,v⟩::A6 r
open Go.RowKit Go.WideShapes Go.ChangeShapes
inductive Ty where
 |int (k:IntKind)
 |bool
 |str
 |sl (t:Ty)
 |unit
 |pair (a b:Ty)
def Ty.w:Ty→Nat
 |.int _|.bool|.str|.sl _=>1
 |.unit=>0
 |.pair a b=>a.w+b.w
def Px(P:Program)(f:TypeId→Option Ty):List Field→Nat→Option Ty
 |[],_=>some .unit
 | g::r,off=>
   match f g.type with
   |some a=>if g.offset=off∧a.w=P.cellsOf g.type then (match Px P f r (off+a.w) with|some b=>some (.pair a b)|none=>none) else none
   |none=>none
def HQ(P:Program):Nat→TypeId→Option Ty
 |0,_=>none
 | d+1,t=>
   match P.underlying t with
   |some (.int k)=>some (.int k)
   |some .bool=>some .bool
   |some .string=>some .str
   |some (.slice e)=>(match HQ P d e with|some te=>if te.w=P.cellsOf e∧0<te.w then some (.sl te) else none|none=>none)
   |some (.struct fs)=>(match Px P (HQ P d) fs.toList 0 with|some ty=>if ty.w=P.cellsOf t then some ty else none|none=>none)
   |_=>none
def Sh(σ:Ac):Ty→List V→Prop
 |.int k,cs=>∃ n,cs=[.int k n]∧(Lit.int k n).wf=true
 |.bool,cs=>∃ b,cs=[.bool b]
 |.str,cs=>∃ s,cs=[.str s]∧s.length≤maxLen
 |.sl t,cs=>cs=[.nils]∨∃ (l n:Nat) (bs:List V),cs=[.slice l 0 n]∧σ[l]?=some ⟨.ro,t.w,bs⟩∧bs.length=n*t.w∧n≤maxLen∧∀ i,i<n→Sh σ t ((bs.drop (i*t.w)).take t.w)
 |.unit,cs=>cs=[]
 |.pair a b,cs=>∃ xs ys,cs=xs++ys∧Sh σ a xs∧Sh σ b ys
theorem Sh.len{σ:Ac}:∀ {ty:Ty} {cs:List V},Sh σ ty cs→cs.length=ty.w
 |.int _,_,⟨_,h,_⟩=>by rw[h];rfl
 |.bool,_,⟨_,h⟩=>by rw[h];rfl
 |.str,_,⟨_,h,_⟩=>by rw[h];rfl
 |.sl _,_,h=>by rcases h with h|⟨_,_,_,h,_⟩<;>rw[h]<;>rfl
 |.unit,_,h=>by rw[h];rfl
 |.pair a b,_,⟨xs,ys,h,h1,h2⟩=>by rw[h,CD,h1.len,h2.len];rfl
theorem Sh.mono{σ e:Ac}:∀ {ty:Ty} {cs:List V},Sh σ ty cs→Sh (σ++e) ty cs
 |.int _,_,h=>h
 |.bool,_,h=>h
 |.str,_,h=>h
 | .sl _,_,h=>by
   rcases h with h|⟨l,n,bs,h,h1,h2,h3,h4⟩
   · exact .inl h
   · exact .inr ⟨l,n,bs,h,by rw[Bq (BT h1)];exact h1,h2,h3,fun i hi=>(h4 i hi).mono⟩
 |.unit,_,h=>h
 |.pair _ _,_,⟨xs,ys,h,h1,h2⟩=>⟨xs,ys,h,h1.mono,h2.mono⟩
def DG(σ:Ac):Prop:=∀ (l:Nat) (b:Blk),σ[l]?=some b→b.k= .ro
def Ps(ι:Am)(σ:Ac)(W:World)(ty:Ty)(cs:List Value):Prop:=
 ∃ ι' e vs,HRel ι' (σ++e) W∧Keeps ι σ ι' (σ++e)∧DG (σ++e)∧Sh (σ++e) ty vs∧vs.length=cs.length∧∀ (i:Nat) v x,vs[i]?=some v→cs[i]?=some x→v.cell=true∧∀ β,Rel ι' (σ++e) β v x
theorem HRel.lay{ι:Am}{σ:Ac}{W:World}(h:HRel ι σ W)(hro:DG σ){b off c:Nat}{wd:Nat}{bs:List V}(hb:b<W.heap.size)(hc:∀ (i:Nat) v,bs[i]?=some v→v.cell=true∧∃ x,W.cell? ⟨b,off+i,none⟩=some x∧∀ β,Rel ι σ β v x) :
 HRel (upd ι σ.length ⟨b,off,c⟩) (σ++[⟨.ro,wd,bs⟩]) W∧DG (σ++[⟨.ro,wd,bs⟩]):=by
 have K:=N1 ι σ ⟨b,off,c⟩ ⟨.ro,wd,bs⟩
 have hall:DG (σ++[⟨.ro,wd,bs⟩]):=by
  intro l blk hl;rcases E8 hl with⟨_,hl⟩|⟨_,rfl⟩
  · exact hro l blk hl
  · rfl
 refine⟨⟨fun l blk hl hk i v hv=>?_,fun l blk hl hk=>?_,fun l l' blk blk' hne hl hl' hk hk'=>?_,fun l blk hl hk=>?_⟩,hall⟩
 · rcases E8 hl with⟨hlt,hl⟩|⟨rfl,rfl⟩
   · rw[CN _ _ _ _ (by omega)];obtain⟨a,x,b',c⟩:=h.cells l blk hl hk i v hv;exact⟨a,x,b',fun β=>(c β).cellMono K a⟩
   · rw[BR];obtain⟨a,x,b',c⟩:=hc i v hv;exact⟨a,x,b',fun β=>(c β).cellMono K a⟩
 · have:=hall l blk hl;rw[hk] at this;cases this
 · have:=hall l blk hl;rw[hk] at this;cases this
 · rcases E8 hl with⟨hlt,hl⟩|⟨rfl,rfl⟩
   · rw[CN _ _ _ _ (by omega)];exact h.there l blk hl hk
   · rw[BR];exact hb
theorem k8{w:World}{a:Addr}{v:Value}(h:w.cell? a=some v):a.block<w.heap.size:=by
 unfold World.cell? at h;rcases AZ a.block w.heap.size with h1|h1
 · exact h1
 · rw[Array.getElem?_eq_none h1] at h;cases h
theorem Sy{α:Type}{l:List α}{i:Nat}{v:α}(h:l[i]?=some v):i<l.length:=by
 rcases AZ i l.length with h1|h1
 · exact h1
 · rw[Bg h1] at h;cases h
section
variable {H:Type} {enc:TypeId×Value→H} {P:Program} {W:World}
theorem YN(d:Nat)(ih:∀ (t:TypeId)(ty:Ty),HQ P d t=some ty→∀ (fuel:Nat)(cs:List Value) x,DataW.trod enc P W 0 (fun _=>true) true fuel t cs=some x→∀ (ι:Am)(σ:Ac),HRel ι σ W→DG σ→Ps ι σ W ty cs) :
 ∀ (fs:List Field) (off:Nat) (ty:Ty),Px P (HQ P d) fs off=some ty→∀ (fuel:Nat) (cs:List Value),(∀ g∈fs,∃ x,DataW.trod enc P W 0 (fun _=>true) true fuel g.type ((cs.drop g.offset).take (P.cellsOf g.type))=some x) →
   off+ty.w=cs.length→∀ (ι:Am) (σ:Ac),HRel ι σ W→DG σ→Ps ι σ W ty (cs.drop off)
 | [],off,ty,h,fuel,cs,_,hl,ι,σ,H,hro=>by
   simp only[Px,Ai] at h;subst h;simp only[Ty.w,Ee] at hl
   have:cs.drop off=[]:=by rw[hl];simp
   rw[this];exact⟨ι,[],[],by simpa using H,by simpa using Keeps.refl ι σ,by simpa using hro,rfl,rfl,by simp⟩
 | g :: r, off,ty,h,fuel,cs,hg,hl,ι,σ,H,hro=>by
   simp only[Px] at h;split at h
   · rename_i a ha;split at h
     · rename_i hc;obtain⟨h1,h2⟩:=hc;split at h
       · rename_i b hb;cases h;simp only[Ty.w] at hl;obtain⟨x,hx⟩:=hg g (by simp);rw[h1] at hx;obtain⟨ι1,e1,vs1,H1,K1,R1,S1,L1,C1⟩:=ih g.type a ha fuel _ x hx ι σ H hro;obtain⟨ι2,e2,vs2,H2,K2,R2,S2,L2,C2⟩:=YN d ih r (off+a.w) b hb fuel cs (fun g' hg'=>hg g' (by simp[hg'])) (by omega) ι1 (σ++e1) H1 R1;refine⟨ι2,e1++e2,vs1++vs2,by rw[← BE];exact H2,by rw[← BE];exact K1.trans K2,by rw[← BE];exact R2,⟨vs1,vs2,rfl,by rw[← BE];exact S1.mono,by rw[← BE];exact S2⟩,?_,fun i v y hv hy=>?_⟩
         · rw[CD,L1,L2];simp;omega
         · have hl1:vs1.length=a.w:=S1.len;by_cases hi:i<vs1.length
           · rw[Bq hi] at hv
             have hy':((cs.drop off).take (P.cellsOf g.type))[i]?=some y:=by
              rw[GS,Ab (by omega)];exact hy
             obtain⟨q1,q2⟩:=C1 i v y hv hy';exact⟨q1,fun β=>by rw[← BE];exact(q2 β).cellMono K2 q1⟩
           · rw[CP (by omega)] at hv
             have hy':(cs.drop (off+a.w))[i-vs1.length]?=some y:=by
              rw[IW] at hy ⊢
              have:off+a.w+(i-vs1.length)=off+i:=by omega
              rw[this];exact hy
             obtain⟨q1,q2⟩:=C2 _ v y hv hy';exact⟨q1,fun β=>by rw[← BE];exact q2 β⟩
       · cases h
     · cases h
   · cases h
theorem b8{b o:Nat}(n:Nat):Addr.add ⟨b,o,none⟩ n=⟨b,o+n,none⟩:=by
 unfold Addr.add;split
 · rename_i h;subst h;rfl
 · rfl
theorem Y4 {d:Nat} (ih:∀ (t:TypeId) (ty:Ty),HQ P d t=some ty→∀ (fuel:Nat) (cs:List Value) x,DataW.trod enc P W 0 (fun _=>true) true fuel t cs=some x→∀ (ι:Am) (σ:Ac),HRel ι σ W→DG σ→Ps ι σ W ty cs)
 {e:TypeId} {te:Ty} (hte:HQ P d e=some te) (hw:te.w=P.cellsOf e) {fuel b o:Nat} :
 ∀ (n:Nat),(∀ i,i<n→∃ cs x,W.cells? 0 ⟨b,o+i*te.w,none⟩ te.w=some cs∧DataW.trod enc P W 0 (fun _=>true) true fuel e cs=some x)→∀ (ι:Am) (σ:Ac),HRel ι σ W→DG σ →
   ∃ (ι':Am) (ext:Ac) (bs:List V),HRel ι' (σ++ext) W∧Keeps ι σ ι' (σ++ext)∧DG (σ++ext)∧bs.length=n*te.w∧(∀ i,i<n→Sh (σ++ext) te ((bs.drop (i*te.w)).take te.w)) ∧
     ∀ (j:Nat) v,bs[j]?=some v→v.cell=true∧∃ x,W.cell? ⟨b,o+j,none⟩=some x∧∀ β,Rel ι' (σ++ext) β v x
 |0,_,ι,σ,H0,hro=>⟨ι,[],[],by simpa using H0,by simpa using Keeps.refl ι σ,by simpa using hro,by simp,fun i hi=>absurd hi (R6 i),by simp⟩
 | n + 1,hn,ι,σ,H0,hro=>by
   obtain⟨ι1,e1,bs,H1,K1,R1,L1,S1,C1⟩:=Y4 ih hte hw n (fun i hi=>hn i (Nat.lt_succ_of_lt hi)) ι σ H0 hro;obtain⟨cs,x,hc,hx⟩:=hn n (Sa n);obtain⟨ι2,e2,vs,H2,K2,R2,S2,L2,C2⟩:=ih e te hte fuel cs x hx ι1 (σ++e1) H1 R1;obtain⟨_,hcl,hcg⟩:=World.cells?_some hc;refine⟨ι2,e1++e2,bs++vs,by rw[← BE];exact H2,by rw[← BE];exact K1.trans K2,by rw[← BE];exact R2,?_,fun i hi=>?_,fun j v hv=>?_⟩
   · rw[CD,L1,L2,hcl,KK]
   · rw[← BE];by_cases h:i<n
     · have h1:(i+1)*te.w≤n*te.w:=FG _ h;rw[KK] at h1
       have:((bs++vs).drop (i*te.w)).take te.w=(bs.drop (i*te.w)).take te.w:=by
        rw[List.drop_append_of_le_length (by omega),List.take_append_of_le_length (by rw[KL];omega)]
       rw[this];exact(S1 i h).mono
     · have:i=n:=by omega
       subst this
       have:((bs++vs).drop (i*te.w)).take te.w=vs:=by
        rw[← L1,List.drop_left,KU (by omega)]
       rw[this];exact S2
   · by_cases h:j<bs.length
     · rw[Bq h] at hv;obtain⟨q1,y,q2,q3⟩:=C1 j v hv;exact⟨q1,y,q2,fun β=>by rw[← BE];exact(q3 β).cellMono K2 q1⟩
     · rw[CP (by omega)] at hv;have hlt:=Sy hv
       have hlt':j-bs.length<te.w:=by rw[← hcl,← L2];exact hlt
       have hg:=hcg (j-bs.length) hlt';rw[b8] at hg
       have e0:o+n*te.w+(j-bs.length)=o+j:=by omega
       rw[e0] at hg;obtain⟨y,hy⟩:∃ y,cs[j-bs.length]?=some y:=⟨_,Ay (by omega)⟩;obtain⟨q1,q2⟩:=C2 _ v y hv hy;exact⟨q1,y,hg.trans hy,fun β=>by rw[← BE];exact q2 β⟩
theorem TQ:∀ (d:Nat) (t:TypeId) (ty:Ty),HQ P d t=some ty→∀ (fuel:Nat) (cs:List Value) x,DataW.trod enc P W 0 (fun _=>true) true fuel t cs=some x→∀ (ι:Am) (σ:Ac),HRel ι σ W→DG σ→Ps ι σ W ty cs
 |0,_,_,h=>by simp[HQ] at h
 | d + 1, t, ty,h=>by
   intro fuel cs x hx ι σ H0 hro
   have one:∀ (v:V) (y:Value),cs=[y]→v.cell=true→(∀ β,Rel ι σ β v y)→Sh σ ty [v]→Ps ι σ W ty cs:=by
    intro v y hc hv hr hs;refine⟨ι,[],[v],by simpa using H0,by simpa using Keeps.refl ι σ,by simpa using hro,by simpa using hs,by rw[hc];rfl,fun i u z hu hz=>?_⟩;rw[hc] at hz
    cases i with
    |zero=>simp at hu hz;subst hu;subst hz;exact⟨hv,by simpa using hr⟩
    |succ i=>simp at hu
   unfold HQ at h;split at h
   · rename_i k hu;cases h;obtain⟨n,hc,_,hwf⟩:=DataW.trod_int hu hx;exact one (.int k n) _ hc rfl (fun β=>.int k n) ⟨n,rfl,hwf⟩
   · rename_i hu;cases h;obtain⟨b,hc,_⟩:=DataW.trod_bool hu hx;exact one (.bool b) _ hc rfl (fun β=>.bool b) ⟨b,rfl⟩
   · rename_i hu;cases h;obtain⟨s,hc,_,hwf⟩:=DataW.trod_string hu hx;exact one (.str s.data.toList) _ hc rfl (fun β=>by have:=Rel.str (ι:=ι) (σ:=σ) (β:=β) s.data.toList;simpa using this) ⟨s.data.toList,rfl,by simpa using hwf⟩
   · rename_i e hu;split at h
     · rename_i te hte;split at h
       · rename_i hw;obtain⟨hw,hpos⟩:=hw;cases h;rcases DataW.trod_slice hu hx with⟨hc,_⟩|⟨a,len,cap,elems,rest,n,_,hc,_,_,hle,hcap,hel,hE,hR,_⟩
         · exact one .nils _ hc rfl (fun β=>.nils none) (.inl rfl)
         · obtain⟨hrl,hR⟩:=hR rfl
           have hcell:∀ i,i<cap→∃ cs' y,W.cells? 0 (a.add (i*P.cellsOf e)) (P.cellsOf e)=some cs'∧DataW.trod enc P W 0 (fun _=>true) true n e cs'=some y:=by
            intro i hi;by_cases h:i<len
            · have h1:=hE i h;obtain⟨y,hy⟩:∃ y,elems[i]?=some y:=⟨_,Ay (by omega)⟩;rw[hy,BJ] at h1;obtain⟨cs',h1,h2⟩:=h1;exact⟨cs',y,h1,h2⟩
            · have h1:=hR (i-len) (by omega);obtain⟨y,hy⟩:∃ y,rest[i-len]?=some y:=⟨_,Ay (by omega)⟩;rw[hy,BJ] at h1;obtain⟨cs',h1,h2⟩:=h1;rw[show len+(i-len)=i by omega] at h1;exact⟨cs',y,h1,h2⟩
           by_cases hc0:cap=0
           · subst hc0
             have:len=0:=by omega
             subst this;exact one .nils _ hc rfl (fun β=>.nils (some a)) (.inl rfl)
           · have hsp:a.spot=none∧a.block<W.heap.size:=by
              obtain⟨cs',y,h1,_⟩:=hcell 0 (by omega);obtain⟨_,h2,h3⟩:=World.cells?_some h1;have h4:=h3 0 (by omega);obtain⟨z,hz⟩:∃ z,cs'[0]?=some z:=⟨_,Ay (by omega)⟩;rw[hz] at h4
              have h5:W.cell? a=some z:=by simpa [Addr.add] using h4
              exact⟨World.cell?_spot h5,k8 h5⟩
             obtain⟨ab,ao,asp⟩:=a;obtain⟨hsp,hlt⟩:=hsp;simp only at hsp hlt;subst hsp
             have hcell':∀ i,i<len→∃ cs' y,W.cells? 0 ⟨ab,ao+i*te.w,none⟩ te.w=some cs'∧DataW.trod enc P W 0 (fun _=>true) true n e cs'=some y:=by
              intro i hi;have:=hcell i (by omega);rw[b8,← hw] at this;exact this
             obtain⟨ι1,e1,bs,H1,K1,R1,L1,S1,C1⟩:=Y4 (TQ d) hte hw len hcell' ι σ H0 hro;obtain⟨H2,R2⟩:=H1.lay R1 (c:=cap*te.w) (wd:=te.w) hlt C1;have K2:=N1 ι1 (σ++e1) ⟨ab,ao,cap*te.w⟩ ⟨.ro,te.w,bs⟩
             have hg:((σ++e1)++[(⟨.ro,te.w,bs⟩:Blk)])[(σ++e1).length]?=some ⟨.ro,te.w,bs⟩:=by simp
             refine⟨_,e1++[⟨.ro,te.w,bs⟩],[.slice (σ++e1).length 0 len],by rw[← BE];exact H2,by rw[← BE];exact K1.trans K2,by rw[← BE];exact R2,.inr ⟨_,len,bs,rfl,by rw[← BE];exact hg,L1,by omega,fun i hi=>by rw[← BE];exact(S1 i hi).mono⟩,by rw[hc];rfl,fun i u z hu hz=>?_⟩;rw[hc] at hz
             cases i with
             | zero=>
               simp at hu hz;subst hu;subst hz;refine⟨rfl,fun β=>?_⟩;have:=Rel.slice (ι:=upd ι1 (σ++e1).length ⟨ab,ao,cap*te.w⟩) (σ:=(σ++e1)++[⟨.ro,te.w,bs⟩]) (β:=β) (σ++e1).length 0 len cap ⟨.ro,te.w,bs⟩ hg hle (by rw[BR];simp) (by first|assumption|(simp only;omega));rw[BR] at this;simpa using this
             |succ i=>simp at hu
       · cases h
     · cases h
   · rename_i fs hu;split at h
     · rename_i ty' hty;split at h
       · rename_i hw;cases h;obtain⟨xs,n,_,_,hl,hxl,hf⟩:=DataW.trod_struct hu hx
         have:=YN (enc:=enc) d (TQ d) fs.toList 0 _ hty n cs (fun g hg=>by
          obtain⟨i,hi⟩:=HD hg;have h1:=hf i g (by simpa using hi)
          have:i<xs.length:=by rw[hxl];have:=Sy hi;simpa using this
          exact⟨_,h1.trans (Ay this)⟩) (by omega) ι σ H0 hro
         simpa using this
       · cases h
     · cases h
   · cases h
end
open Go.RowKit Go.WideShapes Go.ChangeShapes
def WE(P:Program)(d:Nat)(t:TypeId):Option (Ty×Bool):=
 match HQ P d t with
 | some ty=>(match P.underlying t with
   |some (.struct _)=>some (ty,true)
   |some (.int _)|some .bool|some .string|some (.slice _)=>some (ty,false)
   |_=>none)
 |none=>none
def Mv(P:Program)(d:Nat):List TypeId→Option (List (Ty×Bool))
 |[]=>some []
 | t::r=>match WE P d t,Mv P d r with
   |some a,some b=>some (a::b)
   |_,_=>none
def ArgOk(σ:Ac):Ty×Bool→V→Prop
 |(ty,true),v=>∃ cs,v= .agg cs∧Sh σ ty cs∧cs.all V.cell=true
 |(ty,false),v=>Sh σ ty [v]∧v.cell=true
def Mz(σ:Ac):List (Ty×Bool)→List V→Prop
 |[],[]=>True
 |a::r,v::s=>ArgOk σ a v∧Mz σ r s
 |_,_=>False
theorem ArgOk.mono{σ e:Ac}{a:Ty×Bool}{v:V}(h:ArgOk σ a v):ArgOk (σ++e) a v:=by
 obtain⟨ty,b⟩:=a
 cases b with
 |true=>obtain⟨cs,h1,h2,h3⟩:=h;exact⟨cs,h1,h2.mono,h3⟩
 |false=>exact⟨h.1.mono,h.2⟩
theorem ArgOk.noBox{σ:Ac}{a:Ty×Bool}{v:V}(h:ArgOk σ a v):∀ i o,v≠.box i o:=by
 obtain⟨ty,b⟩:=a;intro i o e;subst e
 cases b with
 |true=>obtain⟨cs,h1,_⟩:=h;cases h1
 |false=>have:=h.2;cases this
section
variable {H:Type} {enc:TypeId×Value→H} {P:Program} {W:World} {r:Reach} {base:Nat}
theorem pQ {d:Nat} {t:TypeId} {a:Ty×Bool} (ha:WE P d t=some a) {v:Value} {dd:DataW H} {ps:List MemPlace} (h:DataW.Trod enc P W 0 (fun _=>true) true t v dd ps) (hok:Value.okWide P W r base t v)
 (ι:Am) (σ:Ac) (H0:HRel ι σ W) (hro:DG σ) :
 ∃ ι' e u,HRel ι' (σ++e) W∧Keeps ι σ ι' (σ++e)∧DG (σ++e)∧ArgOk (σ++e) a u∧∀ β,Rel ι' (σ++e) β u v:=by
 unfold WE at ha
 split at ha
 · rename_i ty hty
   obtain⟨fuel,hx⟩:=h;obtain⟨ι',e,vs,h1,h2,h3,h4,h5,h6⟩:=TQ d t ty hty fuel _ _ hx ι σ H0 hro
   have one:∀ (hc:v.cells=#[v]),a=(ty,false)→∃ ι' e u,HRel ι' (σ++e) W∧Keeps ι σ ι' (σ++e)∧DG (σ++e)∧ArgOk (σ++e) a u∧∀ β,Rel ι' (σ++e) β u v:=by
    intro hc ea;rw[hc] at h5 h6
    match vs,h5,h4,h6 with
    | [u],_,h4,h6=>
      obtain⟨c1,c2⟩:=h6 0 u v rfl rfl;exact⟨ι',e,u,h1,h2,h3,by rw[ea];exact⟨h4,c1⟩,c2⟩
   split at ha
   · rename_i fs hu;cases ha;obtain⟨cs,rfl,_⟩:=okWide_struct hu hok;replace h5:vs.length=cs.toList.length:=h5;refine⟨ι',e,.agg vs,h1,h2,h3,⟨vs,rfl,h4,?_⟩,fun β=>?_⟩
     · rw[CE];intro u hu';obtain⟨i,hi⟩:=HD hu'
       have:i<cs.toList.length:=by rw[← h5];exact Sy hi
       exact(h6 i u _ hi (Ay this)).1
     · have:=Rel.agg (ι:=ι') (σ:=σ++e) (β:=β) vs cs.toList h5 (fun u hu'=>by
        obtain⟨i,hi⟩:=HD hu'
        have:i<cs.toList.length:=by rw[← h5];exact Sy hi
        exact(h6 i u _ hi (Ay this)).1) (fun i u w hi hw=>(h6 i u w hi hw).2 β)
       simpa using this
   · rename_i k hu;cases ha;obtain⟨n,rfl⟩:=okWide_int hu hok;exact one rfl rfl
   · rename_i hu;cases ha;obtain⟨n,rfl⟩:=okWide_bool hu hok;exact one rfl rfl
   · rename_i hu;cases ha;obtain⟨n,rfl⟩:=okWide_string hu hok;exact one rfl rfl
   · rename_i el hu;cases ha;obtain⟨x,y,z,rfl⟩:=okWide_slice hu hok;exact one rfl rfl
   · cases ha
 · cases ha
theorem ZG{d:Nat}:∀ {ts:List TypeId} {tys:List (Ty×Bool)},Mv P d ts=some tys→∀ {vs:List Value} {ds:List (DataW H)} {ps:List MemPlace},DataW.TrodAll enc P W 0 (fun _=>true) true ts vs ds ps →
 (∀ (j:Nat) t v,ts[j]?=some t→vs[j]?=some v→Value.okWide P W r base t v)→∀ (ι:Am) (σ:Ac),HRel ι σ W→DG σ →
 ∃ ι' e us,HRel ι' (σ++e) W∧Keeps ι σ ι' (σ++e)∧DG (σ++e)∧Mz (σ++e) tys us∧us.length=vs.length∧∀ (i:Nat) u v,us[i]?=some u→vs[i]?=some v→(∀ j o,u≠.box j o)∧∀ β,Rel ι' (σ++e) β u v
 | [],tys,h,vs,ds,ps,hd,_,ι,σ,H0,hro=>by
   obtain⟨rfl,_,_⟩:=trodAll_nil hd
   cases h
   exact⟨ι,[],[],by simpa using H0,by simpa using Keeps.refl ι σ,by simpa using hro,trivial,rfl,by simp⟩
 | t :: ts,tys,h,vs,ds,ps,hd,hok,ι,σ,H0,hro=>by
   obtain⟨v,vs',x,ds',p,q,rfl,rfl,rfl,h1,h2⟩:=trodAll_cons hd
   unfold Mv at h
   split at h
   · rename_i a b ha hb
     cases h
     obtain⟨ι1,e1,u,H1,K1,R1,A1,C1⟩:=pQ ha h1 (hok 0 t v rfl rfl) ι σ H0 hro
     obtain⟨ι2,e2,us,H2,K2,R2,A2,L2,C2⟩:=ZG hb h2 (fun j t' v' hj hv=>hok (j+1) t' v' hj hv) ι1 (σ++e1) H1 R1
     refine⟨ι2,e1++e2,u::us,by rw[← BE];exact H2,by rw[← BE];exact K1.trans K2,by rw[← BE];exact R2,by rw[← BE];exact⟨A1.mono,A2⟩,by simp[L2],fun i u' v' hu hv=>?_⟩
     rw[← BE]
     cases i with
     | zero=>
       simp at hu hv;subst hu;subst hv
       exact⟨A1.noBox,fun β=>(C1 β).mono K2 (fun j o e=>absurd e (A1.noBox j o))⟩
     |succ i=>exact C2 i u' v' (by simpa using hu) (by simpa using hv)
   · cases h
end
def VW(P:Program)(ts:List TypeId):Bool:=ts.all fun t=>P.readableRec t&&decide (t<P.types.size)
theorem YM{H:Type}{enc:TypeId×Value→H}{P:Program}(hl:laidOutB P=true){W W':World}{sp':Nat→Bool}:∀ {ts:List TypeId} {vs:List Value} {ds:List (DataW H)} {ps:List MemPlace},VW P ts=true →
 DataW.TrodAll enc P W 0 (fun _=>true) true ts vs ds ps→(∀ p∈ps,W.sameAt W' p)→(∀ p∈ps,sp' p.block=true)→DataW.TrodAll enc P W' 0 sp' true ts vs ds ps
 | [],vs,ds,ps,_,h,_,_=>by
   obtain⟨rfl,rfl,rfl⟩:=trodAll_nil h
   rfl
 | t::ts,vs,ds,ps,hr,h,h1,h2=>by
   obtain⟨v,vs',x,ds',p,q,rfl,rfl,rfl,g1,g2⟩:=trodAll_cons h
   unfold VW at hr
   rw[EI,Ah,Ah,AX] at hr
   exact⟨p,q,WideElems.Trod_stays hl hr.1.1 hr.1.2 g1 (fun y hy=>h1 y (by simp[hy])) (fun y hy=>h2 y (by simp[hy])),YM hl hr.2 g2 (fun y hy=>h1 y (by simp[hy])) (fun y hy=>h2 y (by simp[hy])),rfl⟩
theorem lk {H:Type} {enc:TypeId×Value→H} {P:Program} {f:Func} {s:ChangeSpec} {apart fresh handsOn again:Bool} {W W':World} {args:Array Value} {v:Value} {ds gs:List (DataW H)} {before pa pv:List MemPlace}
 (hW:DataW.Whole enc P f.params.toList s.vars apart W args.toList ds gs before)
 (hres:∀ (b:Nat) (sp:Nat→Bool) (hd:Bool),DataW.TrodAll enc P W' b sp hd f.resultTypes.toList (v.resultList f.resultTypes.size) (s.fn H (ds++gs)).results [])
 (hargs:∀ sp:Nat→Bool,(∀ p∈before,sp p.block=true)→DataW.TrodAll enc P W' 0 sp true f.params.toList args.toList (s.fn H (ds++gs)).args pa)
 (hvars:∀ sp:Nat→Bool,(∀ p∈before,sp p.block=true)→DataW.TrodVars enc P W' sp s.vars (s.fn H (ds++gs)).vars pv)
 (hps:before=pa++pv) (hb:Below W.heap.size W W')
 (hok:∀ (j:Nat) (t:TypeId) (r:Value),f.resultTypes[j]?=some t→(v.resultList f.resultTypes.size)[j]?=some r→Value.okWide P W' .any 0 t r) :
 s.post enc P f apart fresh handsOn again W args v W':=by
 have hlt:∀ p∈before,p.block<W.heap.size:=fun p hp=>hW.lt p hp
 have hold:∀ p∈before,(fun b=>decide (b<W.heap.size)) p.block=true:=fun p hp=>by simpa using hlt p hp
 refine⟨ds,gs,before,[],pa,pv,hW,hres _ _ _,hargs _ hold,hvars _ hold,World.keptBut_mono (fun p hp=>⟨hp,?_⟩) (hb.frame (·∈before)),fun _=>?_⟩
 · rw[hps,C3] at hp
   exact Or.inr hp
 · obtain⟨_,_,_,_,_,hz,hn⟩:=hW
   refine⟨hok,_,_,([]++pa)++pv,⟨[]++pa,pv,trodAll_append (hargs _ (fun _ _=>rfl)) (hres _ _ _),hvars _ (fun _ _=>rfl),rfl,?_,?_⟩,?_⟩
   · intro b off hp
     have hin:MemPlace.cell b off∈before:=by rw[hps];simpa using hp
     rw[hb.frozen (hlt _ hin)];exact hz b off hin
   · intro ha;have:=hn ha;rw[hps] at this;simpa using this
   · intro p hp _;rw[hps];simpa using hp
theorem lM {H:Type} {enc:TypeId×Value→H} {P:Program} {f:FuncId} {fn:Func} {s:ChangeSpec} {apart fresh handsOn again:Bool} {sem:Be} {tys:List (Ty×Bool)} {d:Nat} {tb:TypeId}
 (hs:Aq P f sem) (has:Mv P d fn.params.toList=some tys) (hrows:VW P fn.params.toList=true) (hl:laidOutB P=true)
 (hres:fn.resultTypes=#[tb]) (htb:P.underlying tb=some .bool) (hvars:s.vars=[])
 (hspec:∀ ds:List (DataW H),ds.length=tys.length→s.fn H ds={ results:=[.lit (.bool true)],args:=ds })
 (law:∀ (σ:Ac) (us:List V),DG σ→Mz σ tys us→sem us σ fun r _=>r= .bool true)
 {W:World} {base:Nat} {args:Array Value} {ds gs:List (DataW H)} {before:List MemPlace}
 (hval:∀ (j:Nat) t v,fn.params[j]?=some t→args[j]?=some v→Value.okWide P W .any base t v)
 (hW:DataW.Whole enc P fn.params.toList s.vars apart W args.toList ds gs before) (hgl:GlW P W) :
 Calls P f args W fun e W'=>∃ v,e= .returned v∧s.post enc P fn apart fresh handsOn again W args v W':=by
 have hW':=hW
 obtain⟨p,q,hA,hV,rfl,hfz,hnd⟩:=hW
 rw[hvars] at hV
 obtain⟨rfl,rfl⟩:=trodVars_none hV
 rw[Mu] at hW'
 obtain⟨ι,e,us,H1,_,R1,A1,L1,C1⟩:=ZG (d:=d) has hA (fun j t v hj hv=>hval j t v (by simpa using hj) (by simpa using hv)) (fun _=>⟨0,0,0⟩) [] ⟨by simp,by simp,by simp,by simp⟩ (fun l b h=>by simp at h)
 simp only[Cp] at H1 R1 A1 C1
 have hc:=hs Phm.no ι e W us args.toList _ (.no e) (by rw[OM];exact H1) (by rw[OM];exact⟨L1,fun i u v hu hv=>(C1 i u v hu hv).2⟩) (law e us R1 A1) ⟨hgl,fun nm hn g hg l blk hl hk=>by rw[OM] at hl;have:=R1 l blk hl;rw[hk] at this;cases this⟩
 have hlen:ds.length=tys.length:=by
  have h1:∀ {ts:List TypeId} {tys:List (Ty×Bool)},Mv P d ts=some tys→tys.length=ts.length:=by
   intro ts
   induction ts with
   |nil=>intro tys h;cases h;rfl
   | cons t ts ih=>
     intro tys h;unfold Mv at h;split at h
     · rename_i a b _ hb;cases h;simp[ih hb]
     · cases h
  have h2:∀ {ts:List TypeId} {vs:List Value} {ds:List (DataW H)} {ps:List MemPlace},DataW.TrodAll enc P W 0 (fun _=>true) true ts vs ds ps→ds.length=ts.length:=by
   intro ts
   induction ts with
   |nil=>intro vs ds ps h;obtain⟨_,rfl,_⟩:=trodAll_nil h;rfl
   | cons t ts ih=>
     intro vs ds ps h;obtain⟨v,vs',x,ds',p,q,rfl,rfl,rfl,_,g2⟩:=trodAll_cons h;simp[ih g2]
  rw[h1 has,h2 hA]
 refine(Calls.mono (by simpa using hc) fun en W' hd=>?_:Calls P f args W _)
 obtain⟨x,r,σ',ι',rfl,rfl,_,hx,_,hstep⟩:=hd
 rw[OM,OM] at hstep
 have hx':=hx (fun _=>0)
 cases hx'
 have hb:Below W.heap.size W W':=⟨hstep.os,hstep.tape,hstep.output,hstep.size,fun k hk=>hstep.frame k hk fun l blk hl hk'=>by have:=R1 l blk hl;rw[hk'] at this;cases this⟩
 have hfn:=hspec (ds++[]) (by simpa using hlen)
 have hlt:∀ x∈p,x.block<W.heap.size:=fun x hx=>hW'.lt x hx
 refine⟨_,rfl,lk (pa:=p) (pv:=[]) hW' (fun _ _ _=>?_) (fun sp hsp=>?_) (fun sp _=>?_) (by simp) hb (ok_one hres rfl (okWide_bool_mk htb true))⟩
 · rw[hfn,hres]
   exact trodAll_cons_mk (shut_bool htb true) trodAll_mk0
 · rw[hfn]
   simp only[Mu];exact YM hl hrows hA (fun x hx=>hb.same (hlt x hx)) hsp
 · rw[hfn,hvars]
   rfl
open Go.ChangeShapes
mutual
def CT.wf:(t:CT)→t.D→Prop
 |.int k,n=>(Lit.int k n).wf=true
 |.bool,_=>True
 |.str,s=>s.length≤maxLen
 |.ifc,_=>True
 |.sl r,l=>@List.length r.D l≤maxLen∧∀ x:r.D,@Membership.mem r.D (List r.D) inferInstance l x→RT.wf r x
def RT.wf:(r:RT)→r.D→Prop
 |.one t,x=>CT.wf t x
 |.cons t r,x=>CT.wf t x.1∧RT.wf r x.2
end
def AgX.wf:(l:List (Ql×CT))→AgX l→Prop
 |[],_=>True
 |[a],x=>a.2.wf x
 |a::b::r,x=>a.2.wf x.1∧AgX.wf (b::r) x.2
def HT.wf:(h:HT)→h.D→Prop
 |.one _ t,x=>t.wf x
 |.agg l,x=>AgX.wf l x
def TuX.wf:(l:List HT)→TuX l→Prop
 |[],_=>True
 |[a],x=>a.wf x
 |a::b::r,x=>a.wf x.1∧TuX.wf (b::r) x.2
def FO:List CT→RT
 |[]=>.one .bool
 |[a]=>.one a
 |a::b::r=>.cons a (FO (b::r))
def Ty.cts:Ty→List CT
 |.int k=>[.int k]
 |.bool=>[.bool]
 |.str=>[.str]
 |.sl t=>[.sl (FO t.cts)]
 |.unit=>[]
 |.pair a b=>a.cts++b.cts
def Ty.good:Ty→Bool
 |.sl t=>Nat.blt 0 t.w&&t.good
 |.pair a b=>a.good&&b.good
 |_=>true
def JV:Ty×Bool→HT
 |(ty,true)=>.agg (ty.cts.map fun t=>(.frz,t))
 |(ty,false)=>match ty.cts with|[c]=>.one .frz c|_=>.agg []
def RW:Ty×Bool→Bool
 |(ty,true)=>ty.good
 |(ty,false)=>ty.good&&ty.cts.length == 1
def DL:List CT→Type
 |[]=>Unit
 |a::r=>a.D×DL r
def DL.wf:(l:List CT)→DL l→Prop
 |[],_=>True
 |a::r,x=>a.wf x.1∧DL.wf r x.2
def DL.enc:(l:List CT)→DL l→List PV
 |[],_=>[]
 |a::r,x=>CT.enc a x.1::DL.enc r x.2
def DL.encF:(l:List CT)→DL l→List PV
 |[],_=>[]
 |a::r,x=>(CT.dv .frz a x.1).enc::DL.encF r x.2
def DL.app:(l m:List CT)→DL l→DL m→DL (l++m)
 |[],_,_,y=>y
 |_::l,m,x,y=>(x.1,DL.app l m x.2 y)
theorem DL.app_enc:∀ (l m:List CT) (x:DL l) (y:DL m),DL.enc (l++m) (DL.app l m x y)=DL.enc l x++DL.enc m y
 |[],_,_,_=>rfl
 | a::l,m,x,y=>by
   show CT.enc a x.1::DL.enc (l++m) (DL.app l m x.2 y)=CT.enc a x.1::(DL.enc l x.2++DL.enc m y)
   rw[DL.app_enc l m x.2 y]
theorem DL.app_encF:∀ (l m:List CT) (x:DL l) (y:DL m),DL.encF (l++m) (DL.app l m x y)=DL.encF l x++DL.encF m y
 |[],_,_,_=>rfl
 | a::l,m,x,y=>by
   show (CT.dv .frz a x.1).enc::DL.encF (l++m) (DL.app l m x.2 y)=(CT.dv .frz a x.1).enc::(DL.encF l x.2++DL.encF m y)
   rw[DL.app_encF l m x.2 y]
theorem DL.app_wf:∀ (l m:List CT) (x:DL l) (y:DL m),DL.wf l x→DL.wf m y→DL.wf (l++m) (DL.app l m x y)
 |[],_,_,_,_,h=>h
 |_::l,m,x,y,h,h'=>⟨h.1,DL.app_wf l m x.2 y h.2 h'⟩
theorem DL.len:∀ (l:List CT) (x:DL l),(DL.enc l x).length=l.length
 |[],_=>rfl
 |_::l,x=>by show _+1=_+1;rw[DL.len l x.2]
theorem DL.lenF:∀ (l:List CT) (x:DL l),(DL.encF l x).length=l.length
 |[],_=>rfl
 |_::l,x=>by show _+1=_+1;rw[DL.lenF l x.2]
def DL.rt:(l:List CT)→DL l→(FO l).D
 |[],_=>false
 |[_],x=>x.1
 |_::b::r,x=>(x.1,DL.rt (b::r) x.2)
theorem DL.rt_enc:∀ (l:List CT) (x:DL l),l≠[]→RT.enc (FO l) (DL.rt l x)=DL.enc l x
 |[],_,h=>absurd rfl h
 |[_],_,_=>rfl
 | a::b::r,x,_=>by
   show CT.enc a x.1::RT.enc (FO (b::r)) (DL.rt (b::r) x.2)=CT.enc a x.1::DL.enc (b::r) x.2
   rw[DL.rt_enc (b::r) x.2 (by simp)]
theorem DL.rt_wf:∀ (l:List CT) (x:DL l),l≠[]→DL.wf l x→RT.wf (FO l) (DL.rt l x)
 |[],_,h,_=>absurd rfl h
 |[_],_,_,h=>h.1
 |a::b::r,x,_,h=>⟨h.1,DL.rt_wf (b::r) x.2 (by simp) h.2⟩
def DL.ag:(l:List CT)→DL l→AgX (l.map fun t=>(Ql.frz,t))
 |[],_=>()
 |[_],x=>x.1
 |_::b::r,x=>(x.1,DL.ag (b::r) x.2)
theorem DL.ag_enc:∀ (l:List CT) (x:DL l),DV.encL (MX (l.map fun t=>(Ql.frz,t)) (DL.ag l x))=DL.encF l x
 |[],_=>rfl
 |[_],_=>rfl
 | a::b::r,x=>by
   show (CT.dv .frz a x.1).enc::DV.encL (MX ((b::r).map fun t=>(Ql.frz,t)) (DL.ag (b::r) x.2))=(CT.dv .frz a x.1).enc::DL.encF (b::r) x.2
   rw[DL.ag_enc (b::r) x.2]
theorem DL.ag_wf:∀ (l:List CT) (x:DL l),DL.wf l x→AgX.wf (l.map fun t=>(Ql.frz,t)) (DL.ag l x)
 |[],_,_=>trivial
 |[_],_,h=>h.1
 |a::b::r,x,h=>⟨h.1,DL.ag_wf (b::r) x.2 h.2⟩
theorem IH:∀ (t:Ty),t.cts.length=t.w
 |.int _|.bool|.str|.sl _|.unit=>rfl
 |.pair a b=>by simp only[Ty.cts,Ty.w,CD,IH a,IH b]
def ωro(σ:Ac):Nat→W:=fun l=>if l<σ.length then .frz else .none
theorem ωro_frz{σ:Ac}{l:Nat}{b:Blk}(h:σ[l]?=some b):ωro σ l= .frz:=by
 unfold ωro;rw[Ab (BT h)]
theorem QB:∀ (a b:List PV) (i:Nat),i<a.length→Aa (a++b) i=Aa a i
 |[],_,_,h=>by cases h
 |_::_,_,0,_=>rfl
 |_::a,b,i+1,h=>QB a b i (by simpa using h)
theorem Qu:∀ (a b:List PV) (i:Nat),Aa (a++b) (a.length+i)=Aa b i
 |[],_,_=>by simp
 | _::a,b,i=>by
   have:=Qu a b i
   simp only[Cf,AP,VR]
   exact this
theorem TS:∀ (a b:List V) (i:Nat),i<a.length→get (a++b) i=get a i
 |[],_,_,h=>by cases h
 |_::_,_,0,_=>rfl
 |_::a,b,i+1,h=>TS a b i (by simpa using h)
theorem TM:∀ (a b:List V) (i:Nat),get (a++b) (a.length+i)=get b i
 |[],_,_=>by simp
 | _::a,b,i=>by
   have:=TM a b i
   simp only[Cf,AP,VR]
   exact this
theorem TO:∀ (l:List V) (o n i:Nat),i<n→get ((l.drop o).take n) i=get l (o+i)
 |[],o,n,i,_=>by simp[get]
 |c::r,0,0,i,h=>by cases h
 |c::r,0,n+1,0,_=>rfl
 | c::r,0,n+1,i+1,h=>by
   have:=TO r 0 n i (by omega)
   simp only[Bn] at this
   simp only[HC,Wc,get,Bn]
   simpa using this
 | c::r,o+1,n,i,h=>by
   have:=TO r o n i h
   rw[List.drop_succ_cons,this,VR]
   rfl
theorem Z4{w:Nat}:∀ (es:List (List PV)) (i j:Nat),(∀ e∈es,e.length=w)→j<w→i<es.length→Aa es.flatten (i*w+j)=Aa (AH es i) j
 |[],i,_,_,_,h=>by cases h
 | e::r,0,j,hw,hj,_=>by
   have he:=hw e (Wo ..)
   rw[IK,Bn,Gg,QB _ _ _ (by omega)]
   rfl
 | e::r,i+1,j,hw,hj,h=>by
   have he:=hw e (Wo ..)
   rw[Gg,show (i+1)*w+j=e.length+(i*w+j) by rw[he,KK];omega,Qu]
   exact Z4 r i j (fun e h=>hw e (List.mem_cons_of_mem _ h)) hj (by simpa using h)
theorem bH {α:Type}(f:α→List PV):∀ (l:List α) (i:Nat) (h:i<l.length),AH (l.map f) i=f l[i]
 |[],_,h=>by cases h
 |_::_,0,_=>rfl
 |_::l,i+1,h=>bH f l i (by simpa using h)
theorem OI{σ:Ac}:∀ (ty:Ty) {cs:List V},ty.good=true→Sh σ ty cs→∃ x:DL ty.cts,DL.wf ty.cts x ∧
 (∀ i,RC σ (ωro σ) .fz (Aa (DL.enc ty.cts x) i) (get cs i))∧∀ i hd p,RC σ (ωro σ) (.at hd p) (Aa (DL.encF ty.cts x) i) (get cs i)
 | .int k,cs,_,⟨n,h,hw⟩=>by
   subst h;exact⟨(n,()),⟨hw,trivial⟩,fun i=>by cases i<;>first|exact .v _ _ rfl|exact .undef _ _,fun i hd p=>by cases i<;>first|exact .v _ _ rfl|exact .undef _ _⟩
 | .bool,cs,_,⟨b,h⟩=>by
   subst h;exact⟨(b,()),⟨trivial,trivial⟩,fun i=>by cases i<;>first|exact .v _ _ rfl|exact .undef _ _,fun i hd p=>by cases i<;>first|exact .v _ _ rfl|exact .undef _ _⟩
 | .str,cs,_,⟨s,h,hl⟩=>by
   subst h;exact⟨(s,()),⟨hl,trivial⟩,fun i=>by cases i<;>first|exact .v _ _ rfl|exact .undef _ _,fun i hd p=>by cases i<;>first|exact .v _ _ rfl|exact .undef _ _⟩
 | .unit,cs,_,h=>by
   have h:cs=[]:=h;subst h;exact⟨(),trivial,fun i=>.undef _ _,fun i hd p=>.undef _ _⟩
 | .pair a b,cs,hg,⟨xs,ys,h,h1,h2⟩=>by
   simp only[Ty.good,Ah] at hg;obtain⟨x,x1,x2,x3⟩:=OI a hg.1 h1;obtain⟨y,y1,y2,y3⟩:=OI b hg.2 h2;have hl:=h1.len;subst h;refine⟨DL.app _ _ x y,DL.app_wf _ _ x y x1 y1,fun i=>?_,fun i hd p=>?_⟩
   · simp only[Ty.cts];rw[DL.app_enc];by_cases hi:i<a.w
     · rw[QB _ _ _ (by rw[DL.len,IH];exact hi),TS _ _ _ (by rw[hl];exact hi)];exact x2 i
     · obtain⟨j,rfl⟩:=Nat.exists_eq_add_of_le (Nat.le_of_not_lt hi);have e1:=Qu (DL.enc a.cts x) (DL.enc b.cts y) j;have e2:=TM xs ys j;rw[DL.len,IH] at e1;rw[hl] at e2;rw[e1,e2];exact y2 j
   · simp only[Ty.cts];rw[DL.app_encF];by_cases hi:i<a.w
     · rw[QB _ _ _ (by rw[DL.lenF,IH];exact hi),TS _ _ _ (by rw[hl];exact hi)];exact x3 i hd p
     · obtain⟨j,rfl⟩:=Nat.exists_eq_add_of_le (Nat.le_of_not_lt hi);have e1:=Qu (DL.encF a.cts x) (DL.encF b.cts y) j;have e2:=TM xs ys j;rw[DL.lenF,IH] at e1;rw[hl] at e2;rw[e1,e2];exact y3 j hd p
 | .sl t,cs,hg,h=>by
   simp only[Ty.good,Ah] at hg;have hw0:0<t.w:=CF hg.1
   have hne:t.cts≠[]:=by intro e;have:=IH t;rw[e] at this;simp only[AO] at this;omega
   rcases h with h|⟨l,n,bs,h,hb,hbl,hn,he⟩
   · subst h;refine⟨(([]:List (FO t.cts).D),()),⟨⟨FI _,fun x hx=>by cases hx⟩,trivial⟩,fun i=>?_,fun i hd p=>?_⟩
     · cases i<;>first|exact .nil _ _|exact .undef _ _
     · cases i<;>first|exact .nil _ _|exact .undef _ _
   · subst h
     have ex:∀ i,∃ x:DL t.cts,i<n→DL.wf t.cts x∧(∀ k,RC σ (ωro σ) .fz (Aa (DL.enc t.cts x) k) (get ((bs.drop (i*t.w)).take t.w) k)):=by
      intro i;by_cases hi:i<n
      · obtain⟨x,h1,h2,_⟩:=OI t hg.2 (he i hi);exact⟨x,fun _=>⟨h1,h2⟩⟩
      · have h0:∀ l:List CT,Nonempty (DL l):=by
         intro l
         induction l with
         |nil=>exact⟨()⟩
         |cons a r ih=>obtain⟨y⟩:=ih;exact⟨(a.dflt,y)⟩
        obtain⟨y⟩:=h0 t.cts;exact⟨y,fun h=>absurd h hi⟩
     let f:Nat→DL t.cts:=fun i=>Classical.choose (ex i)
     have hf:∀ i,i<n→DL.wf t.cts (f i)∧∀ k,RC σ (ωro σ) .fz (Aa (DL.enc t.cts (f i)) k) (get ((bs.drop (i*t.w)).take t.w) k):=fun i hi=>Classical.choose_spec (ex i) hi
     let L:List (FO t.cts).D:=(List.range n).map fun i=>DL.rt t.cts (f i)
     have hL:L.length=n:=by simp[L]
     have hLw:∀ e∈L.map (RT.enc (FO t.cts)),e.length=t.w:=by
      intro e he;obtain⟨y,hy,rfl⟩:=List.mem_map.mp he;obtain⟨i,_,rfl⟩:=List.mem_map.mp hy;rw[DL.rt_enc _ _ hne,DL.len,IH]
     have hcell:∀ k,k<L.length*t.w→RC σ (ωro σ) .fz (Aa (L.map (RT.enc (FO t.cts))).flatten k) (get bs (0+k)):=by
      intro k hk
      have hdm:k / t.w*t.w+k % t.w=k:=by rw[SB];exact Sm k t.w
      have hmod:=IQ k hw0
      have hdiv:k / t.w<n:=by rw[hL] at hk;exact(Sp hw0).2 hk
      have e1:=Z4 (L.map (RT.enc (FO t.cts))) (k / t.w) (k % t.w) hLw hmod (by rw[AF,hL];exact hdiv);rw[hdm] at e1;rw[e1,bH _ _ _ (by rw[hL];exact hdiv),Bn];have e2:=TO bs (k / t.w*t.w) t.w (k % t.w) hmod;rw[hdm] at e2
      have e3:L[k / t.w]'(by rw[hL];exact hdiv)=DL.rt t.cts (f (k / t.w)):=by simp[L]
      rw[e3,DL.rt_enc _ _ hne,← e2];exact(hf _ hdiv).2 _
     have hwf:∀ x∈L,RT.wf (FO t.cts) x:=by
      intro x hx;obtain⟨i,hi,rfl⟩:=List.mem_map.mp hx;exact DL.rt_wf _ _ hne (hf i (List.mem_range.mp hi)).1
     have hle:0+(L.map (RT.enc (FO t.cts))).length*t.w≤bs.length:=by rw[AF,hL,hbl];omega
     refine⟨(L,()),⟨⟨by rw[hL];exact hn,hwf⟩,trivial⟩,fun i=>?_,fun i hd p=>?_⟩
     · cases i with
       |succ i=>exact .undef _ _
       |zero=>exact .sl _ _ _ _ _ _ _ hb (by simp) (ωro_frz hb) (fun e=>by cases e) (by rw[AF,hL]) hLw hle fun k hk=>hcell k (by rw[AF] at hk;exact hk)
     · cases i with
       |succ i=>exact .undef _ _
       |zero=>exact .sl _ _ _ _ _ _ _ hb (by simp) (ωro_frz hb) (fun _ e=>by rcases e with e|⟨_,_,e⟩<;>cases e) (by rw[AF,hL]) hLw hle fun k hk=>hcell k (by rw[AF] at hk;exact hk)
structure ArgD (σ:Ac) (v:PV) (u:V):Prop where
 rc:∀ hd p c,RC σ (ωro σ) (.at hd p) (v.fcell c) (u.fcell c)
 sh:AK v u
 nx:∀ c i pb tp,(v.fcell c).q≠some (.bor (.x i) pb tp)
theorem td{v:V}(h:v.cell=true):(∀ us,v≠.agg us)∧∀ us,v≠.tup us:=by
 constructor<;>rintro us rfl<;>cases h
theorem WN:∀ (l:List CT) (x:DL l) (i:Nat) (a:Hd) (pb:List Nat) (tp:Bool),(Aa (DL.encF l x) i).q≠some (.bor a pb tp)
 |[],_,_,_,_,_=>by simp[DL.encF,Aa,PV.q]
 |c::r,x,0,a,pb,tp=>by cases c<;>simp[DL.encF,Aa,CT.dv,DV.enc,PV.q]
 |_::r,x,i+1,a,pb,tp=>WN r x.2 i a pb tp
theorem bC{σ:Ac}{a:Ty×Bool}{u:V}(hg:RW a=true)(h:ArgOk σ a u):∃ x:(JV a).D,(JV a).wf x∧ArgD σ ((JV a).dv x).enc u:=by
 obtain⟨ty,b⟩:=a
 cases b with
 | true=>
   obtain⟨cs,rfl,hs,hc⟩:=h;obtain⟨x,h1,_,h3⟩:=OI ty hg hs;have hle:=hs.len;refine⟨DL.ag ty.cts x,DL.ag_wf _ _ h1,?_⟩
   have he:((JV (ty,true)).dv (DL.ag ty.cts x)).enc= .agg (DL.encF ty.cts x):=by
    show PV.agg _=PV.agg _;rw[DL.ag_enc]
   rw[he];refine⟨fun hd p c=>?_,⟨cs,rfl,by rw[hle,DL.lenF,IH]⟩,fun c i pb tp=>?_⟩
   · match c with
     |[]=>exact .undef _ _
     |[c]=>exact h3 c hd p
     |_::_::_=>exact .undef _ _
   · match c with
     |[]=>simp[PV.fcell,PV.q]
     |[c]=>exact WN _ _ _ _ _ _
     |_::_::_=>simp[PV.fcell,PV.q]
 | false =>
   obtain⟨hs,hc⟩:=h;simp only[RW,Ah,AW] at hg;obtain⟨x,h1,_,h3⟩:=OI ty hg.1 hs
   have key:∀ (l:List CT) (x:DL l),l.length=1→DL.wf l x→(∀ i hd p,RC σ (ωro σ) (.at hd p) (Aa (DL.encF l x) i) (get [u] i)) →
    ∃ y:(match l with|[c]=>HT.one .frz c|_=>HT.agg []).D,(match l with|[c]=>HT.one .frz c|_=>HT.agg []).wf y∧ArgD σ ((match l with|[c]=>HT.one .frz c|_=>HT.agg []).dv y).enc u:=by
    intro l x hl hwf h3
    match l,x,hl,hwf,h3 with
    | [c],x,_,hwf,h3=>
      have hsc:=td hc
      have hnf:∀ p,p≠[0]→((CT.dv .frz c x.1).enc).fcell p= .fl .undef:=by
       intro p hp;cases c<;>(match p with|[]=>rfl|[0]=>exact absurd rfl hp|(_+1)::_=>rfl|0::_::_=>rfl)
      have hf0:((CT.dv .frz c x.1).enc).fcell [0]=(CT.dv .frz c x.1).enc:=by cases c<;>rfl
      have hu0:u.fcell [0]=u:=by cases u<;>first|rfl|exact absurd rfl (hsc.1 _)|exact absurd rfl (hsc.2 _)
      refine⟨x.1,hwf.1,⟨fun hd p q=>?_,?_,fun q i pb tp=>?_⟩⟩
      · by_cases hq:q=[0]
        · subst hq;show RC σ (ωro σ) (.at hd p) (((CT.dv .frz c x.1).enc).fcell [0]) (u.fcell [0]);rw[hf0,hu0];exact h3 0 hd p
        · show RC σ (ωro σ) (.at hd p) (((CT.dv .frz c x.1).enc).fcell q) (u.fcell q);rw[hnf q hq];exact .undef _ _
      · show AK ((CT.dv .frz c x.1).enc) u;cases c<;>exact hsc
      · show (((CT.dv .frz c x.1).enc).fcell q).q≠_;by_cases hq:q=[0]
        · subst hq;rw[hf0];exact WN [c] x 0 _ _ _
        · rw[hnf q hq];simp[PV.q]
   exact key ty.cts x hg.2 h1 h3
theorem Uq{σ:Ac}:∀ {tys:List (Ty×Bool)} {us:List V},tys.all RW=true→Mz σ tys us→∃ x:TuX (tys.map JV),TuX.wf _ x∧us.length=tys.length ∧
 ∀ t,ArgD σ (Aa (DV.encL (Em (tys.map JV) x)) t) (get us t)
 |[],[],_,_=>⟨(),trivial,rfl,fun t=>⟨fun hd p c=>by
  have:(PV.fl V.undef).fcell c= .fl .undef:=by match c with|[]=>rfl|[0]=>rfl|(_+1)::_=>rfl|0::_::_=>rfl
  show RC σ (ωro σ) (.at hd p) ((PV.fl V.undef).fcell c) _
  rw[this];exact .undef _ _,trivial,fun c i pb tp=>by
  have:(PV.fl V.undef).fcell c= .fl .undef:=by match c with|[]=>rfl|[0]=>rfl|(_+1)::_=>rfl|0::_::_=>rfl
  show ((PV.fl V.undef).fcell c).q≠_
  rw[this];simp[PV.q]⟩⟩
 | [a],[u],hg,h=>by
   simp only[EI,Sd,IX] at hg;obtain⟨x,h1,h2⟩:=bC hg h.1;obtain⟨_,_,_,h4⟩:=Uq (σ:=σ) (tys:=[]) (us:=[]) rfl trivial;refine⟨x,h1,rfl,fun t=>?_⟩
   cases t with
   |zero=>exact h2
   |succ t=>exact h4 t
 | a::b::r,u::us,hg,h=>by
   rw[EI,Ah] at hg;obtain⟨x,h1,h2⟩:=bC hg.1 h.1;obtain⟨y,h3,h4,h5⟩:=Uq (tys:=b::r) (us:=us) hg.2 h.2;refine⟨(x,y),⟨h1,h3⟩,by simp[h4],fun t=>?_⟩
   cases t with
   |zero=>exact h2
   |succ t=>exact h5 t
 |[_],_::_::_,_,h=>h.2.elim
 |[_],[],_,h=>h.elim
 |_::_::_,[],_,h=>h.elim
 |[],_::_,_,h=>h.elim
theorem vO{σ:Ac}{as:List PV}{us:List V}(hl:as.length=us.length)(h:∀ t,ArgD σ (Aa as t) (get us t)):RS σ (ωro σ) (ωro σ) (fun _=>0) ⟨as,[],[]⟩ ⟨us,[],σ⟩ X0:=by
 have no:∀ l hd p,ωro σ l≠.own hd p:=by intro l hd p e;unfold ωro at e;split at e<;>cases e
 have nop:∀ l i,ωro σ l≠.ptr i:=by intro l i e;unfold ωro at e;split at e<;>cases e
 have hund:∀ c,(PV.fl V.undef).fcell c= .fl .undef:=by
  intro c;match c with|[]=>rfl|[0]=>rfl|(_+1)::_=>rfl|0::_::_=>rfl
 have cat:∀ (c:List Nat) (l:List V),(AY [] l c).1= .fl .undef:=by
  intro c l;match c with|[]=>rfl|[_]=>rfl|_::_::_=>rfl
 refine⟨⟨fun hd p=>?_,fun l l' hd p e=>absurd e (no l hd p),fun l l' i e=>absurd e (nop l i),fun l e=>?_,fun l e=>?_⟩,fun t=>(h t).sh,fun i=>trivial,hl,rfl,fun i=>rfl,fun i c=>rfl,fun i c=>rfl,fun i hi=>(by cases hi),fun l i e=>absurd e (nop l i),fun l i p e=>absurd e (no l _ p),⟨AB _,fun l _ _=>⟨rfl,rfl⟩,fun l hlt e=>(by rw[e];simp),fun l i e=>e⟩,fun hd p i pb tp=>?_⟩
 · cases hd with
   |s t=>exact(h t).rc _ _ _
   |b i=>show RC σ (ωro σ) _ (AY [] (AE [] i) p).1 _;rw[cat];exact .undef _ _
   |h i=>show RC σ (ωro σ) _ (AY [] _ p).1 _;rw[cat];exact .undef _ _
   |x i=>show RC σ (ωro σ) _ ((PV.fl V.undef).fcell p) _;rw[hund];exact .undef _ _
 · rcases e with⟨hd,p,e⟩|⟨i,e⟩
   · exact absurd e (no l hd p)
   · exact absurd e (nop l i)
 · unfold ωro at e;split at e
   · assumption
   · cases e
 · cases hd with
   |s t=>exact(h t).nx p i pb tp
   |b j=>show (AY [] (AE [] j) p).1.q≠_;rw[cat];simp[PV.q]
   |h j=>show (AY [] _ p).1.q≠_;rw[cat];simp[PV.q]
   |x j=>show ((PV.fl V.undef).fcell p).q≠_;rw[hund];simp[PV.q]
theorem uQ {f:DFun} {tys:List (Ty×Bool)} {hs:List HT} {s:Be} (hsp:Gf s (Mk f.er)) (hhs:tys.map JV=hs) (hg:tys.all RW=true) (ho:AllD f.body.obs)
 (hst:MY f hs (.one (.one .own .bool))=true) (hc:∀ x,MP f hs (.one (.one .own .bool)) x=true)
 (law:∀ x:TuX hs,TuX.wf hs x→Li f hs (.one (.one .own .bool)) x∧Lo f hs (.one (.one .own .bool)) x=true) (σ:Ac) (us:List V) (hro:DG σ) (ha:Mz σ tys us):s us σ fun r _=>r= .bool true:=by
 subst hhs
 obtain⟨x,h1,h2,h3⟩:=Uq hg ha
 obtain⟨l1,l2⟩:=law x h1
 have hlen:(DV.encL (Em (tys.map JV) x)).length=us.length:=by rw[E7,Rn,AF,h2]
 refine hsp σ (ωro σ) (fun _=>0) _ us [] (fun r _=>r= .fl (.bool true)) _ (vO hlen h3) (fun l hd p e=>?_) ?_ fun u h' r H' ω' ρ' hQ R' _=>?_
 · exfalso;unfold ωro at e;split at e<;>cases e
 · refine aS ho hst x (hc x) l1 fun H=>?_
   rw[l2];rfl
 · subst hQ
   have r:=R'.core.rc (.x 0) [0];have hs:=R'.shx 0;have r:RC h' ω' (.at (.x 0) [0]) (.fl (.bool true)) (u.fcell [0]):=r
   have hu:u.fcell [0]=u:=by
    have hs:AK (.fl (.bool true)) u:=hs
    cases u<;>first|rfl|exact absurd rfl (hs.1 _)|exact absurd rfl (hs.2 _)
   rw[hu] at r;cases r;rfl
theorem vq(x:V)(r:List V):get (x::r) 0=x:=id rfl
theorem vU(x:V)(r:List V)(n:Nat):get (x::r) (n+1)=get r n:=id rfl
theorem wx(s:List V)(n:Nat):(Opnd.t n).ev s=get s n:=id rfl
theorem wh(s:List V)(v:V):(Opnd.c v).ev s=v:=id rfl
def rk(pu:Bool)(res:List ARes)(h0:Ac)(Q:V→Ac→Prop):BN:=SS ⟨0,0,0,pu,res,.skip⟩ h0 Q
theorem oB{np ns nb:Nat}{pu:Bool}{res:List ARes}{body:ACode}{args:List V}{h:Ac}{Q:V→Ac→Prop}(hl:args.length=np)(hb:Bs body (rk pu res h Q) ⟨args++Gn (ns-np),FW nb,h⟩) :
 Mq ⟨np,ns,nb,pu,res,body⟩ args h Q:=⟨hl,hb⟩
theorem ru(k:BN)(st:St):Bs .skip k st=k .normal st:=rfl
theorem nH(o:List AOper)(k:BN)(st:St):Bs (.region o) k st=Bl o (k .normal) st:=rfl
theorem tR(a b:ACode)(k:BN)(st:St):Bs (.seq a b) k st=Bs a (EX (Bs b k) k) st:=rfl
theorem pV(i:Nat)(a:ACode)(k:BN)(st:St):Bs (.block i a) k st=Bs a (GZ i k) st:=rfl
theorem qW(i:Nat)(k:BN)(st:St):Bs (.exit i) k st=k (.exit i) st:=rfl
theorem sW(k:BN)(st:St):Bs .ret k st=k .ret st:=rfl
theorem r7{c:Opnd}{a b:ACode}{k:BN}{st:St}(h:c.ev st.sl= .bool true):Bs (.cond c a b) k st=Bs a k st:=by simp only[Bs,h,AA]
theorem oh{c:Opnd}{a b:ACode}{k:BN}{st:St}(h:c.ev st.sl= .bool false):Bs (.cond c a b) k st=Bs b k st:=by simp only[Bs,h];rfl
theorem lY(n:St→Prop)(k:BN)(st:St):EX n k .normal st=n st:=rfl
theorem sg(n:St→Prop)(k:BN)(st:St):EX n k .ret st=k .ret st:=rfl
theorem pK(n:St→Prop)(k:BN)(i:Nat)(st:St):EX n k (.exit i) st=k (.exit i) st:=rfl
theorem kW(i:Nat)(k:BN)(st:St):GZ i k .normal st=k .normal st:=rfl
theorem nN(i:Nat)(k:BN)(st:St):GZ i k .ret st=k .ret st:=rfl
theorem mH(i j:Nat)(k:BN)(st:St):GZ i k (.exit j) st=if j=i then k .normal st else k (.exit j) st:=rfl
theorem su(n:St→Prop)(k:BN):EX n k .normal=n:=rfl
theorem nt(i:Nat)(k:BN):GZ i k .normal=k .normal:=rfl
theorem qy(k:St→Prop)(st:St):Bl [] k st=k st:=rfl
theorem qF{i:Nat}{d:Option Nat}{o:AOp}{a:List Nat}{r:List AOper}{k:St→Prop}{st:St}:Bl (⟨i,d,o,none,a⟩::r) k st=Av o d (Bl r k) st:=rfl
theorem tL{i:Nat}{d:Option Nat}{o:AOp}{g:Nat}{w:Bool}{a:List Nat}{r:List AOper}{k:St→Prop}{st:St}(h:get st.sl g= .bool w):Bl (⟨i,d,o,some (g,w),a⟩::r) k st=Av o d (Bl r k) st:=by
 simp only[Bl,BG,h,AA]
theorem aZ{i:Nat}{d:Option Nat}{o:AOp}{g:Nat}{w b:Bool}{a:List Nat}{r:List AOper}{k:St→Prop}{st:St}(h:get st.sl g= .bool b)(hn:b≠w):Bl (⟨i,d,o,some (g,w),a⟩::r) k st=Bl r k (st.put d (.tup [])):=by
 simp only[Bl,BG,h,Ad hn]
theorem qj{i:Nat}{d:Option Nat}{o:AOp}{g:Nat}{a:List Nat}{r:List AOper}{k:St→Prop}{st:St}(h:get st.sl g= .bool false):Bl (⟨i,d,o,some (g,true),a⟩::r) k st=Bl r k (st.put d (.tup [])):=aZ h (by decide)
theorem pZ{i:Nat}{d:Option Nat}{o:AOp}{g:Nat}{a:List Nat}{r:List AOper}{k:St→Prop}{st:St}(h:get st.sl g= .bool true):Bl (⟨i,d,o,some (g,false),a⟩::r) k st=Bl r k (st.put d (.tup [])):=aZ h (by decide)
theorem q6{i:Nat}{d:Option Nat}{o:AOp}{g:Nat}{w:Bool}{a:List Nat}{r:List AOper}{k:St→Prop}{st:St}(h:get st.sl g= .tup []):Bl (⟨i,d,o,some (g,w),a⟩::r) k st=Bl r k (st.put d (.tup [])):=by
 simp only[Bl,BG,h]
theorem uL(pu:Bool)(res:List ARes)(h0:Ac)(Q:V→Ac→Prop)(st:St):rk pu res h0 Q .ret st=(match D2 st res with
 |some v=>if pu then v.flat2=true∧st.hp.take h0.length=h0∧Q v h0 else Q v st.hp
 |none=>False):=rfl
theorem pD(pu:Bool)(res:List ARes)(h0:Ac)(Q:V→Ac→Prop)(st:St):rk pu res h0 Q .normal st=(match D2 st res with
 |some v=>if pu then v.flat2=true∧st.hp.take h0.length=h0∧Q v h0 else Q v st.hp
 |none=>False):=rfl
def Lj{α:Type}(_:α):Type:=Unit
def D3{α:Type}(a:α):Lj a:=()
def oV(o:Option V)(f:V→Prop)(_:Lj f):Prop:=match o with
 |some v=>f v
 |none=>False
theorem sM(v:V)(f:V→Prop)(t:Lj f):oV (some v) f t=f v:=rfl
theorem tw(f:V→Prop)(t:Lj f):oV none f t=False:=rfl
def oS(o:Option (V×List (List V)×Ac))(s:List V)(d:Option Nat)(k:St→Prop)(_:Lj k):Prop:=match o with
 |some (v,bx,hp)=>k (St.put ⟨s,bx,hp⟩ d v)
 |none=>False
theorem ub(v:V)(bx:List (List V))(hp:Ac)(s:List V)(d:Option Nat)(k:St→Prop)(t:Lj k):oS (some (v,bx,hp)) s d k t=k (St.put ⟨s,bx,hp⟩ d v):=rfl
@[congr] theorem wJ {c:ACode} {k:BN} {st st':St} (h:st=st'):Bs c k st=Bs c k st':=by rw[h]
@[congr] theorem wH {o:List AOper} {k:St→Prop} {st st':St} (h:st=st'):Bl o k st=Bl o k st':=by rw[h]
@[congr] theorem wK {o:AOp} {d:Option Nat} {k:St→Prop} {st st':St} (h:st=st'):Av o d k st=Av o d k st':=by rw[h]
@[congr] theorem wI {n:St→Prop} {k:BN} {e e':AExit} {st st':St} (he:e=e') (h:st=st'):EX n k e st=EX n k e' st':=by rw[he,h]
@[congr] theorem wD {i:Nat} {k:BN} {e e':AExit} {st st':St} (he:e=e') (h:st=st'):GZ i k e st=GZ i k e' st':=by rw[he,h]
@[congr] theorem wL {pu:Bool} {res:List ARes} {h0:Ac} {Q:V→Ac→Prop} {e e':AExit} {st st':St} (he:e=e') (h:st=st'):rk pu res h0 Q e st=rk pu res h0 Q e' st':=by rw[he,h]
def dw(k:IntKind):V→Option V
 |.int _ n=>some (.int k (k.wrap n))
 |_=>none
def Vb(off:Nat):V→Option V
 |.box i o=>some (.box i (o+off))
 |.ptr l o=>some (.ptr l (o+off))
 |_=>none
def ct(off:Nat)(n:Option Nat):V→Option V
 |.agg cs=>if off+n.getD 1≤cs.length then Cq n ((cs.drop off).take (n.getD 1)) else none
 |_=>none
def bw(w:Nat):V→V→Option V
 |.slice l o n,.int _ j=>if 0≤j∧j<n then some (.ptr l (o+j.toNat*w)) else none
 |_,_=>none
def SG:V→Option V
 |.nils=>some (.int .i64 0)
 |.slice _ _ n=>some (.int .i64 n)
 |_=>none
def Og(i:Nat):V→Option V
 |.tup vs=>vs[i]?
 |_=>none
def cd(bx:List (List V))(i:Nat)(n:Option Nat):V→Option V
 |.box j o=>if i=j∧o+n.getD 1≤(AE bx i).length then Cq n (((AE bx i).drop o).take (n.getD 1)) else none
 |_=>none
def RH(hp:Ac)(n:Option Nat):V→Option V
 |.ptr l o=>(rd hp l o (n.getD 1)).bind fun cs=>Cq n cs
 |_=>none
def Js(bx:List (List V))(hp:Ac)(n:Nat)(a x:V):Option (V×List (List V)×Ac):=match a with
 |.ptr l o=>if x.cells.length=n∧x.cells.all V.cell then (wr hp l o x.cells).bind fun h=>some (.undef,bx,h) else none
 |_=>none
def Wh(bx:List (List V))(hp:Ac)(i n:Nat)(x:V):Option (V×List (List V)×Ac):=
 if i<bx.length∧x.cells.length=n∧x.cells.all V.cell then some (.box i 0,Cx bx i x.cells,hp) else none
def vI(f:Be)(args:List V)(d:Option Nat)(k:St→Prop)(st:St)(_:Lj k):Prop:=f args st.hp fun r h=>k (St.put { st with hp:=h } d r)
theorem Vd{o:Option V}{k:St→Prop}{st:St}{d:Option Nat} :
 (match o.bind (fun v=>(some (v,st.bx,st.hp):Option (V×List (List V)×Ac))) with
 |some (v,bx,hp)=>k (St.put { sl:=st.sl,bx,hp } d v)
 |none=>False)=oV o (fun v=>k (st.put d v)) (D3 _):=by
 cases o<;>rfl
theorem aK{o:Option (V×List (List V)×Ac)}{s:List V}{k:St→Prop}{d:Option Nat} :
 (match o with
 |some (v,bx,hp)=>k (St.put { sl:=s,bx,hp } d v)
 |none=>False)=oS o s d k (D3 k):=by
 cases o<;>rfl
theorem um{c:Prop}{_:Decidable c}{v:V}{k:St→Prop}{st:St}{d:Option Nat} :
 (match (if c then some (v,st.bx,st.hp) else (none:Option (V×List (List V)×Ac))) with
 |some (v,bx,hp)=>k (St.put { sl:=st.sl,bx,hp } d v)
 |none=>False)=oV (if c then some v else none) (fun v=>k (st.put d v)) (D3 _):=by
 by_cases h:c<;>simp only[h,AA,AL]<;>rfl
theorem cr {c:Prop}{_:Decidable c}{o:Option V}{k:St→Prop}{st:St}{d:Option Nat} :
 (match (if c then o.bind (fun v=>(some (v,st.bx,st.hp):Option (V×List (List V)×Ac))) else none) with
 |some (v,bx,hp)=>k (St.put { sl:=st.sl,bx,hp } d v)
 |none=>False)=oV (if c then o else none) (fun v=>k (st.put d v)) (D3 _):=by
 by_cases h:c<;>simp only[h,AA,AL]
 · cases o<;>rfl
 · rfl
theorem bind_some{α:Type}(o:Option α):(o.bind fun x=>some x)=o:=by cases o<;>rfl
section
variable {d:Option Nat} {k:St→Prop} {st:St}
theorem uD(x:Opnd):Av (.mv x) d k st=k (st.put d (x.ev st.sl)):=rfl
theorem kR{c a b:Opnd}(h:c.ev st.sl= .bool true):Av (.pick c a b) d k st=k (st.put d (a.ev st.sl)):=by simp only[Av,Ae,h];rfl
theorem kv{c a b:Opnd}(h:c.ev st.sl= .bool false):Av (.pick c a b) d k st=k (st.put d (b.ev st.sl)):=by simp only[Av,Ae,h];rfl
theorem sY(op:BinOp)(x y:Opnd):Av (.bin op x y) d k st=oV (B0 op (x.ev st.sl) (y.ev st.sl)) (fun v=>k (st.put d v)) (D3 _):=Vd
theorem uw(op:UnOp)(x:Opnd):Av (.un op x) d k st=oV (G7 op (x.ev st.sl)) (fun v=>k (st.put d v)) (D3 _):=Vd
theorem qG(q:IntKind)(x:Opnd):Av (.conv q x) d k st=oV (dw q (x.ev st.sl)) (fun v=>k (st.put d v)) (D3 _):=by simp only[Av,Ae];cases x.ev st.sl<;>rfl
theorem nC(off:Nat)(x:Opnd):Av (.fieldA off x) d k st=oV (Vb off (x.ev st.sl)) (fun v=>k (st.put d v)) (D3 _):=by simp only[Av,Ae];cases x.ev st.sl<;>rfl
theorem oC(off:Nat)(n:Option Nat)(x:Opnd):Av (.field off n x) d k st=oV (ct off n (x.ev st.sl)) (fun v=>k (st.put d v)) (D3 _):=by
 simp only[Av,Ae]
 cases x.ev st.sl<;>try rfl
 exact cr
theorem m0(w:Nat)(x i:Opnd):Av (.indexA w x i) d k st=oV (bw w (x.ev st.sl) (i.ev st.sl)) (fun v=>k (st.put d v)) (D3 _):=by
 simp only[Av,Ae]
 cases x.ev st.sl<;>try rfl
 cases i.ev st.sl<;>try rfl
 exact um
theorem th(x:Opnd):Av (.len x) d k st=oV (SG (x.ev st.sl)) (fun v=>k (st.put d v)) (D3 _):=by simp only[Av,Ae];cases x.ev st.sl<;>rfl
theorem mu(x:Opnd)(i:Nat):Av (.extract x i) d k st=oV (Og i (x.ev st.sl)) (fun v=>k (st.put d v)) (D3 _):=by
 simp only[Av,Ae]
 cases x.ev st.sl<;>try rfl
 rename_i vs;simp only[Og];cases vs[i]?<;>rfl
theorem qa(i:Nat)(n:Option Nat)(a:Opnd):Av (.loadB i n a) d k st=oV (cd st.bx i n (a.ev st.sl)) (fun v=>k (st.put d v)) (D3 _):=by
 simp only[Av,Ae]
 cases a.ev st.sl<;>try rfl
 exact cr
theorem pP(n:Option Nat)(a:Opnd):Av (.loadH n a) d k st=oV (RH st.hp n (a.ev st.sl)) (fun v=>k (st.put d v)) (D3 _):=by
 simp only[Av,Ae]
 cases a.ev st.sl<;>try rfl
 simp only[RH];rename_i l o
 cases rd st.hp l o (n.getD 1)<;>try rfl
 exact Vd
theorem nJ(n:Nat)(a x:Opnd):Av (.storeH n a x) d k st=oS (Js st.bx st.hp n (a.ev st.sl) (x.ev st.sl)) st.sl d k (D3 k):=by
 simp only[Av,Ae,Js]
 cases a.ev st.sl<;>first|rfl|exact aK
theorem rj(i n:Nat)(x:Opnd):Av (.boxB i n x) d k st=oS (Wh st.bx st.hp i n (x.ev st.sl)) (clearBox i st.sl) d k (D3 k):=by
 simp only[Av,Ae,Wh];exact aK
theorem rR(f:Be)(args:List Opnd):Av (.call f args) d k st=((args.map (·.ev st.sl)).all V.ok1=true∧vI f (args.map (·.ev st.sl)) d k st (D3 k)):=rfl
end
section
variable {k:IntKind}
theorem oI(q:IntKind)(n:Int):dw q (.int k n)=some (.int q (q.wrap n)):=rfl
theorem lB(off i o:Nat):Vb off (.box i o)=some (.box i (o+off)):=rfl
theorem lG(off l o:Nat):Vb off (.ptr l o)=some (.ptr l (o+off)):=rfl
theorem mS(off:Nat)(n:Option Nat)(cs:List V):ct off n (.agg cs)=if off+n.getD 1≤cs.length then Cq n ((cs.drop off).take (n.getD 1)) else none:=rfl
theorem nh:SG .nils=some (.int .i64 0):=rfl
theorem qC(l o n:Nat):SG (.slice l o n)=some (.int .i64 n):=rfl
theorem mN(v:V)(vs:List V):Og 0 (.tup (v::vs))=some v:=rfl
theorem mj(i:Nat)(v:V)(vs:List V):Og (i+1) (.tup (v::vs))=Og i (.tup vs):=rfl
theorem nV(bx:List (List V))(i:Nat)(n:Option Nat)(j o:Nat):cd bx i n (.box j o)=if i=j∧o+n.getD 1≤(AE bx i).length then Cq n (((AE bx i).drop o).take (n.getD 1)) else none:=rfl
theorem oe(a b:Int):B0 .add (.int k a) (.int k b)=some (.int k (k.wrap (a+b))):=by simp[B0,De]
theorem oY(a b:Int):B0 .sub (.int k a) (.int k b)=some (.int k (k.wrap (a-b))):=by simp[B0,De]
theorem pC(a b:Int):B0 .mul (.int k a) (.int k b)=some (.int k (k.wrap (a*b))):=by simp[B0,De]
theorem oZ(a b:Int):B0 .rem (.int k a) (.int k b)=if b=0 then none else some (.int k (a.tmod b)):=by simp[B0,De]
theorem qe(a b:Int):B0 .eql (.int k a) (.int k b)=some (.bool (a == b)):=by simp[B0,De]
theorem pT(a b:Int):B0 .neq (.int k a) (.int k b)=some (.bool (a != b)):=by simp[B0,De]
theorem pz(a b:Int):B0 .lss (.int k a) (.int k b)=some (.bool (decide (a<b))):=by simp[B0,De]
theorem oL(a b:Int):B0 .leq (.int k a) (.int k b)=some (.bool (decide (a≤b))):=by simp[B0,De]
theorem ql(a b:Int):B0 .gtr (.int k a) (.int k b)=some (.bool (decide (a > b))):=by simp[B0,De]
theorem pG(a b:Int):B0 .geq (.int k a) (.int k b)=some (.bool (decide (a≥b))):=by simp[B0,De]
theorem qB(b:Bool):G7 .not (.bool b)=some (.bool (!b)):=rfl
theorem r6(n:Int):G7 .neg (.int k n)=some (.int k (k.wrap (0-n))):=rfl
theorem lL(d:Nat):Dk d none=some d:=rfl
theorem nE(d:Nat)(i:Int):Dk d (some (.int k i))=if 0≤i then some i.toNat else none:=rfl
theorem nK(n:Nat)(cs:List V):Cq (some n) cs=some (.agg cs):=rfl
theorem nR(v:V):Cq none [v]=some v:=rfl
end
theorem V.cell_undef:V.cell V.undef=false:=rfl
theorem V.cells_undef:V.cells V.undef=[V.undef]:=rfl
theorem V.ok1_undef:V.ok1 V.undef=false:=rfl
theorem V.flat_undef:V.flat V.undef=false:=rfl
theorem V.flat1_undef:V.flat1 V.undef=false:=rfl
theorem V.flat2_undef:V.flat2 V.undef=false:=rfl
theorem V.isBox_undef(i:Nat):V.isBox i V.undef=false:=rfl
theorem V.cell_bool(b:Bool):V.cell (V.bool b)=true:=rfl
theorem V.cells_bool(b:Bool):V.cells (V.bool b)=[(V.bool b)]:=rfl
theorem V.ok1_bool(b:Bool):V.ok1 (V.bool b)=true:=rfl
theorem V.flat_bool(b:Bool):V.flat (V.bool b)=true:=rfl
theorem V.flat1_bool(b:Bool):V.flat1 (V.bool b)=true:=rfl
theorem V.flat2_bool(b:Bool):V.flat2 (V.bool b)=true:=rfl
theorem V.isBox_bool(i:Nat)(b:Bool):V.isBox i (V.bool b)=false:=rfl
theorem V.cell_int(k:IntKind)(n:Int):V.cell (V.int k n)=true:=rfl
theorem V.cells_int(k:IntKind)(n:Int):V.cells (V.int k n)=[(V.int k n)]:=rfl
theorem V.ok1_int(k:IntKind)(n:Int):V.ok1 (V.int k n)=true:=rfl
theorem V.flat_int(k:IntKind)(n:Int):V.flat (V.int k n)=true:=rfl
theorem V.flat1_int(k:IntKind)(n:Int):V.flat1 (V.int k n)=true:=rfl
theorem V.flat2_int(k:IntKind)(n:Int):V.flat2 (V.int k n)=true:=rfl
theorem V.isBox_int(i:Nat)(k:IntKind)(n:Int):V.isBox i (V.int k n)=false:=rfl
theorem V.cell_str(s:List UInt8):V.cell (V.str s)=true:=rfl
theorem V.cells_str(s:List UInt8):V.cells (V.str s)=[(V.str s)]:=rfl
theorem V.ok1_str(s:List UInt8):V.ok1 (V.str s)=true:=rfl
theorem V.flat_str(s:List UInt8):V.flat (V.str s)=true:=rfl
theorem V.flat1_str(s:List UInt8):V.flat1 (V.str s)=true:=rfl
theorem V.flat2_str(s:List UInt8):V.flat2 (V.str s)=true:=rfl
theorem V.isBox_str(i:Nat)(s:List UInt8):V.isBox i (V.str s)=false:=rfl
theorem V.cell_nils:V.cell V.nils=true:=rfl
theorem V.cells_nils:V.cells V.nils=[V.nils]:=rfl
theorem V.ok1_nils:V.ok1 V.nils=true:=rfl
theorem V.flat_nils:V.flat V.nils=true:=rfl
theorem V.flat1_nils:V.flat1 V.nils=true:=rfl
theorem V.flat2_nils:V.flat2 V.nils=true:=rfl
theorem V.isBox_nils(i:Nat):V.isBox i V.nils=false:=rfl
theorem V.cell_slice(l o n:Nat):V.cell (V.slice l o n)=true:=rfl
theorem V.cells_slice(l o n:Nat):V.cells (V.slice l o n)=[(V.slice l o n)]:=rfl
theorem V.ok1_slice(l o n:Nat):V.ok1 (V.slice l o n)=true:=rfl
theorem V.flat_slice(l o n:Nat):V.flat (V.slice l o n)=false:=rfl
theorem V.flat1_slice(l o n:Nat):V.flat1 (V.slice l o n)=false:=rfl
theorem V.flat2_slice(l o n:Nat):V.flat2 (V.slice l o n)=false:=rfl
theorem V.isBox_slice(i:Nat)(l o n:Nat):V.isBox i (V.slice l o n)=false:=rfl
theorem V.cell_box(j o:Nat):V.cell (V.box j o)=false:=rfl
theorem V.cells_box(j o:Nat):V.cells (V.box j o)=[(V.box j o)]:=rfl
theorem V.ok1_box(j o:Nat):V.ok1 (V.box j o)=false:=rfl
theorem V.flat_box(j o:Nat):V.flat (V.box j o)=false:=rfl
theorem V.flat1_box(j o:Nat):V.flat1 (V.box j o)=false:=rfl
theorem V.flat2_box(j o:Nat):V.flat2 (V.box j o)=false:=rfl
theorem V.isBox_box(i:Nat)(j o:Nat):V.isBox i (V.box j o)=(i == j):=rfl
theorem V.cell_ptr(l o:Nat):V.cell (V.ptr l o)=true:=rfl
theorem V.cells_ptr(l o:Nat):V.cells (V.ptr l o)=[(V.ptr l o)]:=rfl
theorem V.ok1_ptr(l o:Nat):V.ok1 (V.ptr l o)=true:=rfl
theorem V.flat_ptr(l o:Nat):V.flat (V.ptr l o)=false:=rfl
theorem V.flat1_ptr(l o:Nat):V.flat1 (V.ptr l o)=false:=rfl
theorem V.flat2_ptr(l o:Nat):V.flat2 (V.ptr l o)=false:=rfl
theorem V.isBox_ptr(i:Nat)(l o:Nat):V.isBox i (V.ptr l o)=false:=rfl
theorem V.cell_ifc(b:Bool):V.cell (V.ifc b)=true:=rfl
theorem V.cells_ifc(b:Bool):V.cells (V.ifc b)=[(V.ifc b)]:=rfl
theorem V.ok1_ifc(b:Bool):V.ok1 (V.ifc b)=true:=rfl
theorem V.flat_ifc(b:Bool):V.flat (V.ifc b)=true:=rfl
theorem V.flat1_ifc(b:Bool):V.flat1 (V.ifc b)=true:=rfl
theorem V.flat2_ifc(b:Bool):V.flat2 (V.ifc b)=true:=rfl
theorem V.isBox_ifc(i:Nat)(b:Bool):V.isBox i (V.ifc b)=false:=rfl
theorem V.cell_agg(cs:List V):V.cell (V.agg cs)=false:=rfl
theorem V.cells_agg(cs:List V):V.cells (V.agg cs)=cs:=rfl
theorem V.ok1_agg(cs:List V):V.ok1 (V.agg cs)=cs.all V.cell:=rfl
theorem V.flat_agg(cs:List V):V.flat (V.agg cs)=false:=rfl
theorem V.flat1_agg(cs:List V):V.flat1 (V.agg cs)=cs.all V.flat:=rfl
theorem V.flat2_agg(cs:List V):V.flat2 (V.agg cs)=cs.all V.flat:=rfl
theorem V.isBox_agg(i:Nat)(cs:List V):V.isBox i (V.agg cs)=false:=rfl
theorem V.cell_tup(cs:List V):V.cell (V.tup cs)=false:=rfl
theorem V.cells_tup(cs:List V):V.cells (V.tup cs)=[(V.tup cs)]:=rfl
theorem V.ok1_tup(cs:List V):V.ok1 (V.tup cs)=false:=rfl
theorem V.flat_tup(cs:List V):V.flat (V.tup cs)=false:=rfl
theorem V.flat1_tup(cs:List V):V.flat1 (V.tup cs)=false:=rfl
theorem V.flat2_tup(cs:List V):V.flat2 (V.tup cs)=cs.all V.flat1:=rfl
theorem V.isBox_tup(i:Nat)(cs:List V):V.isBox i (V.tup cs)=false:=rfl
theorem aD {body:ACode} {live:List Nat} {k:BN} (I:Nat→St→Prop)
 (hs:∀ (m:Nat) (st:St) (next:St→Prop),I m st→(∀ (m':Nat) (st':St),m'<m→I m' { st' with sl:=keep live 0 st'.sl }→next st')→Bs body (EX next k) st) :
 ∀ (fuel m:Nat) (st:St),m<fuel→I m { st with sl:=keep live 0 st.sl }→Lg (Bs body) live k fuel st
 |0,m,st,h,_=>absurd h (R6 m)
 |fuel+1,m,st,h,hI=>hs m _ _ hI fun m' st' hm hI'=>aD I hs fuel m' st' (by omega) hI'
theorem sU {body:ACode} {live:List Nat} {k:BN} {st:St} (I:Nat→St→Prop) (m:Nat) (h0:I m { st with sl:=keep live 0 st.sl })
 (hs:∀ (m:Nat) (st:St) (next:St→Prop),I m st→(∀ (m':Nat) (st':St),m'<m→I m' { st' with sl:=keep live 0 st'.sl }→next st')→Bs body (EX next k) st) :
 Bs (.loop live body) k st:=⟨m+1,aD I hs (m+1) m st (Sa m) h0⟩
theorem tY {body:ACode} {live:List Nat} {k:BN} {st:St} (n:Nat) (I:Nat→St→Prop) (h0:I 0 { st with sl:=keep live 0 st.sl })
 (hs:∀ (i:Nat) (st:St) (next:St→Prop),i≤n→I i st→(∀ st':St,i<n→I (i+1) { st' with sl:=keep live 0 st'.sl }→next st')→Bs body (EX next k) st) :
 Bs (.loop live body) k st:=by
 refine sU (fun m st=>∃ i,i≤n∧m=n-i∧I i st) n ⟨0,FI n,rfl,h0⟩ fun m st next hI hn=>?_
 obtain⟨i,hi,hm,hI⟩:=hI
 exact hs i st next hi hI fun st' hlt hI'=>hn (n-(i+1)) st' (by omega) ⟨i+1,by omega,rfl,hI'⟩
attribute [go_sem] BV ru nH tR pV qW sW lY sg pK kW nN mH su nt qy qF tL qj pZ eq_self q6 r7 oh uD kR kv sY uw qG nC oC m0 th mu rj qa pP nJ rR sM tw ub oI lB lG mS nh qC mN mj nV Wh oe oY pC oZ qe pT pz oL ql pG qB r6 lL nE nK nR uL pD D2 FM DW wx wh vq vU put AE Cx splice V.cell_undef V.cells_undef V.ok1_undef V.flat_undef V.flat1_undef V.flat2_undef V.isBox_undef V.cell_bool V.cells_bool V.ok1_bool V.flat_bool V.flat1_bool V.flat2_bool V.isBox_bool V.cell_int V.cells_int V.ok1_int V.flat_int V.flat1_int V.flat2_int V.isBox_int V.cell_str V.cells_str V.ok1_str V.flat_str V.flat1_str V.flat2_str V.isBox_str V.cell_nils V.cells_nils V.ok1_nils V.flat_nils V.flat1_nils V.flat2_nils V.isBox_nils V.cell_slice V.cells_slice V.ok1_slice V.flat_slice V.flat1_slice V.flat2_slice V.isBox_slice V.cell_box V.cells_box V.ok1_box V.flat_box V.flat1_box V.flat2_box V.isBox_box V.cell_ptr V.cells_ptr V.ok1_ptr V.flat_ptr V.flat1_ptr V.flat2_ptr V.isBox_ptr V.cell_ifc V.cells_ifc V.ok1_ifc V.flat_ifc V.flat1_ifc V.flat2_ifc V.isBox_ifc V.cell_agg V.cells_agg V.ok1_agg V.flat_agg V.flat1_agg V.flat2_agg V.isBox_agg V.cell_tup V.cells_tup V.ok1_tup V.flat_tup V.flat1_tup V.flat2_tup V.isBox_tup clearBox keep St.put AOp.clears Gn FW Cf Cp List.map EI Sd IX Gd Bool.not_false OW Option.bind Vs Hw AA AL F8 not_false_eq_true KB AD Bool.true_eq_false AP AO List.take List.drop and_true Jx DH IP decide_true decide_false Int.lt_irrefl Int.le_refl beq_self_eq_true Bn Ee AB
section
variable {α:Type}
def BO(f:α→Int→α×Int):List α→Int→List α×Int
 |[],m=>([],m)
 |a::r,m=>((f a m).1::(BO f r (f a m).2).1,(BO f r (f a m).2).2)
def BZ(f:α→Int→α×Int)(l:List α)(m:Int)(i:Nat):List α×Int:=((BO f (l.take i) m).1++l.drop i,(BO f (l.take i) m).2)
theorem KE(f:α→Int→α×Int):∀ (l:List α) (m:Int),(BO f l m).1.length=l.length
 |[],_=>rfl
 |a::r,m=>by simp only[BO,AP,KE f r]
theorem ZQ(f:α→Int→α×Int):∀ (l k:List α) (m:Int),BO f (l++k) m=((BO f l m).1++(BO f k (BO f l m).2).1,(BO f k (BO f l m).2).2)
 |[],k,m=>rfl
 |a::r,k,m=>by simp only[Cf,BO,ZQ f r k]
theorem ZV(f:α→Int→α×Int)(l:List α)(m:Int):BZ f l m 0=(l,m):=rfl
theorem Oe(f:α→Int→α×Int)(l:List α)(m:Int):BZ f l m l.length=BO f l m:=by simp[BZ]
theorem Q7(f:α→Int→α×Int)(l:List α)(m:Int)(i:Nat):(BZ f l m i).1.length=l.length:=by
 simp only[BZ,CD,KE,EM,KL];omega
theorem pA(f:α→Int→α×Int)(l:List α)(m:Int)(i:Nat)(d:α):(BZ f l m i).1.getD i d=l.getD i d:=by
 simp only[BZ,Cd];rcases AZ i l.length with h|h
 · rw[CP (by rw[KE,EM];omega),KE,EM,IW];congr 2;omega
 · rw[Bg (by simp[KE];omega),Bg h]
theorem N8(f:α→Int→α×Int)(l:List α)(m:Int){i:Nat}(hi:i<l.length)(d:α) :
 BZ f l m (i+1)=((BZ f l m i).1.set i (f (l.getD i d) (BZ f l m i).2).1,(f (l.getD i d) (BZ f l m i).2).2):=by
 have h1:l.take (i+1)=l.take i++[l.getD i d]:=by
  rw[Sx,Cd,Ay hi];rfl
 simp only[BZ,h1,ZQ,BO]
 refine Prod.ext ?_ rfl
 have h2:(BO f (l.take i) m).1.length=i:=by rw[KE,EM];omega
 simp only
 rw[List.set_append_right _ _ (by omega),h2,OZ,MB hi,List.set_cons_zero,BE]
 rfl
end
def vH:IntKind→Int→Int
 |.i64,m=>m
 |k,m=>k.wrap m
mutual
def CT.mkI:(t:CT)→t.D→Int→t.D×Int
 |.int k,_,m=>(vH k m,IntKind.i64.wrap (m+1))
 |.bool,_,m=>((m.tmod 3 == 0:Bool),IntKind.i64.wrap (m+1))
 |.str,s,m=>(s,m)
 |.ifc,b,m=>(b,m)
 |.sl r,l,m=>BO (RT.mkI r) l m
def RT.mkI:(r:RT)→r.D→Int→r.D×Int
 |.one t,x,m=>CT.mkI t x m
 |.cons t r,x,m=>(((CT.mkI t x.1 m).1,(RT.mkI r x.2 (CT.mkI t x.1 m).2).1),(RT.mkI r x.2 (CT.mkI t x.1 m).2).2)
end
def CT.mkT:(t:CT)→t.D→Int→t.D×Int
 |.sl r,l,m=>BO (RT.mkI r) l m
 |_,x,m=>(x,m)
def RT.mkT:(r:RT)→r.D→Int→r.D×Int
 |.one t,x,m=>CT.mkT t x m
 |.cons t r,x,m=>(((CT.mkT t x.1 m).1,(RT.mkT r x.2 (CT.mkT t x.1 m).2).1),(RT.mkT r x.2 (CT.mkT t x.1 m).2).2)
mutual
def CT.wl:(t:CT)→t.D→Prop
 |.sl r,l=>l.length≤9223372036854775807∧∀ a:r.D,List.Mem a l→RT.wl r a
 |_,_=>True
def RT.wl:(r:RT)→r.D→Prop
 |.one t,x=>CT.wl t x
 |.cons t r,x=>CT.wl t x.1∧RT.wl r x.2
end
section
variable {h h':Ac} {ω:Nat→W} {hd:Hd} {p:List Nat}
abbrev JQ (ω:Nat→W) (hd:Hd) (p:List Nat):Nat→Prop:=fun l=>∃ q,ω l= .own hd (p++q)
abbrev MS (h:Ac) (ω:Nat→W) (hd:Hd) (p:List Nat) (r:RT) (l:List r.D) (u:V):Prop:=RC h ω (.inn hd p) (.sl .own (l.map r.enc)) u
theorem MS.len{r:RT}{l:List r.D}{u:V}(M:MS h ω hd p r l u):SG u=some (.int .i64 (l.length:Int)):=by
 unfold MS at M;generalize he:l.map r.enc=es at M
 have hl:l.length=es.length:=by rw[← he,AF]
 cases M with
 |nil=>rw[hl];rfl
 |sl _ _ _ l o n b h1 hk hc hne hn hw hle hr=>rw[hl,← hn];rfl
theorem MS.ok1{r:RT}{l:List r.D}{u:V}(M:MS h ω hd p r l u):u.ok1=true∧u.cell=true:=by
 unfold MS at M;generalize l.map r.enc=es at M;cases M<;>exact⟨rfl,rfl⟩
theorem MS.slice{r:RT}{l:List r.D}{u:V}(M:MS h ω hd p r l u)(hl:0<l.length):∃ b,u= .slice b 0 l.length:=by
 unfold MS at M;generalize he:l.map r.enc=es at M
 have hl':l.length=es.length:=by rw[← he,AF]
 cases M with
 |nil=>rw[hl'] at hl;simp at hl
 | sl _ _ _ b o n bk h1 hk hc hne hn hw hle hr=>
   obtain⟨_,rfl,_⟩:=hc;exact⟨b,by rw[hl',hn]⟩
theorem MS.upd {r:RT} {l:List r.D} {b n:Nat} (M:MS h ω hd p r l (.slice b 0 n)) {i off:Nat} (hi:i<l.length) (hoff:off<r.w) {y:r.D} {c:PV} (hy:r.enc y=Ap (r.enc (l.getD i r.dflt)) off [c])
 {bk:Blk} (h1:h[b]?=some bk) {cs':List V} (h1':h'[b]?=some { bk with cs:=cs' }) (hcl:cs'.length=bk.cs.length) {v:V} (hcs:∀ k,get cs' k=if k=i*r.w+off then v else get bk.cs k)
 (hO:∀ x,x≠b→(∀ q,ω x≠.own hd (p++(i*r.w+off)::q))→h'[x]?=h[x]?) (hc:RC h' ω (.inn hd (p++[i*r.w+off])) c v):MS h' ω hd p r (l.set i y) (.slice b 0 n):=by
 unfold MS at M ⊢
 rw[← Oo,hy,← Ga r l i hi]
 generalize he:l.map r.enc=es at M
 have hl':l.length=es.length:=by rw[← he,AF]
 have hwr:∀ e∈es,e.length=r.w:=by rw[← he];intro e h;obtain⟨x,_,rfl⟩:=List.mem_map.1 h;exact JC r x
 have hi':i<es.length:=by rw[← hl'];exact hi
 cases M with
 | sl _ _ _ _ o _ bk' h1b hk hch hne hn hw hle hr=>
   rw[h1] at h1b;cases h1b
   have hbw:bk.w=r.w:=by rw[← hw _ (Dd (l:=es) hi')];exact hwr _ (Dd hi')
   have hel:=Kz hw hi';obtain⟨hb1,_,hb3⟩:=hch
   refine RC.sl _ .own _ b 0 n { bk with cs:=cs' } h1' hk ⟨hb1,rfl,hb3⟩ (fun _ _ h=>by have:=congrArg List.length h;rw[Ed] at this;simp only[AO] at this;omega) (by rw[Ed];exact hn) (OR hw (by rw[Fw];exact hel)) (by rw[Ed];simp only[hcl];exact hle) fun k hk'=>?_
   simp only[Ed] at hk';rw[Rb hw hi' (by rw[hbw];simp only[AP,AO];omega) k hk',Bn,hcs];simp only[AP,AO,hbw];by_cases hkk:k=i*r.w+off
   · subst hkk;rw[Ab ⟨by omega,by omega⟩,Ab rfl,OZ];exact hc
   · rw[Ad (by omega),Ad hkk];have r0:=hr k hk';rw[Bn] at r0;refine r0.inn0 (f:=Ren.id) (T:=fun x=>x=b∨∃ q,ω x= .own hd (p++(i*r.w+off)::q)) ⟨fun x e=>⟨e,hO x (by rintro rfl;rw[hb1] at e;cases e) (fun q e'=>by rw[e] at e';cases e')⟩,fun x a q e hn=>⟨by rw[e];rfl,hO x (fun h=>hn (.inl h)) (fun q' e'=>hn (.inr ⟨q',e'⟩))⟩⟩ (fun x q e hT=>?_) (fun q=>rfl);rcases hT with rfl|⟨q',e'⟩
     · rw[hb1] at e;simp only[W.own.injEq] at e;have:=congrArg List.length e.2;simp at this
     · rw[e] at e';simp only[W.own.injEq,BE,Cf,Cp,List.append_cancel_left_eq,IV] at e';exact hkk e'.2.1
theorem MS.store {r:RT} {l:List r.D} {b n:Nat} (M:MS h ω hd p r l (.slice b 0 n)) {i off:Nat} (hi:i<l.length) (hoff:off<r.w) {v:V} (hv:v.flat=true) (hvc:v.cells=[v]) {y:r.D} (hy:r.enc y=Ap (r.enc (l.getD i r.dflt)) off [.fl v])
 (hinj:∀ l l' a q,ω l= .own a q→ω l'= .own a q→l=l') (bx:List (List V)):∃ h',Js bx h 1 (.ptr b (i*r.w+off)) v=some (.undef,bx,h')∧Only (JQ ω hd p) h h'∧MS h' ω hd p r (l.set i y) (.slice b 0 n):=by
 have M0:=M
 unfold MS at M0
 generalize he:l.map r.enc=es at M0
 have hl':l.length=es.length:=by rw[← he,AF]
 have hwr:∀ e∈es,e.length=r.w:=by rw[← he];intro e h;obtain⟨x,_,rfl⟩:=List.mem_map.1 h;exact JC r x
 have hi':i<es.length:=by rw[← hl'];exact hi
 cases M0 with
 | sl _ _ _ _ o _ bk h1 hk hch hne hn hw hle hr=>
   have hbw:bk.w=r.w:=by rw[← hw _ (Dd (l:=es) hi')];exact hwr _ (Dd hi')
   obtain⟨hb1,_,hb3⟩:=hch
   have hlt:i*r.w+off<bk.cs.length:=by
    have:(i+1)*r.w≤es.length*r.w:=FG _ hi';rw[CQ,HB] at this;rw[hbw] at hle;omega
   have hb:b<h.length:=BT h1
   have hset:∀ k,(h.set b { bk with cs:=splice bk.cs (i*r.w+off) [v] })[k]?=if k=b then some { bk with cs:=splice bk.cs (i*r.w+off) [v] } else h[k]?:=by
    intro k;rw[Ge];by_cases hk:b=k
    · subst hk;simp[hb]
    · rw[Ad hk,Ad (fun h'=>hk h'.symm)]
   have hvcell:[v].all V.cell=true:=by
    cases v<;>first|rfl|(simp[V.flat] at hv)
   refine⟨h.set b { bk with cs:=splice bk.cs (i*r.w+off) [v] },?_,⟨by simp,fun x hx=>?_,fun x bx' hx=>?_⟩,M.upd hi hoff hy h1 (cs':=splice bk.cs (i*r.w+off) [v]) (v:=v) (by rw[hset,Ab rfl]) (E4 _ _ _) (fun k=>?_) (fun x hx _=>by rw[hset,Ad hx]) (.v _ _ hv)⟩
   · have hwr':wr h b (i*r.w+off) [v]=some (h.set b { bk with cs:=splice bk.cs (i*r.w+off) [v] }):=by
      rw[wr,h1];simp only;rw[Ab ⟨hb3,by simp only[AP,AO];omega⟩]
     simp only[Js,hvc,hvcell,AP,AO,hwr'];rfl
   · rw[hset,Ad];rintro rfl;exact hx ⟨[],by rw[hb1];simp⟩
   · by_cases hxb:x=b
     · subst hxb;rw[h1] at hx;cases hx;exact⟨{ bk with cs:=splice bk.cs (i*r.w+off) [v] },by rw[hset,Ab rfl],rfl,rfl,E4 _ _ _⟩
     · exact⟨bx',by rw[hset,Ad hxb];exact hx,rfl,rfl,rfl⟩
   · rw[NT _ _ _ _ (by simp only[AP,AO];omega)];simp only[AP,AO];by_cases hkk:k=i*r.w+off
     · subst hkk;rw[Ab ⟨by omega,by omega⟩,Ab rfl,OZ];rfl
     · rw[Ad (by omega),Ad hkk]
theorem MS.load{r:RT}{l:List r.D}{b n:Nat}(M:MS h ω hd p r l (.slice b 0 n)){i off:Nat}(hi:i<l.length)(hoff:off<r.w){r':RT}{l':List r'.D}(hx:Aa (r.enc (l.getD i r.dflt)) off= .sl .own (l'.map r'.enc)) :
 ∃ u,RH h none (.ptr b (i*r.w+off))=some u∧MS h ω hd (p++[i*r.w+off]) r' l' u∧∃ bk,h[b]?=some bk∧get bk.cs (i*r.w+off)=u:=by
 have M0:=M
 unfold MS at M0
 rw[← Ga r l i hi] at hx
 generalize he:l.map r.enc=es at M0 hx
 have hl':l.length=es.length:=by rw[← he,AF]
 have hwr:∀ e∈es,e.length=r.w:=by rw[← he];intro e h;obtain⟨x,_,rfl⟩:=List.mem_map.1 h;exact JC r x
 have hi':i<es.length:=by rw[← hl'];exact hi
 cases M0 with
 | sl _ _ _ _ o _ bk h1 hk hch hne hn hw hle hr=>
   have hbw:bk.w=r.w:=by rw[← hw _ (Dd (l:=es) hi')];exact hwr _ (Dd hi')
   have hm:(i+1)*r.w≤es.length*r.w:=FG _ hi';rw[CQ,HB] at hm
   have hlt:i*r.w+off<bk.cs.length:=by rw[hbw] at hle;omega
   have r0:=hr (i*r.w+off) (by rw[hbw];omega);rw[Bn] at r0;have hf:Aa es.flatten (i*r.w+off)=Aa (AH es i) off:=GN (w:=r.w) (by rw[← hbw];exact hw) i off hoff;rw[hf,hx] at r0;refine⟨get bk.cs (i*r.w+off),?_,r0,bk,h1,rfl⟩
   have e1:rd h b (i*r.w+off) 1=some ((bk.cs.drop (i*r.w+off)).take 1):=by
    rw[rd,h1];simp only;rw[Ab ⟨hk,by omega⟩]
   show (rd h b (i*r.w+off) 1).bind (Cq none)=_;rw[e1];rw[MB hlt];simp only[Wc,List.take_zero,Fb,Cq,CK,Ay hlt];rfl
theorem MS.sub {r:RT} {l:List r.D} {b n:Nat} (M:MS h ω hd p r l (.slice b 0 n)) {i off:Nat} (hi:i<l.length) (hoff:off<r.w) {u:V} {bk:Blk} (h1:h[b]?=some bk) (hu:get bk.cs (i*r.w+off)=u)
 (hO:Only (JQ ω hd (p++[i*r.w+off])) h h') {r':RT} {l':List r'.D} (hr:MS h' ω hd (p++[i*r.w+off]) r' l' u) {y:r.D} (hy:r.enc y=Ap (r.enc (l.getD i r.dflt)) off [.sl .own (l'.map r'.enc)]) :
 Only (JQ ω hd p) h h'∧MS h' ω hd p r (l.set i y) (.slice b 0 n):=by
 have hb1:ω b= .own hd p:=by
  have M0:=M;unfold MS at M0;generalize l.map r.enc=es at M0
  cases M0 with
  |sl _ _ _ _ o _ bk h1 hk hch hne hn hw hle hr=>exact hch.1
 refine⟨hO.mono fun x ⟨q,e⟩=>⟨(i*r.w+off)::q,by rw[e];simp⟩,M.upd hi hoff hy h1 (cs':=bk.cs) (v:=u) ?_ rfl (fun k=>?_) (fun x _ hx=>hO.off x (fun⟨q,e⟩=>hx q (by rw[e];simp))) hr⟩
 · rw[hO.off b]
   · exact h1
   · rintro⟨q,e⟩;rw[hb1] at e;simp only[W.own.injEq] at e;have:=congrArg List.length e.2;simp at this
 · split
   · rename_i hk;rw[hk,hu]
   · rfl
theorem MS.frame{r:RT}{l:List r.D}{u:V}(M:MS h ω hd p r l u){i:Nat}(hi:i<l.length):MS h ω hd p r (l.set i (l.getD i r.dflt)) u:=by
 have:l.set i (l.getD i r.dflt)=l:=by
  rw[Cd,Ay hi];simp
 rw[this];exact M
theorem Ue{r:RT}{l:List r.D}{i:Nat}(hi:i<l.length)(x:r.D):(l.set i x).getD i r.dflt=x:=by
 rw[Cd,List.getElem?_set_self (by simpa using hi)];rfl
theorem MS.st {r:RT} {l:List r.D} {b n i:Nat} {x:r.D} (M:MS h ω hd p r (l.set i x) (.slice b 0 n)) (hi:i<l.length) {off:Nat} (hoff:off<r.w) {v:V} (hv:v.flat=true) (hvc:v.cells=[v]) {y:r.D} (hy:r.enc y=Ap (r.enc x) off [.fl v])
 (hinj:∀ l l' a q,ω l= .own a q→ω l'= .own a q→l=l') (bx:List (List V)):∃ h',Js bx h 1 (.ptr b (i*r.w+off)) v=some (.undef,bx,h')∧Only (JQ ω hd p) h h'∧MS h' ω hd p r (l.set i y) (.slice b 0 n):=by
 obtain⟨h',e1,e2,e3⟩:=M.store (i:=i) (off:=off) (by simpa using hi) hoff hv hvc (y:=y) (by rw[Ue hi];exact hy) hinj bx
 rw[List.set_set] at e3
 exact⟨h',e1,e2,e3⟩
theorem MS.sb{r:RT}{l:List r.D}{b n i:Nat}{x:r.D}(M:MS h ω hd p r (l.set i x) (.slice b 0 n))(hi:i<l.length){off:Nat}(hoff:off<r.w){r':RT}{l':List r'.D}(hx:Aa (r.enc x) off= .sl .own (l'.map r'.enc)) :
 ∃ u,RH h none (.ptr b (i*r.w+off))=some u∧MS h ω hd (p++[i*r.w+off]) r' l' u ∧
   ∀ (h':Ac) (l'':List r'.D) (y:r.D),Only (JQ ω hd (p++[i*r.w+off])) h h'→MS h' ω hd (p++[i*r.w+off]) r' l'' u→r.enc y=Ap (r.enc x) off [.sl .own (l''.map r'.enc)]→Only (JQ ω hd p) h h'∧MS h' ω hd p r (l.set i y) (.slice b 0 n):=by
 obtain⟨u,e1,e2,bk,e3,e4⟩:=M.load (i:=i) (off:=off) (by simpa using hi) hoff (r':=r') (l':=l') (by rw[Ue hi];exact hx)
 refine⟨u,e1,e2,fun h' l'' y hO hM hy=>?_⟩
 obtain⟨k1,k2⟩:=M.sub (i:=i) (off:=off) (by simpa using hi) hoff e3 e4 hO hM (y:=y) (by rw[Ue hi];exact hy)
 rw[List.set_set] at k2
 exact⟨k1,k2⟩
theorem uB{r:RT}{l:List r.D}(hw:CT.wl (.sl r) l){i:Nat}(hi:i<l.length):RT.wl r (l.getD i r.dflt):=by
 rw[Cd,Ay hi];exact hw.2 _ (Dd hi)
theorem RC.flat1{H:Ac}{m:Md}{x u:V}(r:RC H ω m (.fl x) u)(hx:x≠.undef):u=x:=by
 cases r with
 |undef=>exact absurd rfl hx
 |v=>rfl
theorem eH{x:Int}(h:-9223372036854775808≤x∧x≤9223372036854775807):IntKind.i64.wrap x=x:=by
 rw[IntKind.wrap_i64];omega
theorem tT{b n w:Nat}{i:Nat}(hi:i<n){k:IntKind}:bw w (.slice b 0 n) (.int k (i:Int))=some (.ptr b (i*w)):=by
 show (if 0≤(i:Int)∧(i:Int)<n then some (V.ptr b (0+(i:Int).toNat*w)) else none)=_;rw[Ab (by omega),Bp,Bn]
theorem mU{r:RT}{l:List r.D}{m:Int}{i:Nat}(hi:i<l.length){L:List r.D}{k:Int}(e:BZ r.mkI l m i=(L,k)):L.length=l.length∧BZ r.mkI l m (i+1)=(L.set i (r.mkI (L.getD i r.dflt) k).1,(r.mkI (L.getD i r.dflt) k).2)∧L.getD i r.dflt=l.getD i r.dflt:=by
 have h1:=Q7 r.mkI l m i;have h2:=pA r.mkI l m i r.dflt;rw[e] at h1 h2;exact⟨h1,by rw[N8 r.mkI l m hi r.dflt,e,← h2],h2⟩
end
def SlC(s:Be)(r:RT):Prop:=∀ (h:Ac) (ω:Nat→W) (hd:Hd) (p:List Nat) (l:List r.D) (u:V) (m:Int) (Q:V→Ac→Prop),CT.wl (.sl r) l→(∀ l l' a q,ω l= .own a q→ω l'= .own a q→l=l')→MS h ω hd p r l u →
 (∀ h',Only (JQ ω hd p) h h'→MS h' ω hd p r (BO r.mkI l m).1 u→Q (.int .i64 (BO r.mkI l m).2) h')→s [u,.int .i64 m] h Q
def eW(r:RT):DMk:=⟨.one (.sl r),false,fun l=>CT.wl (.sl r) l,fun l m=>BO r.mkI l m,false⟩
def wu(r:RT):DMk:=⟨r,true,fun x=>RT.wl r x,fun x m=>r.mkT x m,false⟩
theorem sC(r:RT)(m:Int):(wu r).P.rv m= .int .i64 m:=rfl
attribute [go_sem] sC
theorem SlC.sound{s:Be}{r:RT}(hs:SlC s r):O7 s (eW r).P:=by
 rintro h ω hd P b A6 us u m K Q hinj hu hl hr ⟨x,rfl,hok,hK⟩ hQ;have hu:us=[u]:=hu;subst hu;have h0:=hr 0 (by show 0<1;omega)
 refine hs h ω hd (P++[b]) x u m Q hok hinj h0 fun h' hO hM=>?_
 refine hQ _ _ h' hK rfl (hO.mono fun l ⟨q,e⟩=>⟨0,_,q,by show 0<1;omega,rfl,by rw[e];simp⟩) fun c hc=>?_
 have:c=0:=by have:c<1:=hc;omega
 subst this;exact hM
structure Fn where
 d:DFun
 h:List HT
 q:QT
@[irreducible] def Fn.S(F:Fn):Be:=Mq F.d.er.er
@[irreducible] def Fn.P(F:Fn):Cs:=Mk F.d.er
@[irreducible] def Fn.V(F:Fn)(x:TuX F.h):F.q.D:=(shut fun x=>Lo F.d F.h F.q x).1 x
@[irreducible] def Fn.O(F:Fn)(x:TuX F.h):Prop:=(shut fun x=>Li F.d F.h F.q x).1 x
def Fn.D(F:Fn):EW:=GW F.h F.q F.O F.V
theorem Fn.v(F:Fn)(x:TuX F.h):F.V x=Lo F.d F.h F.q x:=by unfold Fn.V;exact congrFun (shut _).2 x
theorem Fn.o(F:Fn)(x:TuX F.h):F.O x=Li F.d F.h F.q x:=by unfold Fn.O;exact congrFun (shut _).2 x
def Fn.A(F:Fn):Prop:=Gf F.S F.P
def Fn.B(F:Fn):Prop:=GR F.P F.D
theorem A7{F:Fn}(o:AllP F.d.er.body.obs):F.A:=by unfold Fn.A Fn.S Fn.P;exact nU o
theorem A8{F:Fn}(o:AllD F.d.body.obs)(st:MY F.d F.h F.q=true)(c:∀ x,MP F.d F.h F.q x=true):F.B:=by
 unfold Fn.B Fn.P;exact oP o st c (fun x h=>Eq.mp (F.o x) h) (fun x=>(F.v x).symm)
@[reducible] def oF (i d:Nat) (F:Fn) (args:List Opnd):DOper:=⟨i,some d,.call false F.S F.P F.D args,none,[]⟩
@[reducible] def xF (i d:Nat) (F:Fn) (args:List Opnd) (a:List Nat):DOper:=⟨i,some d,.call false F.S F.P F.D args,none,a⟩
theorem lF{P:Program}(hm:P.follows .mixedOrders=true){F:Fn}{f:FuncId}{fn:Func}{obs:List (FuncId×Be)}(hf:P.funcs[f]?=some fn)(hk:Pm P fn F.d.er.er=true)(ho:Pf P fn F.d.er.er=obs)(hob:AllSound P obs):Aq P f F.S:=by
 unfold Fn.S;exact YX hm hf hk ho hob
section
set_option maxRecDepth 8000
def lR:DCode:=(.seq [2,1,0] (.region [oa 0 6 (.mv (.c (.bool false)))]) (.seq [6] (.region [om 0 7 0,om 1 8 1,oa 2 9 (.bin .geq (.t 7) (.t 8)),om 3 10 9,og 4 11 (.mv (.t 0)) 10 true,og 5 12 (.mv (.t 2)) 10 true,og 6 13 (.bin .leq (.t 11) (.t 12)) 10 true,oa 7 14 (.pick (.t 10) (.t 13) (.c (.bool false))),om 8 6 14]) .ret))
def CI:Fn:=⟨⟨3,15,0,true,[.tmp 6],lR⟩,[.one .frz (.int .i64),.one .frz (.int .i64),.one .frz (.int .i64)],.one (.one .own (.bool))⟩
theorem Kj:CI.A:=A7 trivial
def B3:Int×Int×Int→Bool:=CI.V
def Hj:Int×Int×Int→Prop:=CI.O
theorem Kk:CI.B:=A8 trivial (by kernel_rfl) (fun x=>by kernel_rfl)
def iN:DCode:=(.seq [1] (.region [oa 0 1 (.boxB 0 4 (.t 0)),oa 1 2 (.mv (.c (.bool false)))]) (.seq [3,1] (.region [oa 0 6 (.fieldA 1 (.t 1)),oa 1 7 (.loadB 0 none (.t 6)),oF 2 8 CI [(.t 7),(.c (.int .i64 1)),(.c (.int .i64 56))],om 3 3 8]) (.seq [4,3,1] (.region [oa 0 9 (.fieldA 2 (.t 1)),oa 1 10 (.loadB 0 none (.t 9)),oF 2 11 CI [(.t 10),(.c (.int .i64 1)),(.c (.int .i64 15))],om 3 4 11]) (.seq [5,4,3,1] (.region [oa 0 12 (.fieldA 3 (.t 1)),oa 1 13 (.loadB 0 none (.t 12)),oF 2 14 CI [(.t 13),(.c (.int .i64 1)),(.c (.int .i64 3))],om 3 5 14]) (.seq [] (.seq [16,5,4,3,1] (.region [oa 0 15 (.fieldA 0 (.t 1)),oa 1 16 (.loadB 0 none (.t 15))]) (.block 0 (.seq [17,16,5,4,3,1] (.seq [17,16,5,4,3,1] (.region [oa 0 18 (.bin .eql (.t 16) (.c (.int .i64 0))),om 1 17 18]) (.cond (.t 17) .skip (.seq [17,16,5,4,3,1] (.region [oa 0 19 (.bin .eql (.t 16) (.c (.int .i64 1))),om 1 17 19]) (.cond (.t 17) .skip (.region [oa 0 20 (.bin .eql (.t 16) (.c (.int .i64 10))),om 1 17 20]))))) (.cond (.t 17) (.seq [2] (.region [oa 0 21 (.fieldA 1 (.t 1)),oa 1 22 (.loadB 0 none (.t 21)),oa 2 23 (.bin .eql (.t 22) (.c (.int .i64 0))),om 3 24 23,og 4 25 (.fieldA 2 (.t 1)) 24 true,og 5 26 (.loadB 0 none (.t 25)) 24 true,og 6 27 (.bin .eql (.t 26) (.c (.int .i64 0))) 24 true,oa 7 28 (.pick (.t 24) (.t 27) (.c (.bool false))),om 8 29 28,og 9 30 (.fieldA 3 (.t 1)) 29 true,og 10 31 (.loadB 0 none (.t 30)) 29 true,og 11 32 (.bin .eql (.t 31) (.c (.int .i64 0))) 29 true,oa 12 33 (.pick (.t 29) (.t 32) (.c (.bool false))),om 13 2 33]) .ret) (.seq [34,16,5,4,3,1] (.region [oa 0 35 (.bin .eql (.t 16) (.c (.int .i64 2))),om 1 34 35]) (.cond (.t 34) (.seq [2] (.region [oa 0 36 (.fieldA 3 (.t 1)),oa 1 37 (.loadB 0 none (.t 36)),oa 2 38 (.bin .eql (.t 37) (.c (.int .i64 0))),om 3 39 38,og 4 40 (.mv (.t 3)) 39 true,og 5 41 (.mv (.t 40)) 39 true,og 6 42 (.fieldA 1 (.t 1)) 41 false,og 7 43 (.loadB 0 none (.t 42)) 41 false,og 8 44 (.bin .eql (.t 43) (.c (.int .i64 0))) 41 false,og 9 45 (.mv (.t 44)) 41 false,og 10 46 (.mv (.t 4)) 45 true,og 11 47 (.pick (.t 45) (.t 46) (.c (.bool false))) 41 false,og 12 48 (.pick (.t 41) (.c (.bool true)) (.t 47)) 39 true,oa 13 49 (.pick (.t 39) (.t 48) (.c (.bool false))),om 14 50 49,og 15 51 (.mv (.t 4)) 50 true,og 16 52 (.mv (.t 51)) 50 true,og 17 53 (.fieldA 2 (.t 1)) 52 false,og 18 54 (.loadB 0 none (.t 53)) 52 false,og 19 55 (.bin .eql (.t 54) (.c (.int .i64 0))) 52 false,og 20 56 (.pick (.t 52) (.c (.bool true)) (.t 55)) 50 true,oa 21 57 (.pick (.t 50) (.t 56) (.c (.bool false))),om 22 2 57]) .ret) (.seq [58,16,5,4,3,1] (.seq [58,16,5,4,3,1] (.region [oa 0 59 (.bin .eql (.t 16) (.c (.int .i64 3))),om 1 58 59]) (.cond (.t 58) .skip (.region [oa 0 60 (.bin .eql (.t 16) (.c (.int .i64 4))),om 1 58 60]))) (.cond (.t 58) (.seq [2] (.region [om 0 61 5,om 1 62 61,og 2 63 (.fieldA 1 (.t 1)) 62 true,og 3 64 (.loadB 0 none (.t 63)) 62 true,og 4 65 (.bin .eql (.t 64) (.c (.int .i64 0))) 62 true,oa 5 66 (.pick (.t 62) (.t 65) (.c (.bool false))),om 6 67 66,og 7 68 (.fieldA 2 (.t 1)) 67 true,og 8 69 (.loadB 0 none (.t 68)) 67 true,og 9 70 (.bin .eql (.t 69) (.c (.int .i64 0))) 67 true,oa 10 71 (.pick (.t 67) (.t 70) (.c (.bool false))),om 11 2 71]) .ret) (.seq [72,16,5,4,3,1] (.seq [72,16,5,4,3,1] (.region [oa 0 73 (.bin .eql (.t 16) (.c (.int .i64 5))),om 1 72 73]) (.cond (.t 72) .skip (.region [oa 0 74 (.bin .eql (.t 16) (.c (.int .i64 9))),om 1 72 74]))) (.cond (.t 72) (.seq [2] (.region [oa 0 75 (.fieldA 3 (.t 1)),oa 1 76 (.loadB 0 none (.t 75)),oF 2 77 CI [(.t 76),(.c (.int .i64 0)),(.c (.int .i64 3))],om 3 78 77,og 4 79 (.fieldA 1 (.t 1)) 78 true,og 5 80 (.loadB 0 none (.t 79)) 78 true,og 6 81 (.bin .eql (.t 80) (.c (.int .i64 0))) 78 true,oa 7 82 (.pick (.t 78) (.t 81) (.c (.bool false))),om 8 83 82,og 9 84 (.fieldA 2 (.t 1)) 83 true,og 10 85 (.loadB 0 none (.t 84)) 83 true,og 11 86 (.bin .eql (.t 85) (.c (.int .i64 0))) 83 true,oa 12 87 (.pick (.t 83) (.t 86) (.c (.bool false))),om 13 2 87]) .ret) (.seq [88,16,5,4,3,1] (.region [oa 0 89 (.bin .eql (.t 16) (.c (.int .i64 6))),om 1 88 89]) (.cond (.t 88) (.seq [2] (.region [om 0 90 3,om 1 91 90,og 2 92 (.mv (.t 4)) 91 true,oa 3 93 (.pick (.t 91) (.t 92) (.c (.bool false))),om 4 94 93,og 5 95 (.fieldA 3 (.t 1)) 94 true,og 6 96 (.loadB 0 none (.t 95)) 94 true,og 7 97 (.bin .eql (.t 96) (.c (.int .i64 0))) 94 true,oa 8 98 (.pick (.t 94) (.t 97) (.c (.bool false))),om 9 2 98]) .ret) (.seq [99,16,5,4,3,1] (.region [oa 0 100 (.bin .eql (.t 16) (.c (.int .i64 7))),om 1 99 100]) (.cond (.t 99) (.seq [2] (.region [om 0 101 3,om 1 102 101,og 2 103 (.mv (.t 5)) 102 true,oa 3 104 (.pick (.t 102) (.t 103) (.c (.bool false))),om 4 105 104,og 5 106 (.fieldA 2 (.t 1)) 105 true,og 6 107 (.loadB 0 none (.t 106)) 105 true,og 7 108 (.bin .eql (.t 107) (.c (.int .i64 0))) 105 true,oa 8 109 (.pick (.t 105) (.t 108) (.c (.bool false))),om 9 2 109]) .ret) (.seq [110,4,1] (.region [oa 0 111 (.bin .eql (.t 16) (.c (.int .i64 8))),om 1 110 111]) (.cond (.t 110) (.seq [2] (.region [om 0 112 4,om 1 113 112,og 2 114 (.fieldA 1 (.t 1)) 113 true,og 3 115 (.loadB 0 none (.t 114)) 113 true,og 4 116 (.bin .eql (.t 115) (.c (.int .i64 0))) 113 true,oa 5 117 (.pick (.t 113) (.t 116) (.c (.bool false))),om 6 118 117,og 7 119 (.fieldA 3 (.t 1)) 118 true,og 8 120 (.loadB 0 none (.t 119)) 118 true,og 9 121 (.bin .eql (.t 120) (.c (.int .i64 0))) 118 true,oa 10 122 (.pick (.t 118) (.t 121) (.c (.bool false))),om 11 2 122]) .ret) .skip)))))))))))))))) (.seq [2] (.region [oa 0 2 (.mv (.c (.bool false)))]) .ret))))))
def Fs:Fn:=⟨⟨1,123,1,true,[.tmp 2],iN⟩,[.agg [(.frz,.int .i64),(.frz,.int .i64),(.frz,.int .i64),(.frz,.int .i64)]],.one (.one .own (.bool))⟩
theorem XA:Fs.A:=A7 ⟨Kj,Kj,Kj,Kj,trivial⟩
def Cl:Int×Int×Int×Int→Bool:=Fs.V
def LB:Int×Int×Int×Int→Prop:=Fs.O
theorem XJ:Fs.B:=A8 ⟨Kk,Kk,Kk,Kk,trivial⟩ (by kernel_rfl) (fun x=>by kernel_rfl)
def kE:DCode:=(.seq [0] (.region [oa 0 2 (.mv (.c (.bool false)))]) (.seq [2] (.region [om 0 3 0,oa 1 4 (.bin .geq (.t 3) (.c (.int .i64 1))),om 2 5 4,og 3 6 (.mv (.t 0)) 5 true,og 4 7 (.bin .leq (.t 6) (.c (.int .i64 56))) 5 true,oa 5 8 (.pick (.t 5) (.t 7) (.c (.bool false))),om 6 2 8]) .ret))
def EA:Fn:=⟨⟨1,9,0,true,[.tmp 2],kE⟩,[.one .frz (.int .i64)],.one (.one .own (.bool))⟩
theorem TC:EA.A:=A7 trivial
def GH:Int→Bool:=EA.V
def LJ:Int→Prop:=EA.O
theorem TE:EA.B:=A8 trivial (by kernel_rfl) (fun x=>by kernel_rfl)
def kq:DCode:=(.seq [0] (.region [oa 0 2 (.mv (.c (.bool false)))]) (.seq [2] (.region [om 0 3 0,oa 1 4 (.bin .geq (.t 3) (.c (.int .i64 1))),om 2 5 4,og 3 6 (.mv (.t 0)) 5 true,og 4 7 (.bin .leq (.t 6) (.c (.int .i64 15))) 5 true,oa 5 8 (.pick (.t 5) (.t 7) (.c (.bool false))),om 6 2 8]) .ret))
def Di:Fn:=⟨⟨1,9,0,true,[.tmp 2],kq⟩,[.one .frz (.int .i64)],.one (.one .own (.bool))⟩
theorem TH:Di.A:=A7 trivial
def LM:Int→Bool:=Di.V
def Kh:Int→Prop:=Di.O
theorem TF:Di.B:=A8 trivial (by kernel_rfl) (fun x=>by kernel_rfl)
def jO:DCode:=(.seq [0] (.region [oa 0 2 (.mv (.c (.bool false)))]) (.seq [2] (.region [om 0 3 0,oa 1 4 (.bin .geq (.t 3) (.c (.int .i64 1))),om 2 5 4,og 3 6 (.mv (.t 0)) 5 true,og 4 7 (.bin .leq (.t 6) (.c (.int .i64 3))) 5 true,oa 5 8 (.pick (.t 5) (.t 7) (.c (.bool false))),om 6 2 8]) .ret))
def Ex:Fn:=⟨⟨1,9,0,true,[.tmp 2],jO⟩,[.one .frz (.int .i64)],.one (.one .own (.bool))⟩
theorem X4:Ex.A:=A7 trivial
def Qp:Int→Bool:=Ex.V
def Nz:Int→Prop:=Ex.O
theorem Yd:Ex.B:=A8 trivial (by kernel_rfl) (fun x=>by kernel_rfl)
def jj:DCode:=(.seq [1] (.region [oa 0 1 (.boxB 0 4 (.t 0)),oa 1 2 (.mv (.c (.bool false)))]) (.seq [] (.seq [4,1] (.region [oa 0 3 (.fieldA 0 (.t 1)),oa 1 4 (.loadB 0 none (.t 3))]) (.block 0 (.seq [5,4,1] (.seq [5,4,1] (.region [oa 0 6 (.bin .eql (.t 4) (.c (.int .i64 0))),om 1 5 6]) (.cond (.t 5) .skip (.seq [5,4,1] (.region [oa 0 7 (.bin .eql (.t 4) (.c (.int .i64 1))),om 1 5 7]) (.cond (.t 5) .skip (.region [oa 0 8 (.bin .eql (.t 4) (.c (.int .i64 10))),om 1 5 8]))))) (.cond (.t 5) (.seq [2] (.region [oa 0 9 (.fieldA 1 (.t 1)),oa 1 10 (.loadB 0 none (.t 9)),oa 2 11 (.bin .eql (.t 10) (.c (.int .i64 0))),om 3 12 11,og 4 13 (.fieldA 2 (.t 1)) 12 true,og 5 14 (.loadB 0 none (.t 13)) 12 true,og 6 15 (.bin .eql (.t 14) (.c (.int .i64 0))) 12 true,oa 7 16 (.pick (.t 12) (.t 15) (.c (.bool false))),om 8 17 16,og 9 18 (.fieldA 3 (.t 1)) 17 true,og 10 19 (.loadB 0 none (.t 18)) 17 true,og 11 20 (.bin .eql (.t 19) (.c (.int .i64 0))) 17 true,oa 12 21 (.pick (.t 17) (.t 20) (.c (.bool false))),om 13 2 21]) .ret) (.seq [22,4,1] (.region [oa 0 23 (.bin .eql (.t 4) (.c (.int .i64 2))),om 1 22 23]) (.cond (.t 22) (.seq [2] (.region [oa 0 24 (.fieldA 3 (.t 1)),oa 1 25 (.loadB 0 none (.t 24)),oa 2 26 (.bin .eql (.t 25) (.c (.int .i64 0))),om 3 27 26,og 4 28 (.fieldA 1 (.t 1)) 27 true,og 5 29 (.loadB 0 none (.t 28)) 27 true,og 6 30 (.bin .eql (.t 29) (.c (.int .i64 0))) 27 true,og 7 31 (.mv (.t 30)) 27 true,og 8 32 (.fieldA 1 (.t 1)) 31 false,og 9 33 (.loadB 0 none (.t 32)) 31 false,⟨10,some 34,.call false EA.S EA.P EA.D [(.t 33)],(some (31,false)),[]⟩,og 11 35 (.pick (.t 31) (.c (.bool true)) (.t 34)) 27 true,oa 12 36 (.pick (.t 27) (.t 35) (.c (.bool false))),om 13 37 36,og 14 38 (.fieldA 2 (.t 1)) 37 true,og 15 39 (.loadB 0 none (.t 38)) 37 true,og 16 40 (.bin .eql (.t 39) (.c (.int .i64 0))) 37 true,og 17 41 (.mv (.t 40)) 37 true,og 18 42 (.fieldA 2 (.t 1)) 41 false,og 19 43 (.loadB 0 none (.t 42)) 41 false,⟨20,some 44,.call false Di.S Di.P Di.D [(.t 43)],(some (41,false)),[]⟩,og 21 45 (.pick (.t 41) (.c (.bool true)) (.t 44)) 37 true,oa 22 46 (.pick (.t 37) (.t 45) (.c (.bool false))),om 23 47 46,og 24 48 (.fieldA 1 (.t 1)) 47 true,og 25 49 (.loadB 0 none (.t 48)) 47 true,og 26 50 (.bin .neq (.t 49) (.c (.int .i64 0))) 47 true,og 27 51 (.mv (.t 50)) 47 true,og 28 52 (.fieldA 2 (.t 1)) 51 false,og 29 53 (.loadB 0 none (.t 52)) 51 false,og 30 54 (.bin .neq (.t 53) (.c (.int .i64 0))) 51 false,og 31 55 (.pick (.t 51) (.c (.bool true)) (.t 54)) 47 true,oa 32 56 (.pick (.t 47) (.t 55) (.c (.bool false))),om 33 2 56]) .ret) (.seq [57,4,1] (.seq [57,4,1] (.region [oa 0 58 (.bin .eql (.t 4) (.c (.int .i64 3))),om 1 57 58]) (.cond (.t 57) .skip (.region [oa 0 59 (.bin .eql (.t 4) (.c (.int .i64 4))),om 1 57 59]))) (.cond (.t 57) (.seq [2] (.region [oa 0 60 (.fieldA 1 (.t 1)),oa 1 61 (.loadB 0 none (.t 60)),oa 2 62 (.bin .eql (.t 61) (.c (.int .i64 0))),om 3 63 62,og 4 64 (.fieldA 2 (.t 1)) 63 true,og 5 65 (.loadB 0 none (.t 64)) 63 true,og 6 66 (.bin .eql (.t 65) (.c (.int .i64 0))) 63 true,oa 7 67 (.pick (.t 63) (.t 66) (.c (.bool false))),om 8 68 67,og 9 69 (.fieldA 3 (.t 1)) 68 true,og 10 70 (.loadB 0 none (.t 69)) 68 true,⟨11,some 71,.call false Ex.S Ex.P Ex.D [(.t 70)],(some (68,true)),[]⟩,oa 12 72 (.pick (.t 68) (.t 71) (.c (.bool false))),om 13 2 72]) .ret) (.seq [73,4,1] (.region [oa 0 74 (.bin .eql (.t 4) (.c (.int .i64 5))),om 1 73 74]) (.cond (.t 73) (.seq [2] (.region [oa 0 75 (.fieldA 1 (.t 1)),oa 1 76 (.loadB 0 none (.t 75)),oa 2 77 (.bin .eql (.t 76) (.c (.int .i64 0))),om 3 78 77,og 4 79 (.fieldA 2 (.t 1)) 78 true,og 5 80 (.loadB 0 none (.t 79)) 78 true,og 6 81 (.bin .eql (.t 80) (.c (.int .i64 0))) 78 true,oa 7 82 (.pick (.t 78) (.t 81) (.c (.bool false))),om 8 83 82,og 9 84 (.fieldA 3 (.t 1)) 83 true,og 10 85 (.loadB 0 none (.t 84)) 83 true,og 11 86 (.bin .geq (.t 85) (.c (.int .i64 0))) 83 true,oa 12 87 (.pick (.t 83) (.t 86) (.c (.bool false))),om 13 88 87,og 14 89 (.fieldA 3 (.t 1)) 88 true,og 15 90 (.loadB 0 none (.t 89)) 88 true,og 16 91 (.bin .leq (.t 90) (.c (.int .i64 3))) 88 true,oa 17 92 (.pick (.t 88) (.t 91) (.c (.bool false))),om 18 2 92]) .ret) (.seq [93,4,1] (.region [oa 0 94 (.bin .eql (.t 4) (.c (.int .i64 9))),om 1 93 94]) (.cond (.t 93) (.seq [2] (.region [oa 0 95 (.fieldA 1 (.t 1)),oa 1 96 (.loadB 0 none (.t 95)),oa 2 97 (.bin .eql (.t 96) (.c (.int .i64 0))),om 3 98 97,og 4 99 (.fieldA 2 (.t 1)) 98 true,og 5 100 (.loadB 0 none (.t 99)) 98 true,og 6 101 (.bin .eql (.t 100) (.c (.int .i64 0))) 98 true,oa 7 102 (.pick (.t 98) (.t 101) (.c (.bool false))),om 8 103 102,og 9 104 (.fieldA 3 (.t 1)) 103 true,og 10 105 (.loadB 0 none (.t 104)) 103 true,og 11 106 (.bin .geq (.t 105) (.c (.int .i64 0))) 103 true,oa 12 107 (.pick (.t 103) (.t 106) (.c (.bool false))),om 13 108 107,og 14 109 (.fieldA 3 (.t 1)) 108 true,og 15 110 (.loadB 0 none (.t 109)) 108 true,og 16 111 (.bin .leq (.t 110) (.c (.int .i64 3))) 108 true,oa 17 112 (.pick (.t 108) (.t 111) (.c (.bool false))),om 18 2 112]) .ret) (.seq [113,4,1] (.region [oa 0 114 (.bin .eql (.t 4) (.c (.int .i64 6))),om 1 113 114]) (.cond (.t 113) (.seq [2] (.region [oa 0 115 (.fieldA 1 (.t 1)),oa 1 116 (.loadB 0 none (.t 115)),oF 2 117 EA [(.t 116)],om 3 118 117,og 4 119 (.fieldA 2 (.t 1)) 118 true,og 5 120 (.loadB 0 none (.t 119)) 118 true,⟨6,some 121,.call false Di.S Di.P Di.D [(.t 120)],(some (118,true)),[]⟩,oa 7 122 (.pick (.t 118) (.t 121) (.c (.bool false))),om 8 123 122,og 9 124 (.fieldA 3 (.t 1)) 123 true,og 10 125 (.loadB 0 none (.t 124)) 123 true,og 11 126 (.bin .eql (.t 125) (.c (.int .i64 0))) 123 true,oa 12 127 (.pick (.t 123) (.t 126) (.c (.bool false))),om 13 2 127]) .ret) (.seq [128,4,1] (.region [oa 0 129 (.bin .eql (.t 4) (.c (.int .i64 7))),om 1 128 129]) (.cond (.t 128) (.seq [2] (.region [oa 0 130 (.fieldA 1 (.t 1)),oa 1 131 (.loadB 0 none (.t 130)),oF 2 132 EA [(.t 131)],om 3 133 132,og 4 134 (.fieldA 2 (.t 1)) 133 true,og 5 135 (.loadB 0 none (.t 134)) 133 true,og 6 136 (.bin .eql (.t 135) (.c (.int .i64 0))) 133 true,oa 7 137 (.pick (.t 133) (.t 136) (.c (.bool false))),om 8 138 137,og 9 139 (.fieldA 3 (.t 1)) 138 true,og 10 140 (.loadB 0 none (.t 139)) 138 true,⟨11,some 141,.call false Ex.S Ex.P Ex.D [(.t 140)],(some (138,true)),[]⟩,oa 12 142 (.pick (.t 138) (.t 141) (.c (.bool false))),om 13 2 142]) .ret) (.seq [143,1] (.region [oa 0 144 (.bin .eql (.t 4) (.c (.int .i64 8))),om 1 143 144]) (.cond (.t 143) (.seq [2] (.region [oa 0 145 (.fieldA 1 (.t 1)),oa 1 146 (.loadB 0 none (.t 145)),oa 2 147 (.bin .eql (.t 146) (.c (.int .i64 0))),om 3 148 147,og 4 149 (.fieldA 2 (.t 1)) 148 true,og 5 150 (.loadB 0 none (.t 149)) 148 true,⟨6,some 151,.call false Di.S Di.P Di.D [(.t 150)],(some (148,true)),[]⟩,oa 7 152 (.pick (.t 148) (.t 151) (.c (.bool false))),om 8 153 152,og 9 154 (.fieldA 3 (.t 1)) 153 true,og 10 155 (.loadB 0 none (.t 154)) 153 true,og 11 156 (.bin .eql (.t 155) (.c (.int .i64 0))) 153 true,oa 12 157 (.pick (.t 153) (.t 156) (.c (.bool false))),om 13 2 157]) .ret) .skip)))))))))))))))))) (.seq [2] (.region [oa 0 2 (.mv (.c (.bool false)))]) .ret)))
def Fq:Fn:=⟨⟨1,158,1,true,[.tmp 2],jj⟩,[.agg [(.frz,.int .i64),(.frz,.int .i64),(.frz,.int .i64),(.frz,.int .i64)]],.one (.one .own (.bool))⟩
theorem Tw:Fq.A:=A7 ⟨TC,TH,X4,TC,TH,TC,X4,TH,trivial⟩
def Ev:Int×Int×Int×Int→Bool:=Fq.V
def Ka:Int×Int×Int×Int→Prop:=Fq.O
theorem Tv:Fq.B:=A8 ⟨TE,TF,Yd,TE,TF,TE,Yd,TF,trivial⟩ (by kernel_rfl) (fun x=>by kernel_rfl)
end
section
set_option maxRecDepth 100000
theorem GJ (x):B3 x=(bAnd (iGe x.1 x.2.1) (iLe x.1 x.2.2)):=(CI.v x).trans (by kernel_rfl)
theorem NP (x):Hj x=True:=(CI.o x).trans (by kernel_rfl)
theorem Tn (x):Cl x=(bSel (bOr (iEq x.1 0) (bOr (iEq x.1 1) (iEq x.1 10))) (bAnd (iEq x.2.1 0) (bAnd (iEq x.2.2.1 0) (iEq x.2.2.2 0))) (bSel (iEq x.1 2) (bAnd (iEq x.2.2.2 0) (bSel (B3 (x.2.1,1,56)) (bOr (B3 (x.2.2.1,1,15)) (iEq x.2.2.1 0)) (bAnd (iEq x.2.1 0) (bAnd (B3 (x.2.2.1,1,15)) (bOr (B3 (x.2.2.1,1,15)) (iEq x.2.2.1 0)))))) (bSel (bOr (iEq x.1 3) (iEq x.1 4)) (bAnd (B3 (x.2.2.2,1,3)) (bAnd (iEq x.2.1 0) (iEq x.2.2.1 0))) (bSel (bOr (iEq x.1 5) (iEq x.1 9)) (bAnd (B3 (x.2.2.2,0,3)) (bAnd (iEq x.2.1 0) (iEq x.2.2.1 0))) (bSel (iEq x.1 6) (bAnd (B3 (x.2.1,1,56)) (bAnd (B3 (x.2.2.1,1,15)) (iEq x.2.2.2 0))) (bSel (iEq x.1 7) (bAnd (B3 (x.2.1,1,56)) (bAnd (B3 (x.2.2.2,1,3)) (iEq x.2.2.1 0))) (bAnd (iEq x.1 8) (bAnd (B3 (x.2.2.1,1,15)) (bAnd (iEq x.2.1 0) (iEq x.2.2.2 0)))))))))):=(Fs.v x).trans (by kernel_rfl)
theorem jf (x):LB x=((Hj (x.2.1,1,56))∧((Hj (x.2.2.1,1,15))∧((Hj (x.2.2.2,1,3))∧(((bOr (iEq x.1 0) (bOr (iEq x.1 1) (iEq x.1 10)))=true→True)∧((bOr (iEq x.1 0) (bOr (iEq x.1 1) (iEq x.1 10)))=false→(((iEq x.1 2)=true→True)∧((iEq x.1 2)=false→(((bOr (iEq x.1 3) (iEq x.1 4))=true→True)∧((bOr (iEq x.1 3) (iEq x.1 4))=false→(((bOr (iEq x.1 5) (iEq x.1 9))=true→(Hj (x.2.2.2,0,3)))∧((bOr (iEq x.1 5) (iEq x.1 9))=false→True))))))))))):=(Fs.o x).trans (by kernel_rfl)
theorem kI (x):GH x=(bAnd (iGe x 1) (iLe x 56)):=(EA.v x).trans (by kernel_rfl)
theorem kD (x):LJ x=True:=(EA.o x).trans (by kernel_rfl)
theorem kH (x):LM x=(bAnd (iGe x 1) (iLe x 15)):=(Di.v x).trans (by kernel_rfl)
theorem kt (x):Kh x=True:=(Di.o x).trans (by kernel_rfl)
theorem jA (x):Qp x=(bAnd (iGe x 1) (iLe x 3)):=(Ex.v x).trans (by kernel_rfl)
theorem jM (x):Nz x=True:=(Ex.o x).trans (by kernel_rfl)
theorem jk (x):Ev x=(bSel (bOr (iEq x.1 0) (bOr (iEq x.1 1) (iEq x.1 10))) (bAnd (iEq x.2.1 0) (bAnd (iEq x.2.2.1 0) (iEq x.2.2.2 0))) (bSel (iEq x.1 2) (bAnd (iEq x.2.2.2 0) (bSel (iEq x.2.1 0) (bSel (iEq x.2.2.1 0) (bOr (iNe x.2.1 0) (iNe x.2.2.1 0)) (bAnd (LM x.2.2.1) (bOr (iNe x.2.1 0) (iNe x.2.2.1 0)))) (bAnd (GH x.2.1) (bSel (iEq x.2.2.1 0) (bOr (iNe x.2.1 0) (iNe x.2.2.1 0)) (bAnd (LM x.2.2.1) (bOr (iNe x.2.1 0) (iNe x.2.2.1 0))))))) (bSel (bOr (iEq x.1 3) (iEq x.1 4)) (bAnd (iEq x.2.1 0) (bAnd (iEq x.2.2.1 0) (Qp x.2.2.2))) (bSel (iEq x.1 5) (bAnd (iEq x.2.1 0) (bAnd (iEq x.2.2.1 0) (bAnd (iGe x.2.2.2 0) (iLe x.2.2.2 3)))) (bSel (iEq x.1 9) (bAnd (iEq x.2.1 0) (bAnd (iEq x.2.2.1 0) (bAnd (iGe x.2.2.2 0) (iLe x.2.2.2 3)))) (bSel (iEq x.1 6) (bAnd (GH x.2.1) (bAnd (LM x.2.2.1) (iEq x.2.2.2 0))) (bSel (iEq x.1 7) (bAnd (GH x.2.1) (bAnd (iEq x.2.2.1 0) (Qp x.2.2.2))) (bAnd (iEq x.1 8) (bAnd (iEq x.2.1 0) (bAnd (LM x.2.2.1) (iEq x.2.2.2 0))))))))))):=(Fq.v x).trans (by kernel_rfl)
theorem iU (x):Ka x=(((bOr (iEq x.1 0) (bOr (iEq x.1 1) (iEq x.1 10)))=true→True)∧((bOr (iEq x.1 0) (bOr (iEq x.1 1) (iEq x.1 10)))=false→(((iEq x.1 2)=true→(((iEq x.2.2.2 0)=true→(((iEq x.2.1 0)=true→(((iEq x.2.2.1 0)=true→True)∧((iEq x.2.2.1 0)=false→(Kh x.2.2.1))))∧((iEq x.2.1 0)=false→((LJ x.2.1)∧(((GH x.2.1)=true→(((iEq x.2.2.1 0)=true→True)∧((iEq x.2.2.1 0)=false→(Kh x.2.2.1))))∧((GH x.2.1)=false→True))))))∧((iEq x.2.2.2 0)=false→True)))∧((iEq x.1 2)=false→(((bOr (iEq x.1 3) (iEq x.1 4))=true→(((iEq x.2.1 0)=true→(((iEq x.2.2.1 0)=true→(Nz x.2.2.2))∧((iEq x.2.2.1 0)=false→True)))∧((iEq x.2.1 0)=false→True)))∧((bOr (iEq x.1 3) (iEq x.1 4))=false→(((iEq x.1 5)=true→True)∧((iEq x.1 5)=false→(((iEq x.1 9)=true→True)∧((iEq x.1 9)=false→(((iEq x.1 6)=true→((LJ x.2.1)∧(((GH x.2.1)=true→(Kh x.2.2.1))∧((GH x.2.1)=false→True))))∧((iEq x.1 6)=false→(((iEq x.1 7)=true→((LJ x.2.1)∧(((GH x.2.1)=true→(((iEq x.2.2.1 0)=true→(Nz x.2.2.2))∧((iEq x.2.2.1 0)=false→True)))∧((GH x.2.1)=false→True))))∧((iEq x.1 7)=false→(((iEq x.1 8)=true→(((iEq x.2.1 0)=true→(Kh x.2.2.1))∧((iEq x.2.1 0)=false→True)))∧((iEq x.1 8)=false→True)))))))))))))))):=(Fq.o x).trans (by kernel_rfl)
attribute [irreducible] B3 Hj Cl LB GH LJ LM Kh Qp Nz Ev Ka
end
section
set_option maxRecDepth 8000
def lW:DCode:=(.seq [1,0] (.region [oi 0 4 0]) (.seq [4] (.region [om 0 5 0,om 1 6 1,oa 2 7 (.bin .shr (.t 5) (.t 6)),oa 3 8 (.bin .and (.t 7) (.c (.int .i64 1))),om 4 4 8]) .ret))
def Ix:Fn:=⟨⟨2,9,0,true,[.tmp 4],lW⟩,[.one .frz (.int .i64),.one .frz (.int .i64)],.one (.one .own (.int .i64))⟩
theorem mh:Ix.A:=A7 trivial
def N5:Int×Int→Int:=Ix.V
def TU:Int×Int→Prop:=Ix.O
theorem mI:Ix.B:=A8 trivial (by kernel_rfl) (fun x=>by kernel_rfl)
end
section
set_option maxRecDepth 100000
theorem l9 (x):N5 x=(iAnd .i64 (iShr .i64 x.1 x.2) 1):=(Ix.v x).trans (by kernel_rfl)
theorem mz (x):TU x=((0:Int)≤x.2):=(Ix.o x).trans (by kernel_rfl)
attribute [irreducible] N5 TU
end
section
set_option maxRecDepth 8000
def kK:DCode:=(.seq [3,2] (.region [oa 0 2 (.boxB 0 3 (.t 0)),oa 1 3 (.boxB 1 3 (.t 1)),oa 2 4 (.mv (.c (.bool false)))]) (.seq [3,2] (.seq [9,3,2] (.region [oa 0 5 (.fieldA 0 (.t 2)),oa 1 6 (.loadB 0 none (.t 5)),oa 2 7 (.fieldA 0 (.t 3)),oa 3 8 (.loadB 1 none (.t 7)),oa 4 9 (.bin .neq (.t 6) (.t 8))]) (.cond (.t 9) (.seq [4] (.region [oa 0 4 (.mv (.c (.bool false)))]) .ret) .skip)) (.seq [3,2] (.seq [14,3,2] (.region [oa 0 10 (.fieldA 1 (.t 2)),oa 1 11 (.loadB 0 none (.t 10)),oa 2 12 (.fieldA 1 (.t 3)),oa 3 13 (.loadB 1 none (.t 12)),oa 4 14 (.bin .neq (.t 11) (.t 13))]) (.cond (.t 14) (.seq [4] (.region [oa 0 4 (.mv (.c (.bool false)))]) .ret) .skip)) (.seq [] (.seq [19] (.region [oa 0 15 (.fieldA 2 (.t 2)),oa 1 16 (.loadB 0 none (.t 15)),oa 2 17 (.fieldA 2 (.t 3)),oa 3 18 (.loadB 1 none (.t 17)),oa 4 19 (.bin .neq (.t 16) (.t 18))]) (.cond (.t 19) (.seq [4] (.region [oa 0 4 (.mv (.c (.bool false)))]) .ret) .skip)) (.seq [4] (.region [oa 0 4 (.mv (.c (.bool true)))]) .ret)))))
def Is:Fn:=⟨⟨2,20,2,true,[.tmp 4],kK⟩,[.agg [(.frz,.int .i64),(.frz,.int .i64),(.frz,.int .i64)],.agg [(.frz,.int .i64),(.frz,.int .i64),(.frz,.int .i64)]],.one (.one .own (.bool))⟩
theorem kG:Is.A:=A7 trivial
def Iu:(Int×Int×Int)×(Int×Int×Int)→Bool:=Is.V
def NH:(Int×Int×Int)×(Int×Int×Int)→Prop:=Is.O
theorem kz:Is.B:=A8 trivial (by kernel_rfl) (fun x=>by kernel_rfl)
def jS:DCode:=(.seq [1,0] (.region [oa 0 4 (.mv (.c (.bool false)))]) (.seq [1,0] (.seq [10,1,0] (.region [on 0 6 0,oa 1 7 (.len (.t 6)),on 2 8 1,oa 3 9 (.len (.t 8)),oa 4 10 (.bin .neq (.t 7) (.t 9))]) (.cond (.t 10) (.seq [4] (.region [oa 0 4 (.mv (.c (.bool false)))]) .ret) .skip)) (.seq [] (.seq [5,1,0] (.region [oi 0 5 0]) (.block 0 (.loop [0,1,5] 1 (.seq [5,1,0] (.seq [14,5,1,0] (.region [om 0 11 5,on 1 12 0,oa 2 13 (.len (.t 12)),oa 3 14 (.bin .lss (.t 11) (.t 13))]) (.cond (.t 14) .skip (.exit 0))) (.seq [5,1,0] (.block 1 (.seq [26,5,1,0] (.region [on 0 17 0,om 1 18 5,xA 2 19 (.indexA 3 (.t 17) (.t 18)) (rg 2),xA 3 20 (.loadH (some 3) (.t 19)) (rg 3),on 4 21 1,om 5 22 5,xA 6 23 (.indexA 3 (.t 21) (.t 22)) [4,5],xA 7 24 (.loadH (some 3) (.t 23)) [4,5,6],xF 8 25 Is [(.t 20),(.t 24)] (rg 8),xA 9 26 (.un .not (.t 25)) (rg 9)]) (.cond (.t 26) (.seq [4] (.region [oa 0 4 (.mv (.c (.bool false)))]) .ret) .skip))) (.region [om 0 15 5,oa 1 16 (.bin .add (.t 15) (.c (.int .i64 1))),om 2 5 16])))))) (.seq [4] (.region [oa 0 4 (.mv (.c (.bool true)))]) .ret))))
def GC:Fn:=⟨⟨2,27,0,true,[.tmp 4],jS⟩,[.one .frz (.sl B8),.one .frz (.sl B8)],.one (.one .own (.bool))⟩
theorem XZ:GC.A:=A7 ⟨kG,trivial⟩
def Ip:(List (Int×Int×Int))×(List (Int×Int×Int))→Bool:=GC.V
def Nv:(List (Int×Int×Int))×(List (Int×Int×Int))→Prop:=GC.O
theorem Ye:GC.B:=A8 ⟨kz,trivial⟩ (by kernel_rfl) (fun x=>by kernel_rfl)
end
section
set_option maxRecDepth 100000
theorem kc (x):Iu x=(bAnd (bNot (iNe x.1.1 x.2.1)) (bAnd (bNot (iNe x.1.2.1 x.2.2.1)) (bNot (iNe x.1.2.2 x.2.2.2)))):=(Is.v x).trans (by kernel_rfl)
theorem jX (x):NH x=True:=(Is.o x).trans (by kernel_rfl)
theorem jQ (x):Ip x=(bAnd (bNot (iNe (lLen x.1) (lLen x.2))) (bNot (iLt (An (fun(x0:Int)=>(bAnd (iLt x0 (lLen x.1)) (bNot (bNot (Iu (((lGet x.1 (iNat x0) (0,0,0)).1,(lGet x.1 (iNat x0) (0,0,0)).2.1,(lGet x.1 (iNat x0) (0,0,0)).2.2),(lGet x.2 (iNat x0) (0,0,0)).1,(lGet x.2 (iNat x0) (0,0,0)).2.1,(lGet x.2 (iNat x0) (0,0,0)).2.2)))))) (fun(x0:Int)=>(iAdd .i64 x0 1)) 0) (lLen x.1)))):=(GC.v x).trans (by kernel_rfl)
theorem js (x):Nv x=(((iNe (lLen x.1) (lLen x.2))=true→True)∧((iNe (lLen x.1) (lLen x.2))=false→(LoopOk (fun(x0:Int)=>(bAnd (iLt x0 (lLen x.1)) (bNot (bNot (Iu (((lGet x.1 (iNat x0) (0,0,0)).1,(lGet x.1 (iNat x0) (0,0,0)).2.1,(lGet x.1 (iNat x0) (0,0,0)).2.2),(lGet x.2 (iNat x0) (0,0,0)).1,(lGet x.2 (iNat x0) (0,0,0)).2.1,(lGet x.2 (iNat x0) (0,0,0)).2.2)))))) (fun(x0:Int)=>(iAdd .i64 x0 1)) (fun(x0:Int)=>(((iLt x0 (lLen x.1))=true→((((0:Int)≤x0)∧(x0<(((List.length x.1):Int))))∧(((iNat x0)<(List.length x.1))∧((((0:Int)≤x0)∧(x0<(((List.length x.2):Int))))∧(((iNat x0)<(List.length x.2))∧(NH (((lGet x.1 (iNat x0) (0,0,0)).1,(lGet x.1 (iNat x0) (0,0,0)).2.1,(lGet x.1 (iNat x0) (0,0,0)).2.2),(lGet x.2 (iNat x0) (0,0,0)).1,(lGet x.2 (iNat x0) (0,0,0)).2.1,(lGet x.2 (iNat x0) (0,0,0)).2.2)))))))∧((iLt x0 (lLen x.1))=false→True))) 0))):=(GC.o x).trans (by kernel_rfl)
attribute [irreducible] Iu NH Ip Nv
end
section
set_option maxRecDepth 8000
def jV:DCode:=(.seq [3,0] (.region [oa 0 3 (.boxB 0 3 (.t 1)),oi 1 4 0]) (.seq [] (.seq [5,3,0] (.region [oi 0 5 0]) (.block 0 (.loop [0,3,5] 1 (.seq [5,3,0] (.seq [9,5,3,0] (.region [om 0 6 5,on 1 7 0,oa 2 8 (.len (.t 7)),oa 3 9 (.bin .lss (.t 6) (.t 8))]) (.cond (.t 9) .skip (.exit 0))) (.seq [5,3,0] (.block 1 (.seq [31,5,3,0] (.region [on 0 12 0,om 1 13 5,xA 2 14 (.indexA 5 (.t 12) (.t 13)) (rg 2),xA 3 15 (.fieldA 1 (.t 14)) (rg 3),xA 4 16 (.fieldA 1 (.t 15)) (rg 4),xA 5 17 (.loadH none (.t 16)) (rg 5),oa 6 18 (.fieldA 1 (.t 3)),xA 7 19 (.loadB 0 none (.t 18)) [6],xA 8 20 (.bin .eql (.t 17) (.t 19)) (rg 8),xA 9 21 (.mv (.t 20)) (rg 9),⟨10,some 22,.a true (.mv (.t 0)) none,(some (21,true)),[0,1,2,3,4,5,6,7,8,9]⟩,⟨11,some 23,.a false (.mv (.t 5)) none,(some (21,true)),[0,1,2,3,4,5,6,7,8,9]⟩,⟨12,some 24,.a false (.indexA 5 (.t 22) (.t 23)) none,(some (21,true)),[0,1,2,3,4,5,6,7,8,9,10,11]⟩,⟨13,some 25,.a false (.fieldA 1 (.t 24)) none,(some (21,true)),[0,1,2,3,4,5,6,7,8,9,10,11,12]⟩,⟨14,some 26,.a false (.fieldA 2 (.t 25)) none,(some (21,true)),[0,1,2,3,4,5,6,7,8,9,10,11,12,13]⟩,⟨15,some 27,.a false (.loadH none (.t 26)) none,(some (21,true)),[0,1,2,3,4,5,6,7,8,9,10,11,12,13,14]⟩,⟨16,some 28,.a false (.fieldA 2 (.t 3)) none,(some (21,true)),[0,1,2,3,4,5,6,7,8,9]⟩,⟨17,some 29,.a false (.loadB 0 none (.t 28)) none,(some (21,true)),[0,1,2,3,4,5,6,7,8,9,16]⟩,⟨18,some 30,.a false (.bin .eql (.t 27) (.t 29)) none,(some (21,true)),[0,1,2,3,4,5,6,7,8,9,10,11,12,13,14,15,16,17]⟩,xA 19 31 (.pick (.t 21) (.t 30) (.c (.bool false))) (rg 19)]) (.cond (.t 31) (.seq [4] (.region [om 0 32 5,om 1 4 32]) .ret) .skip))) (.region [om 0 10 5,oa 1 11 (.bin .add (.t 10) (.c (.int .i64 1))),om 2 5 11])))))) (.seq [4] (.region [oi 0 4 (-1)]) .ret)))
def It:Fn:=⟨⟨2,33,1,true,[.tmp 4],jV⟩,[.one .frz (.sl MZ),.agg [(.frz,.int .i64),(.frz,.int .i64),(.frz,.int .i64)]],.one (.one .own (.int .i64))⟩
theorem kl:It.A:=A7 trivial
def E3:(List (Int×Int×Int×Int×Int))×(Int×Int×Int)→Int:=It.V
def Qr:(List (Int×Int×Int×Int×Int))×(Int×Int×Int)→Prop:=It.O
theorem ke:It.B:=A8 trivial (by kernel_rfl) (fun x=>by kernel_rfl)
def jb:DCode:=(.seq [2,1] (.region [oa 0 1 (.boxB 0 3 (.t 0)),oa 1 2 (.allocB 1 [(.int .i64 0),(.int .i64 0),(.int .i64 0),(.int .i64 0)])]) (.seq [2] (.region [oa 0 3 (.fieldA 1 (.t 1)),ob 1 4 (.loadB 0 none (.t 3)),oa 2 5 (.fieldA 2 (.t 1)),ob 3 6 (.loadB 0 none (.t 5)),oa 4 7 (.build [(.int .i64 0),(.int .i64 0),(.int .i64 0),(.int .i64 0)] [(0,1,(.c (.int .i64 2))),(1,1,(.t 4)),(2,1,(.t 6))]),os 5 (.storeB 1 4 (.t 2) (.t 7))]) .ret))
def E0:Fn:=⟨⟨1,8,2,true,[.cell 2 (some 4)],jb⟩,[.agg [(.frz,.int .i64),(.frz,.int .i64),(.frz,.int .i64)]],.one (.agg [(.own,.int .i64),(.own,.int .i64),(.own,.int .i64),(.own,.int .i64)])⟩
theorem XG:E0.A:=A7 trivial
def Bd:Int×Int×Int→Int×Int×Int×Int:=E0.V
def Nl:Int×Int×Int→Prop:=E0.O
theorem XH:E0.B:=A8 trivial (by kernel_rfl) (fun x=>by kernel_rfl)
def iH:DCode:=(.seq [1,0] (.region [oa 0 4 (.mv (.c .nils))]) (.seq [4] (.region [on 1 6 0,om 2 7 1,xA 3 8 (.slice 5 (.t 6) none (some (.t 7))) [1,2],on 5 10 0,om 6 11 1,xA 7 12 (.bin .add (.t 11) (.c (.int .i64 1))) [6],xA 8 13 (.slice 5 (.t 10) (some (.t 12)) none) [5,6,7],⟨0,some 5,.a false (.litSlice 5 0 [] []) (some MZ),none,[]⟩,xA 4 9 (.app 5 (.t 5) (.t 8)) (rg 4),xA 9 14 (.app 5 (.t 9) (.t 13)) (rg 9),xA 10 4 (.mv (.t 14)) (rg 10)]) .ret))
def Ii:Fn:=⟨⟨2,15,0,false,[.tmp 4],iH⟩,[.one .frz (.sl MZ),.one .frz (.int .i64)],.one (.one .own (.sl MZ))⟩
theorem ie:Ii.A:=A7 trivial
def Hg:(List (Int×Int×Int×Int×Int))×Int→List (Int×Int×Int×Int×Int):=Ii.V
def P8:(List (Int×Int×Int×Int×Int))×Int→Prop:=Ii.O
theorem iv:Ii.B:=A8 trivial (by kernel_rfl) (fun x=>by kernel_rfl)
def jq:DCode:=(.seq [0] (.region [oa 0 2 (.mv (.c (.bool false)))]) (.seq [3,0] (.region [⟨0,some 7,.a false (.litSlice 5 0 [] []) (some MZ),none,[]⟩,om 1 3 7]) (.seq [3,0] (.seq [4,3,0] (.region [oi 0 4 0]) (.block 0 (.loop [0,3,4] 1 (.seq [4,3,0] (.seq [11,4,3,0] (.region [om 0 8 4,on 1 9 0,oa 2 10 (.len (.t 9)),oa 3 11 (.bin .lss (.t 8) (.t 10))]) (.cond (.t 11) .skip (.exit 0))) (.seq [4,3,0] (.block 1 (.seq [5,4,3,0] (.region [on 0 14 0,om 1 15 4,oa 2 16 (.indexA 3 (.t 14) (.t 15)),ob 3 17 (.loadH (some 3) (.t 16)),oa 4 5 (.allocB 0 [(.int .i64 0),(.int .i64 0),(.int .i64 0)]),os 5 (.storeB 0 3 (.t 5) (.t 17))]) (.seq [6,5,4,3,0] (.region [on 0 18 3,oa 1 19 (.loadB 0 (some 3) (.t 5)),oF 2 20 It [(.t 18),(.t 19)],om 3 6 20]) (.seq [6,5,4,3,0] (.seq [38,6,5,4,3,0] (.region [oa 0 21 (.fieldA 0 (.t 5)),oa 1 22 (.loadB 0 none (.t 21)),oF 2 23 CI [(.t 22),(.c (.int .i64 0)),(.c (.int .i64 2))],oa 3 24 (.un .not (.t 23)),om 4 25 24,og 5 26 (.loadB 0 (some 3) (.t 5)) 25 false,⟨6,some 27,.call false E0.S E0.P E0.D [(.t 26)],(some (25,false)),[]⟩,⟨7,some 28,.call false Fs.S Fs.P Fs.D [(.t 27)],(some (25,false)),[]⟩,og 8 29 (.un .not (.t 28)) 25 false,oa 9 30 (.pick (.t 25) (.c (.bool true)) (.t 29)),om 10 31 30,og 11 32 (.fieldA 0 (.t 5)) 31 false,og 12 33 (.loadB 0 none (.t 32)) 31 false,og 13 34 (.bin .eql (.t 33) (.c (.int .i64 2))) 31 false,og 14 35 (.mv (.t 6)) 31 false,og 15 36 (.bin .geq (.t 35) (.c (.int .i64 0))) 31 false,og 16 37 (.eqB true (.t 34) (.t 36)) 31 false,oa 17 38 (.pick (.t 31) (.c (.bool true)) (.t 37))]) (.cond (.t 38) (.seq [2] (.region [oa 0 2 (.mv (.c (.bool false)))]) .ret) .skip)) (.seq [40,6,5,4,3,0] (.region [oa 0 39 (.fieldA 0 (.t 5)),oa 1 40 (.loadB 0 none (.t 39))]) (.block 2 (.seq [41,40,6,5,4,3,0] (.region [oa 0 42 (.bin .eql (.t 40) (.c (.int .i64 1))),om 1 41 42]) (.cond (.t 41) (.region [om 0 43 3,oa 1 44 (.loadB 0 (some 3) (.t 5)),oF 2 45 E0 [(.t 44)],oa 3 46 (.build [(.int .i64 0),(.int .i64 0),(.int .i64 0),(.int .i64 0),(.int .i64 0)] [(1,4,(.t 45))]),⟨4,some 47,.a false (.litSlice 5 1 [(.int .i64 0),(.int .i64 0),(.int .i64 0),(.int .i64 0),(.int .i64 0)] [(0,5,(.t 46))]) (some MZ),none,[]⟩,oa 5 48 (.app 5 (.t 43) (.t 47)),om 6 3 48]) (.seq [49,6,4,3,0] (.region [oa 0 50 (.bin .eql (.t 40) (.c (.int .i64 2))),om 1 49 50]) (.cond (.t 49) (.region [on 0 51 3,om 1 52 6,oF 2 53 Ii [(.t 51),(.t 52)],om 3 3 53]) .skip)))))))))) (.region [om 0 12 4,oa 1 13 (.bin .add (.t 12) (.c (.int .i64 1))),om 2 4 13])))))) (.seq [2] (.region [on 0 54 0,oa 1 55 (.len (.t 54)),oa 2 56 (.bin .leq (.t 55) (.c (.int .i64 8))),om 3 57 56,⟨4,some 58,.a true (.mv (.t 3)) none,(some (57,true)),[]⟩,og 5 59 (.len (.t 58)) 57 true,og 6 60 (.bin .eql (.t 59) (.c (.int .i64 0))) 57 true,oa 7 61 (.pick (.t 57) (.t 60) (.c (.bool false))),om 8 2 61]) .ret))))
def E1:Fn:=⟨⟨1,62,1,true,[.tmp 2],jq⟩,[.one .frz (.sl B8)],.one (.one .own (.bool))⟩
theorem jz:E1.A:=A7 ⟨kl,Kj,XG,XA,XG,ie,trivial⟩
def E2:List (Int×Int×Int)→Bool:=E1.V
def NA:List (Int×Int×Int)→Prop:=E1.O
theorem jR:E1.B:=A8 ⟨ke,Kk,XH,XJ,XH,iv,trivial⟩ (by kernel_rfl) (fun x=>by kernel_rfl)
def j7:DCode:=(.seq [3,0] (.region [oa 0 3 (.boxB 0 2 (.t 1)),oi 1 4 0]) (.seq [] (.seq [9,8,7,3] (.region [on 0 7 0,oa 1 8 (.len (.t 7)),oi 2 9 0]) (.block 0 (.loop [3,7,8,9] 1 (.seq [10,9,8,7,3] (.region [oa 0 10 (.bin .lss (.t 9) (.t 8))]) (.seq [9,8,7,3] (.cond (.t 10) .skip (.exit 0)) (.seq [9,8,7,3] (.block 1 (.seq [9,8,7,6,5,3] (.region [om 0 11 9,oa 1 12 (.indexA 2 (.t 7) (.t 9)),ob 2 13 (.loadH (some 2) (.t 12)),oa 3 6 (.allocB 1 [(.int .i64 0),(.int .i64 0)]),om 4 5 11,os 5 (.storeB 1 2 (.t 6) (.t 13))]) (.seq [16,9,8,7,5,3] (.region [oa 0 14 (.loadB 1 (some 2) (.t 6)),oa 1 15 (.loadB 0 (some 2) (.t 3)),oa 2 16 (.eqA 2 false (.t 14) (.t 15))]) (.cond (.t 16) (.seq [4] (.region [om 0 17 5,om 1 4 17]) .ret) .skip)))) (.region [oa 0 18 (.bin .add (.t 9) (.c (.int .i64 1))),om 1 9 18]))))))) (.seq [4] (.region [oi 0 4 (-1)]) .ret)))
def Ir:Fn:=⟨⟨2,19,2,true,[.tmp 4],j7⟩,[.one .frz (.sl (.cons (.int .i64) (.one (.int .i64)))),.agg [(.frz,.int .i64),(.frz,.int .i64)]],.one (.one .own (.int .i64))⟩
theorem kh:Ir.A:=A7 trivial
def BQ:(List (Int×Int))×(Int×Int)→Int:=Ir.V
def Qw:(List (Int×Int))×(Int×Int)→Prop:=Ir.O
theorem kn:Ir.B:=A8 trivial (by kernel_rfl) (fun x=>by kernel_rfl)
def jF:DCode:=(.seq [0] (.region [oa 0 2 (.mv (.c (.bool false)))]) (.seq [0] (.seq [10,0] (.region [on 0 8 0,oa 1 9 (.len (.t 8)),oa 2 10 (.bin .gtr (.t 9) (.c (.int .i64 8)))]) (.cond (.t 10) (.seq [2] (.region [oa 0 2 (.mv (.c (.bool false)))]) .ret) .skip)) (.seq [3,0] (.region [⟨0,some 3,.aw [(0,2)] false (.mv (.c .nils)) none,none,[]⟩]) (.seq [3] (.seq [13,12,11,3] (.region [on 0 11 0,oa 1 12 (.len (.t 11)),oi 2 13 0]) (.block 0 (.loop [3,11,12,13] 1 (.seq [14,13,12,11,3] (.region [oa 0 14 (.bin .lss (.t 13) (.t 12))]) (.seq [13,12,11,3] (.cond (.t 14) .skip (.exit 0)) (.seq [13,12,11,3] (.block 1 (.seq [13,12,11,5,3] (.region [oa 0 15 (.indexA 3 (.t 11) (.t 13)),ob 1 16 (.loadH (some 3) (.t 15)),oa 2 5 (.allocB 0 [(.int .i64 0),(.int .i64 0),(.int .i64 0)]),os 3 (.storeB 0 3 (.t 5) (.t 16))]) (.seq [13,12,11,6,5,3] (.region [oa 0 17 (.fieldA 1 (.t 5)),ob 1 18 (.loadB 0 none (.t 17)),oa 2 19 (.fieldA 2 (.t 5)),ob 3 20 (.loadB 0 none (.t 19)),oa 4 21 (.build [(.int .i64 0),(.int .i64 0)] [(0,1,(.t 18)),(1,1,(.t 20))]),oa 5 6 (.allocB 1 [(.int .i64 0),(.int .i64 0)]),os 6 (.storeB 1 2 (.t 6) (.t 21))]) (.seq [13,12,11,7,6,5,3] (.region [on 0 22 3,oa 1 23 (.loadB 1 (some 2) (.t 6)),oF 2 24 Ir [(.t 22),(.t 23)],om 3 7 24]) (.seq [13,12,11,7,6,5,3] (.seq [31,13,12,11,7,6,5,3] (.region [oa 0 25 (.fieldA 1 (.t 5)),ob 1 26 (.loadB 0 none (.t 25)),oa 2 27 (.fieldA 2 (.t 5)),ob 3 28 (.loadB 0 none (.t 27)),oa 4 29 (.build [(.int .i64 0),(.int .i64 0),(.int .i64 0),(.int .i64 0)] [(0,1,(.c (.int .i64 2))),(1,1,(.t 26)),(2,1,(.t 28))]),oF 5 30 Fq [(.t 29)],oa 6 31 (.un .not (.t 30))]) (.cond (.t 31) (.seq [2] (.region [oa 0 2 (.mv (.c (.bool false)))]) .ret) .skip)) (.seq [33,13,12,11,7,6,5,3] (.region [oa 0 32 (.fieldA 0 (.t 5)),oa 1 33 (.loadB 0 none (.t 32))]) (.block 2 (.seq [34,33,13,12,11,7,6,5,3] (.seq [34,33,13,12,11,7,6,5,3] (.region [oa 0 35 (.bin .eql (.t 33) (.c (.int .i64 0))),om 1 34 35]) (.cond (.t 34) .skip (.region [oa 0 36 (.bin .eql (.t 33) (.c (.int .i64 1))),om 1 34 36]))) (.cond (.t 34) (.seq [13,12,11,6,5,3] (.seq [38,13,12,11,6,5,3] (.region [om 0 37 7,oa 1 38 (.bin .geq (.t 37) (.c (.int .i64 0)))]) (.cond (.t 38) (.seq [2] (.region [oa 0 2 (.mv (.c (.bool false)))]) .ret) .skip)) (.seq [41,13,12,11,6,3] (.region [oa 0 39 (.fieldA 0 (.t 5)),oa 1 40 (.loadB 0 none (.t 39)),oa 2 41 (.bin .eql (.t 40) (.c (.int .i64 1)))]) (.cond (.t 41) (.region [om 0 42 3,ob 1 43 (.loadB 1 (some 2) (.t 6)),⟨2,some 44,.a false (.litSlice 2 1 [(.int .i64 0),(.int .i64 0)] [(0,2,(.t 43))]) (some (.cons (.int .i64) (.one (.int .i64)))),none,[]⟩,⟨3,some 45,.aw [(0,2)] false (.app 2 (.t 42) (.t 44)) none,none,[]⟩,⟨4,some 3,.aw [(0,2)] false (.mv (.t 45)) none,none,[]⟩]) .skip))) (.seq [46,13,12,11,7,3] (.region [oa 0 47 (.bin .eql (.t 33) (.c (.int .i64 2))),om 1 46 47]) (.cond (.t 46) (.seq [13,12,11,7,3] (.seq [49,13,12,11,7,3] (.region [om 0 48 7,oa 1 49 (.bin .lss (.t 48) (.c (.int .i64 0)))]) (.cond (.t 49) (.seq [2] (.region [oa 0 2 (.mv (.c (.bool false)))]) .ret) .skip)) (.region [on 0 50 3,om 1 51 7,xA 2 52 (.slice 2 (.t 50) none (some (.t 51))) (rg 2),on 3 53 3,om 4 54 7,xA 5 55 (.bin .add (.t 54) (.c (.int .i64 1))) [4],xA 6 56 (.slice 2 (.t 53) (some (.t 55)) none) [3,4,5],⟨7,some 57,.aw [(0,2)] false (.app 2 (.t 52) (.t 56)) none,none,[0,1,2,3,4,5,6]⟩,⟨8,some 3,.aw [(0,2)] false (.mv (.t 57)) none,none,[0,1,2,3,4,5,6,7]⟩])) (.seq [2] (.region [oa 0 2 (.mv (.c (.bool false)))]) .ret)))))))))))) (.region [oa 0 58 (.bin .add (.t 13) (.c (.int .i64 1))),om 1 13 58]))))))) (.seq [2] (.region [on 0 59 3,oa 1 60 (.len (.t 59)),oa 2 61 (.bin .eql (.t 60) (.c (.int .i64 0))),om 3 2 61]) .ret)))))
def GB:Fn:=⟨⟨1,62,2,true,[.tmp 2],jF⟩,[.one .frz (.sl B8)],.one (.one .own (.bool))⟩
theorem XW:GB.A:=A7 ⟨kh,Tw,trivial⟩
def Il:List (Int×Int×Int)→Bool:=GB.V
def Nu:List (Int×Int×Int)→Prop:=GB.O
theorem XT:GB.B:=A8 ⟨kn,Tv,trivial⟩ (by kernel_rfl) (fun x=>by kernel_rfl)
end
section
set_option maxRecDepth 100000
theorem kL (x):E3 x=(bSel (iLt (An (fun(x0:Int)=>(bAnd (iLt x0 (lLen x.1)) (bNot (bAnd (iEq (lGet x.1 (iNat x0) (0,0,0,0,0)).2.2.1 x.2.2.1) (iEq (lGet x.1 (iNat x0) (0,0,0,0,0)).2.2.2.1 x.2.2.2))))) (fun(x0:Int)=>(iAdd .i64 x0 1)) 0) (lLen x.1)) (An (fun(x0:Int)=>(bAnd (iLt x0 (lLen x.1)) (bNot (bAnd (iEq (lGet x.1 (iNat x0) (0,0,0,0,0)).2.2.1 x.2.2.1) (iEq (lGet x.1 (iNat x0) (0,0,0,0,0)).2.2.2.1 x.2.2.2))))) (fun(x0:Int)=>(iAdd .i64 x0 1)) 0) (-1)):=(It.v x).trans (by kernel_rfl)
theorem ki (x):Qr x=(LoopOk (fun(x0:Int)=>(bAnd (iLt x0 (lLen x.1)) (bNot (bAnd (iEq (lGet x.1 (iNat x0) (0,0,0,0,0)).2.2.1 x.2.2.1) (iEq (lGet x.1 (iNat x0) (0,0,0,0,0)).2.2.2.1 x.2.2.2))))) (fun(x0:Int)=>(iAdd .i64 x0 1)) (fun(x0:Int)=>(((iLt x0 (lLen x.1))=true→((((0:Int)≤x0)∧(x0<(((List.length x.1):Int))))∧(((iNat x0)<(List.length x.1))∧(((iEq (lGet x.1 (iNat x0) (0,0,0,0,0)).2.2.1 x.2.2.1)=true→((((0:Int)≤x0)∧(x0<(((List.length x.1):Int))))∧((iNat x0)<(List.length x.1))))∧((iEq (lGet x.1 (iNat x0) (0,0,0,0,0)).2.2.1 x.2.2.1)=false→True)))))∧((iLt x0 (lLen x.1))=false→True))) 0):=(It.o x).trans (by kernel_rfl)
theorem Nq (x):Bd x=(2,x.2.1,x.2.2,0):=(E0.v x).trans (by kernel_rfl)
theorem XP (x):Nl x=True:=(E0.o x).trans (by kernel_rfl)
theorem Xp (x):Hg x=(lApp (lApp [] (lSub x.1 0 (iNat x.2))) (lSub x.1 (iNat (iAdd .i64 x.2 1)) (lN x.1))):=(Ii.v x).trans (by kernel_rfl)
theorem iz (x):P8 x=((((0:Int)≤x.2)∧((0≤(iNat x.2))∧(((iNat x.2)≤(List.length x.1))∧(0<(List.length x.1)))))∧((((0:Int)≤(iAdd .i64 x.2 1))∧(((iNat (iAdd .i64 x.2 1))≤(lN x.1))∧(((lN x.1)≤(List.length x.1))∧(0<(List.length x.1)))))∧((A5 (((List.length ([]:List (Int×(Int×(Int×(Int×Int))))))+(List.length (lSub x.1 0 (iNat x.2))))*5))∧(A5 (((List.length (lApp [] (lSub x.1 0 (iNat x.2))))+(List.length (lSub x.1 (iNat (iAdd .i64 x.2 1)) (lN x.1))))*5))))):=(Ii.o x).trans (by kernel_rfl)
theorem Yc (x):E2 x=(bAnd (bNot (iLt (An (fun(x0:((List (Int×(Int×(Int×(Int×Int)))))×Int))=>(bAnd (iLt x0.2 (lLen x)) (bNot (bOr (bNot (B3 ((lGet x (iNat x0.2) (0,0,0)).1,0,2))) (bOr (bNot (Cl ((Bd ((lGet x (iNat x0.2) (0,0,0)).1,(lGet x (iNat x0.2) (0,0,0)).2.1,(lGet x (iNat x0.2) (0,0,0)).2.2)).1,(Bd ((lGet x (iNat x0.2) (0,0,0)).1,(lGet x (iNat x0.2) (0,0,0)).2.1,(lGet x (iNat x0.2) (0,0,0)).2.2)).2.1,(Bd ((lGet x (iNat x0.2) (0,0,0)).1,(lGet x (iNat x0.2) (0,0,0)).2.1,(lGet x (iNat x0.2) (0,0,0)).2.2)).2.2.1,(Bd ((lGet x (iNat x0.2) (0,0,0)).1,(lGet x (iNat x0.2) (0,0,0)).2.1,(lGet x (iNat x0.2) (0,0,0)).2.2)).2.2.2))) (bNot (bIff (iEq (lGet x (iNat x0.2) (0,0,0)).1 2) (iGe (E3 (x0.1,(lGet x (iNat x0.2) (0,0,0)).1,(lGet x (iNat x0.2) (0,0,0)).2.1,(lGet x (iNat x0.2) (0,0,0)).2.2)) 0)))))))) (fun(x0:((List (Int×(Int×(Int×(Int×Int)))))×Int))=>((bSel (iEq (lGet x (iNat x0.2) (0,0,0)).1 1) (lApp x0.1 [(0,(Bd ((lGet x (iNat x0.2) (0,0,0)).1,(lGet x (iNat x0.2) (0,0,0)).2.1,(lGet x (iNat x0.2) (0,0,0)).2.2)).1,(Bd ((lGet x (iNat x0.2) (0,0,0)).1,(lGet x (iNat x0.2) (0,0,0)).2.1,(lGet x (iNat x0.2) (0,0,0)).2.2)).2.1,(Bd ((lGet x (iNat x0.2) (0,0,0)).1,(lGet x (iNat x0.2) (0,0,0)).2.1,(lGet x (iNat x0.2) (0,0,0)).2.2)).2.2.1,(Bd ((lGet x (iNat x0.2) (0,0,0)).1,(lGet x (iNat x0.2) (0,0,0)).2.1,(lGet x (iNat x0.2) (0,0,0)).2.2)).2.2.2)]) (bSel (iEq (lGet x (iNat x0.2) (0,0,0)).1 2) (Hg (x0.1,(E3 (x0.1,(lGet x (iNat x0.2) (0,0,0)).1,(lGet x (iNat x0.2) (0,0,0)).2.1,(lGet x (iNat x0.2) (0,0,0)).2.2)))) x0.1)),(iAdd .i64 x0.2 1))) ([],0)).2 (lLen x))) (bAnd (iLe (lLen x) 8) (iEq (lLen (An (fun(x0:((List (Int×(Int×(Int×(Int×Int)))))×Int))=>(bAnd (iLt x0.2 (lLen x)) (bNot (bOr (bNot (B3 ((lGet x (iNat x0.2) (0,0,0)).1,0,2))) (bOr (bNot (Cl ((Bd ((lGet x (iNat x0.2) (0,0,0)).1,(lGet x (iNat x0.2) (0,0,0)).2.1,(lGet x (iNat x0.2) (0,0,0)).2.2)).1,(Bd ((lGet x (iNat x0.2) (0,0,0)).1,(lGet x (iNat x0.2) (0,0,0)).2.1,(lGet x (iNat x0.2) (0,0,0)).2.2)).2.1,(Bd ((lGet x (iNat x0.2) (0,0,0)).1,(lGet x (iNat x0.2) (0,0,0)).2.1,(lGet x (iNat x0.2) (0,0,0)).2.2)).2.2.1,(Bd ((lGet x (iNat x0.2) (0,0,0)).1,(lGet x (iNat x0.2) (0,0,0)).2.1,(lGet x (iNat x0.2) (0,0,0)).2.2)).2.2.2))) (bNot (bIff (iEq (lGet x (iNat x0.2) (0,0,0)).1 2) (iGe (E3 (x0.1,(lGet x (iNat x0.2) (0,0,0)).1,(lGet x (iNat x0.2) (0,0,0)).2.1,(lGet x (iNat x0.2) (0,0,0)).2.2)) 0)))))))) (fun(x0:((List (Int×(Int×(Int×(Int×Int)))))×Int))=>((bSel (iEq (lGet x (iNat x0.2) (0,0,0)).1 1) (lApp x0.1 [(0,(Bd ((lGet x (iNat x0.2) (0,0,0)).1,(lGet x (iNat x0.2) (0,0,0)).2.1,(lGet x (iNat x0.2) (0,0,0)).2.2)).1,(Bd ((lGet x (iNat x0.2) (0,0,0)).1,(lGet x (iNat x0.2) (0,0,0)).2.1,(lGet x (iNat x0.2) (0,0,0)).2.2)).2.1,(Bd ((lGet x (iNat x0.2) (0,0,0)).1,(lGet x (iNat x0.2) (0,0,0)).2.1,(lGet x (iNat x0.2) (0,0,0)).2.2)).2.2.1,(Bd ((lGet x (iNat x0.2) (0,0,0)).1,(lGet x (iNat x0.2) (0,0,0)).2.1,(lGet x (iNat x0.2) (0,0,0)).2.2)).2.2.2)]) (bSel (iEq (lGet x (iNat x0.2) (0,0,0)).1 2) (Hg (x0.1,(E3 (x0.1,(lGet x (iNat x0.2) (0,0,0)).1,(lGet x (iNat x0.2) (0,0,0)).2.1,(lGet x (iNat x0.2) (0,0,0)).2.2)))) x0.1)),(iAdd .i64 x0.2 1))) ([],0)).1) 0))):=(E1.v x).trans (by kernel_rfl)
theorem jx (x):NA x=(LoopOk (fun(x0:((List (Int×(Int×(Int×(Int×Int)))))×Int))=>(bAnd (iLt x0.2 (lLen x)) (bNot (bOr (bNot (B3 ((lGet x (iNat x0.2) (0,0,0)).1,0,2))) (bOr (bNot (Cl ((Bd ((lGet x (iNat x0.2) (0,0,0)).1,(lGet x (iNat x0.2) (0,0,0)).2.1,(lGet x (iNat x0.2) (0,0,0)).2.2)).1,(Bd ((lGet x (iNat x0.2) (0,0,0)).1,(lGet x (iNat x0.2) (0,0,0)).2.1,(lGet x (iNat x0.2) (0,0,0)).2.2)).2.1,(Bd ((lGet x (iNat x0.2) (0,0,0)).1,(lGet x (iNat x0.2) (0,0,0)).2.1,(lGet x (iNat x0.2) (0,0,0)).2.2)).2.2.1,(Bd ((lGet x (iNat x0.2) (0,0,0)).1,(lGet x (iNat x0.2) (0,0,0)).2.1,(lGet x (iNat x0.2) (0,0,0)).2.2)).2.2.2))) (bNot (bIff (iEq (lGet x (iNat x0.2) (0,0,0)).1 2) (iGe (E3 (x0.1,(lGet x (iNat x0.2) (0,0,0)).1,(lGet x (iNat x0.2) (0,0,0)).2.1,(lGet x (iNat x0.2) (0,0,0)).2.2)) 0)))))))) (fun(x0:((List (Int×(Int×(Int×(Int×Int)))))×Int))=>((bSel (iEq (lGet x (iNat x0.2) (0,0,0)).1 1) (lApp x0.1 [(0,(Bd ((lGet x (iNat x0.2) (0,0,0)).1,(lGet x (iNat x0.2) (0,0,0)).2.1,(lGet x (iNat x0.2) (0,0,0)).2.2)).1,(Bd ((lGet x (iNat x0.2) (0,0,0)).1,(lGet x (iNat x0.2) (0,0,0)).2.1,(lGet x (iNat x0.2) (0,0,0)).2.2)).2.1,(Bd ((lGet x (iNat x0.2) (0,0,0)).1,(lGet x (iNat x0.2) (0,0,0)).2.1,(lGet x (iNat x0.2) (0,0,0)).2.2)).2.2.1,(Bd ((lGet x (iNat x0.2) (0,0,0)).1,(lGet x (iNat x0.2) (0,0,0)).2.1,(lGet x (iNat x0.2) (0,0,0)).2.2)).2.2.2)]) (bSel (iEq (lGet x (iNat x0.2) (0,0,0)).1 2) (Hg (x0.1,(E3 (x0.1,(lGet x (iNat x0.2) (0,0,0)).1,(lGet x (iNat x0.2) (0,0,0)).2.1,(lGet x (iNat x0.2) (0,0,0)).2.2)))) x0.1)),(iAdd .i64 x0.2 1))) (fun(x0:((List (Int×(Int×(Int×(Int×Int)))))×Int))=>(((iLt x0.2 (lLen x))=true→((((0:Int)≤x0.2)∧(x0.2<(((List.length x):Int))))∧(((iNat x0.2)<(List.length x))∧((Qr (x0.1,(lGet x (iNat x0.2) (0,0,0)).1,(lGet x (iNat x0.2) (0,0,0)).2.1,(lGet x (iNat x0.2) (0,0,0)).2.2))∧(((Hj ((lGet x (iNat x0.2) (0,0,0)).1,0,2))∧(((bNot (B3 ((lGet x (iNat x0.2) (0,0,0)).1,0,2)))=true→True)∧((bNot (B3 ((lGet x (iNat x0.2) (0,0,0)).1,0,2)))=false→((Nl ((lGet x (iNat x0.2) (0,0,0)).1,(lGet x (iNat x0.2) (0,0,0)).2.1,(lGet x (iNat x0.2) (0,0,0)).2.2))∧(LB ((Bd ((lGet x (iNat x0.2) (0,0,0)).1,(lGet x (iNat x0.2) (0,0,0)).2.1,(lGet x (iNat x0.2) (0,0,0)).2.2)).1,(Bd ((lGet x (iNat x0.2) (0,0,0)).1,(lGet x (iNat x0.2) (0,0,0)).2.1,(lGet x (iNat x0.2) (0,0,0)).2.2)).2.1,(Bd ((lGet x (iNat x0.2) (0,0,0)).1,(lGet x (iNat x0.2) (0,0,0)).2.1,(lGet x (iNat x0.2) (0,0,0)).2.2)).2.2.1,(Bd ((lGet x (iNat x0.2) (0,0,0)).1,(lGet x (iNat x0.2) (0,0,0)).2.1,(lGet x (iNat x0.2) (0,0,0)).2.2)).2.2.2))))))∧(((bOr (bNot (B3 ((lGet x (iNat x0.2) (0,0,0)).1,0,2))) (bOr (bNot (Cl ((Bd ((lGet x (iNat x0.2) (0,0,0)).1,(lGet x (iNat x0.2) (0,0,0)).2.1,(lGet x (iNat x0.2) (0,0,0)).2.2)).1,(Bd ((lGet x (iNat x0.2) (0,0,0)).1,(lGet x (iNat x0.2) (0,0,0)).2.1,(lGet x (iNat x0.2) (0,0,0)).2.2)).2.1,(Bd ((lGet x (iNat x0.2) (0,0,0)).1,(lGet x (iNat x0.2) (0,0,0)).2.1,(lGet x (iNat x0.2) (0,0,0)).2.2)).2.2.1,(Bd ((lGet x (iNat x0.2) (0,0,0)).1,(lGet x (iNat x0.2) (0,0,0)).2.1,(lGet x (iNat x0.2) (0,0,0)).2.2)).2.2.2))) (bNot (bIff (iEq (lGet x (iNat x0.2) (0,0,0)).1 2) (iGe (E3 (x0.1,(lGet x (iNat x0.2) (0,0,0)).1,(lGet x (iNat x0.2) (0,0,0)).2.1,(lGet x (iNat x0.2) (0,0,0)).2.2)) 0)))))=true→True)∧((bOr (bNot (B3 ((lGet x (iNat x0.2) (0,0,0)).1,0,2))) (bOr (bNot (Cl ((Bd ((lGet x (iNat x0.2) (0,0,0)).1,(lGet x (iNat x0.2) (0,0,0)).2.1,(lGet x (iNat x0.2) (0,0,0)).2.2)).1,(Bd ((lGet x (iNat x0.2) (0,0,0)).1,(lGet x (iNat x0.2) (0,0,0)).2.1,(lGet x (iNat x0.2) (0,0,0)).2.2)).2.1,(Bd ((lGet x (iNat x0.2) (0,0,0)).1,(lGet x (iNat x0.2) (0,0,0)).2.1,(lGet x (iNat x0.2) (0,0,0)).2.2)).2.2.1,(Bd ((lGet x (iNat x0.2) (0,0,0)).1,(lGet x (iNat x0.2) (0,0,0)).2.1,(lGet x (iNat x0.2) (0,0,0)).2.2)).2.2.2))) (bNot (bIff (iEq (lGet x (iNat x0.2) (0,0,0)).1 2) (iGe (E3 (x0.1,(lGet x (iNat x0.2) (0,0,0)).1,(lGet x (iNat x0.2) (0,0,0)).2.1,(lGet x (iNat x0.2) (0,0,0)).2.2)) 0)))))=false→(((iEq (lGet x (iNat x0.2) (0,0,0)).1 1)=true→((Nl ((lGet x (iNat x0.2) (0,0,0)).1,(lGet x (iNat x0.2) (0,0,0)).2.1,(lGet x (iNat x0.2) (0,0,0)).2.2))∧(A5 (((List.length x0.1)+(List.length [(0,(Bd ((lGet x (iNat x0.2) (0,0,0)).1,(lGet x (iNat x0.2) (0,0,0)).2.1,(lGet x (iNat x0.2) (0,0,0)).2.2)).1,(Bd ((lGet x (iNat x0.2) (0,0,0)).1,(lGet x (iNat x0.2) (0,0,0)).2.1,(lGet x (iNat x0.2) (0,0,0)).2.2)).2.1,(Bd ((lGet x (iNat x0.2) (0,0,0)).1,(lGet x (iNat x0.2) (0,0,0)).2.1,(lGet x (iNat x0.2) (0,0,0)).2.2)).2.2.1,(Bd ((lGet x (iNat x0.2) (0,0,0)).1,(lGet x (iNat x0.2) (0,0,0)).2.1,(lGet x (iNat x0.2) (0,0,0)).2.2)).2.2.2)]))*5))))∧((iEq (lGet x (iNat x0.2) (0,0,0)).1 1)=false→(((iEq (lGet x (iNat x0.2) (0,0,0)).1 2)=true→(P8 (x0.1,(E3 (x0.1,(lGet x (iNat x0.2) (0,0,0)).1,(lGet x (iNat x0.2) (0,0,0)).2.1,(lGet x (iNat x0.2) (0,0,0)).2.2)))))∧((iEq (lGet x (iNat x0.2) (0,0,0)).1 2)=false→True)))))))))))∧((iLt x0.2 (lLen x))=false→True))) ([],0)):=(E1.o x).trans (by kernel_rfl)
theorem YA (x):BQ x=(bSel (iLt (An (fun(x0:Int)=>(bAnd (iLt x0 (lLen x.1)) (bNot (bAnd (iEq (lGet x.1 (iNat x0) (0,0)).1 x.2.1) (iEq (lGet x.1 (iNat x0) (0,0)).2 x.2.2))))) (fun(x0:Int)=>(iAdd .i64 x0 1)) 0) (lLen x.1)) (An (fun(x0:Int)=>(bAnd (iLt x0 (lLen x.1)) (bNot (bAnd (iEq (lGet x.1 (iNat x0) (0,0)).1 x.2.1) (iEq (lGet x.1 (iNat x0) (0,0)).2 x.2.2))))) (fun(x0:Int)=>(iAdd .i64 x0 1)) 0) (-1)):=(Ir.v x).trans (by kernel_rfl)
theorem jY (x):Qw x=(LoopOk (fun(x0:Int)=>(bAnd (iLt x0 (lLen x.1)) (bNot (bAnd (iEq (lGet x.1 (iNat x0) (0,0)).1 x.2.1) (iEq (lGet x.1 (iNat x0) (0,0)).2 x.2.2))))) (fun(x0:Int)=>(iAdd .i64 x0 1)) (fun(x0:Int)=>(((iLt x0 (lLen x.1))=true→((((0:Int)≤x0)∧(x0<(((List.length x.1):Int))))∧((iNat x0)<(List.length x.1))))∧((iLt x0 (lLen x.1))=false→True))) 0):=(Ir.o x).trans (by kernel_rfl)
theorem jK (x):Il x=(bAnd (bNot (iGt (lLen x) 8)) (bAnd (bNot (iLt (An (fun(x0:((List (Int×Int))×Int))=>(bAnd (iLt x0.2 (lLen x)) (bAnd (bNot (bNot (Ev (2,(lGet x (iNat x0.2) (0,0,0)).2.1,(lGet x (iNat x0.2) (0,0,0)).2.2,0)))) (bSel (bOr (iEq (lGet x (iNat x0.2) (0,0,0)).1 0) (iEq (lGet x (iNat x0.2) (0,0,0)).1 1)) (bNot (iGe (BQ (x0.1,(lGet x (iNat x0.2) (0,0,0)).2.1,(lGet x (iNat x0.2) (0,0,0)).2.2)) 0)) (bAnd (iEq (lGet x (iNat x0.2) (0,0,0)).1 2) (bNot (iLt (BQ (x0.1,(lGet x (iNat x0.2) (0,0,0)).2.1,(lGet x (iNat x0.2) (0,0,0)).2.2)) 0))))))) (fun(x0:((List (Int×Int))×Int))=>((bSel (bOr (iEq (lGet x (iNat x0.2) (0,0,0)).1 0) (iEq (lGet x (iNat x0.2) (0,0,0)).1 1)) (bSel (iEq (lGet x (iNat x0.2) (0,0,0)).1 1) (lApp x0.1 [((lGet x (iNat x0.2) (0,0,0)).2.1,(lGet x (iNat x0.2) (0,0,0)).2.2)]) x0.1) (lApp (lTake x0.1 (lN (lSub x0.1 0 (iNat (BQ (x0.1,(lGet x (iNat x0.2) (0,0,0)).2.1,(lGet x (iNat x0.2) (0,0,0)).2.2)))))) (lSub x0.1 (iNat (iAdd .i64 (BQ (x0.1,(lGet x (iNat x0.2) (0,0,0)).2.1,(lGet x (iNat x0.2) (0,0,0)).2.2)) 1)) (lN x0.1)))),(iAdd .i64 x0.2 1))) ([],0)).2 (lLen x))) (iEq (lLen (An (fun(x0:((List (Int×Int))×Int))=>(bAnd (iLt x0.2 (lLen x)) (bAnd (bNot (bNot (Ev (2,(lGet x (iNat x0.2) (0,0,0)).2.1,(lGet x (iNat x0.2) (0,0,0)).2.2,0)))) (bSel (bOr (iEq (lGet x (iNat x0.2) (0,0,0)).1 0) (iEq (lGet x (iNat x0.2) (0,0,0)).1 1)) (bNot (iGe (BQ (x0.1,(lGet x (iNat x0.2) (0,0,0)).2.1,(lGet x (iNat x0.2) (0,0,0)).2.2)) 0)) (bAnd (iEq (lGet x (iNat x0.2) (0,0,0)).1 2) (bNot (iLt (BQ (x0.1,(lGet x (iNat x0.2) (0,0,0)).2.1,(lGet x (iNat x0.2) (0,0,0)).2.2)) 0))))))) (fun(x0:((List (Int×Int))×Int))=>((bSel (bOr (iEq (lGet x (iNat x0.2) (0,0,0)).1 0) (iEq (lGet x (iNat x0.2) (0,0,0)).1 1)) (bSel (iEq (lGet x (iNat x0.2) (0,0,0)).1 1) (lApp x0.1 [((lGet x (iNat x0.2) (0,0,0)).2.1,(lGet x (iNat x0.2) (0,0,0)).2.2)]) x0.1) (lApp (lTake x0.1 (lN (lSub x0.1 0 (iNat (BQ (x0.1,(lGet x (iNat x0.2) (0,0,0)).2.1,(lGet x (iNat x0.2) (0,0,0)).2.2)))))) (lSub x0.1 (iNat (iAdd .i64 (BQ (x0.1,(lGet x (iNat x0.2) (0,0,0)).2.1,(lGet x (iNat x0.2) (0,0,0)).2.2)) 1)) (lN x0.1)))),(iAdd .i64 x0.2 1))) ([],0)).1) 0))):=(GB.v x).trans (by kernel_rfl)
theorem ju (x):Nu x=(((iGt (lLen x) 8)=true→True)∧((iGt (lLen x) 8)=false→(LoopOk (fun(x0:((List (Int×Int))×Int))=>(bAnd (iLt x0.2 (lLen x)) (bAnd (bNot (bNot (Ev (2,(lGet x (iNat x0.2) (0,0,0)).2.1,(lGet x (iNat x0.2) (0,0,0)).2.2,0)))) (bSel (bOr (iEq (lGet x (iNat x0.2) (0,0,0)).1 0) (iEq (lGet x (iNat x0.2) (0,0,0)).1 1)) (bNot (iGe (BQ (x0.1,(lGet x (iNat x0.2) (0,0,0)).2.1,(lGet x (iNat x0.2) (0,0,0)).2.2)) 0)) (bAnd (iEq (lGet x (iNat x0.2) (0,0,0)).1 2) (bNot (iLt (BQ (x0.1,(lGet x (iNat x0.2) (0,0,0)).2.1,(lGet x (iNat x0.2) (0,0,0)).2.2)) 0))))))) (fun(x0:((List (Int×Int))×Int))=>((bSel (bOr (iEq (lGet x (iNat x0.2) (0,0,0)).1 0) (iEq (lGet x (iNat x0.2) (0,0,0)).1 1)) (bSel (iEq (lGet x (iNat x0.2) (0,0,0)).1 1) (lApp x0.1 [((lGet x (iNat x0.2) (0,0,0)).2.1,(lGet x (iNat x0.2) (0,0,0)).2.2)]) x0.1) (lApp (lTake x0.1 (lN (lSub x0.1 0 (iNat (BQ (x0.1,(lGet x (iNat x0.2) (0,0,0)).2.1,(lGet x (iNat x0.2) (0,0,0)).2.2)))))) (lSub x0.1 (iNat (iAdd .i64 (BQ (x0.1,(lGet x (iNat x0.2) (0,0,0)).2.1,(lGet x (iNat x0.2) (0,0,0)).2.2)) 1)) (lN x0.1)))),(iAdd .i64 x0.2 1))) (fun(x0:((List (Int×Int))×Int))=>(((iLt x0.2 (lLen x))=true→((((0:Int)≤x0.2)∧(x0.2<(((List.length x):Int))))∧(((iNat x0.2)<(List.length x))∧((Qw (x0.1,(lGet x (iNat x0.2) (0,0,0)).2.1,(lGet x (iNat x0.2) (0,0,0)).2.2))∧((Ka (2,(lGet x (iNat x0.2) (0,0,0)).2.1,(lGet x (iNat x0.2) (0,0,0)).2.2,0))∧(((bNot (Ev (2,(lGet x (iNat x0.2) (0,0,0)).2.1,(lGet x (iNat x0.2) (0,0,0)).2.2,0)))=true→True)∧((bNot (Ev (2,(lGet x (iNat x0.2) (0,0,0)).2.1,(lGet x (iNat x0.2) (0,0,0)).2.2,0)))=false→(((bOr (iEq (lGet x (iNat x0.2) (0,0,0)).1 0) (iEq (lGet x (iNat x0.2) (0,0,0)).1 1))=true→(((iGe (BQ (x0.1,(lGet x (iNat x0.2) (0,0,0)).2.1,(lGet x (iNat x0.2) (0,0,0)).2.2)) 0)=true→True)∧((iGe (BQ (x0.1,(lGet x (iNat x0.2) (0,0,0)).2.1,(lGet x (iNat x0.2) (0,0,0)).2.2)) 0)=false→(((iEq (lGet x (iNat x0.2) (0,0,0)).1 1)=true→(A5 (((List.length x0.1)+(List.length [((lGet x (iNat x0.2) (0,0,0)).2.1,(lGet x (iNat x0.2) (0,0,0)).2.2)]))*2)))∧((iEq (lGet x (iNat x0.2) (0,0,0)).1 1)=false→True)))))∧((bOr (iEq (lGet x (iNat x0.2) (0,0,0)).1 0) (iEq (lGet x (iNat x0.2) (0,0,0)).1 1))=false→(((iEq (lGet x (iNat x0.2) (0,0,0)).1 2)=true→(((iLt (BQ (x0.1,(lGet x (iNat x0.2) (0,0,0)).2.1,(lGet x (iNat x0.2) (0,0,0)).2.2)) 0)=true→True)∧((iLt (BQ (x0.1,(lGet x (iNat x0.2) (0,0,0)).2.1,(lGet x (iNat x0.2) (0,0,0)).2.2)) 0)=false→((((0:Int)≤(BQ (x0.1,(lGet x (iNat x0.2) (0,0,0)).2.1,(lGet x (iNat x0.2) (0,0,0)).2.2)))∧((0≤(iNat (BQ (x0.1,(lGet x (iNat x0.2) (0,0,0)).2.1,(lGet x (iNat x0.2) (0,0,0)).2.2))))∧(((iNat (BQ (x0.1,(lGet x (iNat x0.2) (0,0,0)).2.1,(lGet x (iNat x0.2) (0,0,0)).2.2)))≤(List.length x0.1))∧(0<(List.length x0.1)))))∧((((0:Int)≤(iAdd .i64 (BQ (x0.1,(lGet x (iNat x0.2) (0,0,0)).2.1,(lGet x (iNat x0.2) (0,0,0)).2.2)) 1))∧(((iNat (iAdd .i64 (BQ (x0.1,(lGet x (iNat x0.2) (0,0,0)).2.1,(lGet x (iNat x0.2) (0,0,0)).2.2)) 1))≤(lN x0.1))∧(((lN x0.1)≤(List.length x0.1))∧(0<(List.length x0.1)))))∧((0<(List.length x0.1))∧(((List.length (lSub x0.1 0 (iNat (BQ (x0.1,(lGet x (iNat x0.2) (0,0,0)).2.1,(lGet x (iNat x0.2) (0,0,0)).2.2)))))≤(List.length x0.1))∧(A5 (((List.length (lSub x0.1 0 (iNat (BQ (x0.1,(lGet x (iNat x0.2) (0,0,0)).2.1,(lGet x (iNat x0.2) (0,0,0)).2.2)))))+(List.length (lSub x0.1 (iNat (iAdd .i64 (BQ (x0.1,(lGet x (iNat x0.2) (0,0,0)).2.1,(lGet x (iNat x0.2) (0,0,0)).2.2)) 1)) (lN x0.1))))*2)))))))))∧((iEq (lGet x (iNat x0.2) (0,0,0)).1 2)=false→True)))))))))))∧((iLt x0.2 (lLen x))=false→True))) ([],0)))):=(GB.o x).trans (by kernel_rfl)
attribute [irreducible] E3 Qr Bd Nl Hg P8 E2 NA BQ Qw Il Nu
end
open Go.RowKit
theorem HRel.below{ι:Am}{σ:Ac}{w w':World}(H:HRel ι σ w)(B:Below w.heap.size w w'):HRel ι σ w':=by
 have far:∀ (j:Nat) (b:Blk),σ[j]?=some b→b.k≠.dead→w'.heap[(ι j).b]?=w.heap[(ι j).b]?:=fun j b hj hbk=>B.block _ (H.there j b hj hbk)
 refine⟨fun l blk h hd i v hv=>?_,fun l blk h hk=>?_,H.apart,fun l blk h hd=>Hz (H.there l blk h hd) B.size⟩
 · obtain⟨c,x,hx,hr⟩:=H.cells l blk h hd i v hv;exact⟨c,x,by rw[RO (w:=w) (far l blk h hd)];exact hx,hr⟩
 · obtain⟨g1,g2,arr,e,g3,g4⟩:=H.own l blk h hk;exact⟨g1,g2,arr,e,by rw[far l blk h (by rw[hk];decide)];exact g3,g4⟩
theorem Step.below{ι:Am}{σ:Ac}{w w':World}(B:Below w.heap.size w w'):Step ι σ w ι σ w':=
 { Step.refl ι σ w with frame:=fun b hb _=>B.block b hb,size:=B.size,os:=B.os,output:=B.output,tape:=B.tape }
def Bt(xs:List (List UInt8))(sep:List UInt8):List UInt8:=sep.intercalate xs
def NJ:Be:=fun args h Q=>∃ (u:V) (sep:List UInt8) (xs:List (List UInt8)),args=[u,.str sep]∧xs.length≤140737488355328∧(Bt xs sep).length≤140737488355328 ∧
 ((xs=[]∧(u= .nils∨∃ l o,u= .slice l o 0))∨∃ (l o:Nat) (b:Blk),u= .slice l o xs.length∧0<xs.length∧h[l]?=some b∧b.k≠.dead∧∀ (k:Nat) x,xs[k]?=some x→b.cs[o+k]?=some (.str x))∧Q (.str (Bt xs sep)) h
def qx(P:Program)(g:FuncId):Prop:=
 (∀ (bk o c:Nat) (xs:List ByteArray) (sep:ByteArray) (w:World),(∀ (j:Nat) x,xs[j]?=some x→w.cell? ⟨bk,o+j,none⟩=some (.string x))→bk<w.heap.size→xs.length≤140737488355328→xs.length≤c→(Lib.join (xs.map (·.data.toList)) sep.data.toList).length≤140737488355328 →
  Calls P g #[.slice (some ⟨bk,o,none⟩) xs.length c,.string sep] w fun e w'=>e= .returned (.string ⟨(Lib.join (xs.map (·.data.toList)) sep.data.toList).toArray⟩)∧Below w.heap.size w w') ∧
 ∀ (a:Option Addr) (c:Nat) (sep:ByteArray) (w:World),Calls P g #[.slice a 0 c,.string sep] w fun e w'=>e= .returned (.string ⟨#[]⟩)∧w'=w
theorem od{P:Program}{g:FuncId}(hs:qx P g):Aq P g NJ:=by
 rintro Φ ι σ w args xs Q hΦ H hargs ⟨u,sep,ss,rfl,hn,hlen,hu,hQ⟩ _;have hl:=hargs.1
 match xs,hl with
 | [x, y], _=>
   have hy:=EF (hargs.2 1 _ _ rfl rfl (fun _=>0));have hx:=hargs.2 0 _ _ rfl rfl (fun _=>0);subst hy;rcases hu with⟨rfl,hu⟩|⟨l,o,b,rfl,hpos,hb,hk,hc⟩
   · have key:∃ a c,x= .slice a 0 c:=by
      rcases hu with rfl|⟨l,o,rfl⟩
      · obtain⟨a,rfl⟩:=LZ hx;exact⟨a,0,rfl⟩
      · obtain⟨_,_,⟨c,rfl,_⟩|⟨_,a,rfl⟩⟩:=E6 hx
        · exact⟨_,c,rfl⟩
        · exact⟨a,0,rfl⟩
     obtain⟨a,c,rfl⟩:=key;refine(hs.2 a c ⟨sep.toArray⟩ w).mono ?_;rintro e w' ⟨rfl,rfl⟩;exact⟨_,.str (Bt [] sep),σ,ι,rfl,hQ,hΦ,fun β=>.str _,H,.refl _ _ _⟩
   · have hl:Φ l=none:=(Vr hx).1 l o _ rfl
     have hb':(kill Φ σ)[l]?=some b:=by rw[Mj hl];exact hb
     obtain⟨b1,g1,hc1⟩:=E6 hx;rw[hb'] at g1;cases g1;rcases hc1 with⟨c,rfl,c1,c2⟩|⟨h0,_⟩
     · have hbs:∀ (s:List UInt8),(ByteArray.mk s.toArray).data.toList=s:=fun s=>by simp
       have e1:(ss.map fun s=>ByteArray.mk s.toArray).map (·.data.toList)=ss:=by
        rw[List.map_map];simp[Function.comp_def]
       have hcall:=hs.1 (ι l).b ((ι l).o+o) c (ss.map fun s=>ByteArray.mk s.toArray) ⟨sep.toArray⟩ w (fun j x hx=>by
        rw[FH] at hx
        cases hj:ss[j]? with
        |none=>rw[hj] at hx;cases hx
        | some s=>
          rw[hj] at hx;cases hx;obtain⟨_,z,q1,q2⟩:=H.cells l b hb' hk (o+j) _ (hc j s hj)
          rw[MA,q1,EF (q2 (fun _=>0))]) (H.there l b hb' hk) (by simpa using hn) (by simpa using c1) (by rw[e1,hbs];exact hlen)
       rw[AF,e1,hbs] at hcall;refine hcall.mono ?_;rintro e w' ⟨rfl,B⟩;exact⟨_,.str (Bt ss sep),σ,ι,rfl,hQ,hΦ,fun β=>.str _,H.below B,Step.below B⟩
     · omega
def Rc:List UInt8:=[97,32,98,32,99,32,100,32,101,32,102,32,103,32,104,32,105,32,106,32,107,32,108,32,109,32,110,32,111,32,112,32,113,32,114,32,115,32,116,32,117,32,118,32,119,32,120,32,121,32,122,32,49,32,50,32,51,32,52,32,53,32,54,32,55,32,56,32,57,32,48,32,101,110,116,101,114,32,101,115,99,32,98,97,99,107,32,116,97,98,32,115,112,97,99,101,32,109,105,110,117,115,32,101,113,117,97,108,32,108,101,102,116,32,114,105,103,104,116,32,117,112,32,100,111,119,110,32,102,49,32,102,50,32,102,51,32,102,52,32,102,53,32,102,54,32,102,55,32,102,56,32,102,57]
def Cm:List (List UInt8):=[[97],[98],[99],[100],[101],[102],[103],[104],[105],[106],[107],[108],[109],[110],[111],[112],[113],[114],[115],[116],[117],[118],[119],[120],[121],[122],[49],[50],[51],[52],[53],[54],[55],[56],[57],[48],[101,110,116,101,114],[101,115,99],[98,97,99,107],[116,97,98],[115,112,97,99,101],[109,105,110,117,115],[101,113,117,97,108],[108,101,102,116],[114,105,103,104,116],[117,112],[100,111,119,110],[102,49],[102,50],[102,51],[102,52],[102,53],[102,54],[102,55],[102,56],[102,57]]
def Kg:Be:=fun args h Q=>∃ s sep:List UInt8,args=[.str s,.str sep]∧s.length<4294967281∧1≤sep.length∧Q (.slice h.length 0 (Lib.split s sep).length) (h++[⟨.own,1,(Lib.split s sep).map .str⟩])
def Z7(P:Program)(g:FuncId):Prop:=∃ gm,P.globalNamed "internal/bytealg.MaxLen"= some gm∧∀ (s sep:List UInt8) (m:Int) (w:World),s.length<4294967281→1≤sep.length→w.cell? ⟨gm,0,none⟩=some (.int .i64 m) →
 Calls P g #[.string ⟨s.toArray⟩,.string ⟨sep.toArray⟩] w fun e w'=>∃ T,e= .returned (.slice (some ⟨w.heap.size,0,none⟩) (Lib.split s sep).length (Lib.split s sep).length)∧w'=w.alloc (.cells ((Lib.split s sep).map fun s=>Value.string ⟨s.toArray⟩).toArray T)
theorem Gl.maxLen{P:Program}{ι:Am}{σ:Ac}{w:World}(h:Gl P ι σ w){gm:Nat}(hg:P.globalNamed "internal/bytealg.MaxLen"= some gm):∃ m,w.cell? ⟨gm,0,none⟩=some (.int .i64 m):=by
 obtain⟨cs,h1,h2⟩:=h.1 "internal/bytealg.MaxLen" (by simp[Jv]) gm hg
 unfold K5 at h2;rw[Ad (by decide),Ab rfl] at h2;obtain⟨m,hm⟩:=h2
 exact⟨m,by
  have:w.cell? ⟨gm,0,none⟩=cs[0]?:=by
   simp only[World.var?,hg,Fb] at h1;split at h1<;>simp_all [World.cell?]
  rw[this,hm]⟩
theorem mJ{P:Program}{g:FuncId}(hs:Z7 P g):Aq P g Kg:=by
 obtain⟨gm,hgm,hs⟩:=hs;rintro Φ ι σ w args xs Q hΦ H hargs ⟨s,sep,rfl,hs1,hs2,hQ⟩ hG;have hl:=hargs.1;obtain⟨m,hm⟩:=hG.maxLen hgm
 match xs,hl with
 | [x, y],_=>
   have hx:=EF (hargs.2 0 _ _ rfl rfl (fun _=>0));have hy:=EF (hargs.2 1 _ _ rfl rfl (fun _=>0));subst hx;subst hy;refine(hs s sep m w hs1 hs2 hm).mono ?_;rintro e w' ⟨T,rfl,rfl⟩;generalize Lib.split s sep=ws at hQ
   have hcl:RelCells ι (kill Φ σ) (ws.map .str) (ws.map fun s=>Value.string ⟨s.toArray⟩).toArray.toList:=by
    refine⟨by simp,fun i v hv=>?_⟩;rw[FH] at hv
    cases hi:ws[i]? with
    |none=>rw[hi] at hv;cases hv
    | some s=>
      rw[hi] at hv;cases hv;exact⟨rfl,.string ⟨s.toArray⟩,by simp[hi],fun β=>.str s⟩
   have B:BRel ι (kill Φ σ) (fun _=>0) [] w w:=⟨fun i cs h=>by simp at h,fun i cs h=>by simp at h,fun i j cs ds _ h=>by simp at h,fun i cs l blk h=>by simp at h⟩;have S:SRel ι (kill Φ σ) (fun _=>0) [] #[]:=⟨AB _,fun i=>by rw[show get [] i=V.undef from rfl];exact Rel.undef _⟩;obtain⟨g1,_,_,g2⟩:=L0 H B S (ws.map fun s=>Value.string ⟨s.toArray⟩).toArray T 1 (ws.map .str) hcl;rw[← Iz hΦ] at g1 g2;refine⟨_,.slice σ.length 0 ws.length,_,_,rfl,hQ,hΦ.push _,fun β=>?_,g1,g2⟩;have hlen:(kill Φ σ).length=σ.length:=Db Φ σ;rw[Iz hΦ]
   have:=Rel.slice (ι:=upd ι (kill Φ σ).length ⟨w.heap.size,0,(ws.map fun s=>Value.string ⟨s.toArray⟩).toArray.size⟩) (σ:=kill Φ σ++[⟨.own,1,ws.map .str⟩]) (β:=β) σ.length 0 ws.length ws.length ⟨.own,1,ws.map .str⟩
    (by rw[← hlen];simp) (AB _) (by rw[← hlen,BR];simp) (AB _)
   rw[← hlen,BR] at this;rw[← hlen];simpa using this
def Ny:Be:=fun args h Q=>∃ s sub:List UInt8,args=[.str s,.str sub]∧s.length<4294967281∧Q (.int .i64 (Lib.index s sub)) h
def Zp(P:Program)(g:FuncId):Prop:=∃ gm,P.globalNamed "internal/bytealg.MaxLen"= some gm∧∀ (s sub:ByteArray) (m:Int) (w:World),s.size<4294967281→w.cell? ⟨gm,0,none⟩=some (.int .i64 m) →
 Calls P g #[.string s,.string sub] w fun e w'=>e= .returned (.int .i64 (Lib.index s.data.toList sub.data.toList))∧w'=w
theorem lv{P:Program}{g:FuncId}(hs:Zp P g):Aq P g Ny:=by
 obtain⟨gm,hgm,hs⟩:=hs;rintro Φ ι σ w args xs Q hΦ H hargs ⟨s,b,rfl,hlt,hQ⟩ hG;have hl:=hargs.1;obtain⟨m,hm⟩:=hG.maxLen hgm
 match xs,hl with
 | [x,y],_=>
   have hx:=EF (hargs.2 0 _ _ rfl rfl (fun _=>0));have hy:=EF (hargs.2 1 _ _ rfl rfl (fun _=>0));subst hx;subst hy;refine(hs ⟨s.toArray⟩ ⟨b.toArray⟩ m w (by simpa [ByteArray.size] using hlt) hm).mono ?_;rintro e w' ⟨rfl,rfl⟩;exact⟨_,.int .i64 (Lib.index s b),σ,ι,rfl,hQ,hΦ,fun β=>by simpa using Rel.int .i64 _,H,.refl _ _ _⟩
def NL:Be:=fun args h Q=>∃ s:List UInt8,args=[.str s]∧s.length≤18∧Q (.tup [.int .i64 ((Lib.atoi s).getD 0),.ifc (Lib.atoi s).isSome]) h
def br(P:Program)(g:FuncId):Prop:=∃ ge,P.globalNamed "strconv.ErrSyntax"= some ge ∧
 (∀ (s:ByteArray) (n:Int) (w:World),s.size≤18→Lib.atoi s.data.toList=some n→Calls P g #[.string s] w fun e w'=>e= .returned (.tuple #[.int .i64 n,.nilIface])∧Below w.heap.size w w') ∧
 ∀ (s:ByteArray) (t:TypeId) (p:Value) (w:World),s.size≤18→Lib.atoi s.data.toList=none→w.var? P "strconv.ErrSyntax"= some #[.iface t p]→Calls P g #[.string s] w fun e w'=>(∃ T v,e= .returned (.tuple #[.int .i64 0,.iface T v]))∧Below w.heap.size w w'
theorem bZ{ι:Am}{σ:Ac}{β:Nat→Nat}{a b:V}{x y:Value}(ha:a.ok1=true)(hb:b.ok1=true)(h1:Rel ι σ β a x)(h2:Rel ι σ β b y):Rel ι σ β (.tup [a,b]) (.tuple #[x,y]):=by
 refine Rel.tup [a,b] [x,y] rfl (fun v hv=>?_) (fun i v w hv hw=>?_)
 · simp only[Cb,List.not_mem_nil,or_false] at hv;rcases hv with rfl|rfl
   · exact ha
   · exact hb
 · match i with
   |0=>cases hv;cases hw;exact h1
   |1=>cases hv;cases hw;exact h2
   |n+2=>cases hv
theorem nQ{P:Program}{g:FuncId}(hs:br P g):Aq P g NL:=by
 obtain⟨ge,hge,hok,herr⟩:=hs;rintro Φ ι σ w args xs Q hΦ H hargs ⟨s,rfl,hlt,hQ⟩ hG;have hl:=hargs.1
 match xs,hl with
 | [x],_=>
   have hx:=EF (hargs.2 0 _ _ rfl rfl (fun _=>0));subst hx
   have hsz:(ByteArray.mk s.toArray).size≤18:=by simpa [ByteArray.size] using hlt
   have hd:(ByteArray.mk s.toArray).data.toList=s:=by simp
   cases ha:Lib.atoi s with
   | some n=>
     rw[ha] at hQ;refine(hok ⟨s.toArray⟩ n w hsz (by rw[hd];exact ha)).mono ?_;rintro e w' ⟨rfl,B⟩;exact⟨_,.tup [.int .i64 n,.ifc true],σ,ι,rfl,hQ,hΦ,fun β=>bZ rfl rfl (.int .i64 n) .nilIfc,H.below B,Step.below B⟩
   | none=>
     rw[ha] at hQ
     obtain⟨cs,h1,h2⟩:=hG.1 "strconv.ErrSyntax" (by simp[Jv]) ge hge
     unfold K5 at h2;rw[Ab rfl] at h2;obtain⟨t,p,rfl⟩:=h2;refine(herr ⟨s.toArray⟩ t p w hsz (by rw[hd];exact ha) h1).mono ?_;rintro e w' ⟨⟨T,v,rfl⟩,B⟩;exact⟨_,.tup [.int .i64 0,.ifc false],σ,ι,rfl,hQ,hΦ,fun β=>bZ rfl rfl (.int .i64 0) (.ifc T v),H.below B,Step.below B⟩
def M4:Be:=fun args h Q=>∃ (s:List UInt8) (b:UInt8),args=[.str s,.str [b]]∧Q (.int .i64 (Lib.indexByte s b)) h
def pj(P:Program)(g:FuncId):Prop:=∀ (s:ByteArray) (c:UInt8) (w:World),Calls P g #[.string s,.string ⟨#[c]⟩] w fun e w'=>e= .returned (.int .i64 (Lib.indexByte s.data.toList c))∧w'=w
theorem mO{P:Program}{g:FuncId}(hs:pj P g):Aq P g M4:=by
 rintro Φ ι σ w args xs Q hΦ H hargs ⟨s,b,rfl,hQ⟩ _;have hl:=hargs.1
 match xs,hl with
 | [x,y],_=>
   have hx:=EF (hargs.2 0 _ _ rfl rfl (fun _=>0));have hy:=EF (hargs.2 1 _ _ rfl rfl (fun _=>0));subst hx;subst hy;refine(hs ⟨s.toArray⟩ b w).mono ?_;rintro e w' ⟨rfl,rfl⟩;exact⟨_,.int .i64 (Lib.indexByte s b),σ,ι,rfl,hQ,hΦ,fun β=>by simpa using Rel.int .i64 _,H,.refl _ _ _⟩
def NI:Be:=fun args h Q=>∃ i:Int,args=[.int .i64 i]∧-9223372036854775808≤i∧i≤9223372036854775807∧Q (.str (Lib.itoa i)) h
def aU(P:Program)(g:FuncId):Prop:=∃ gt,P.globalNamed "internal/strconv.uint64pow10"= some gt∧∀ (i:Int) (_:-9223372036854775808≤i) (_:i≤9223372036854775807) (w:World),w.var? P "internal/strconv.uint64pow10"= some ((List.range 20).map fun i=>Value.int .u64 ((10^i:Nat):Int)).toArray →
 Calls P g #[.int .i64 i] w fun e w'=>e= .returned (.string ⟨(Lib.itoa i).toArray⟩)∧Below w.heap.size w w'
theorem mR{P:Program}{g:FuncId}(hs:aU P g):Aq P g NI:=by
 obtain⟨gt,hgt,hs⟩:=hs;rintro Φ ι σ w args xs Q hΦ H hargs ⟨i,rfl,h0,h1,hQ⟩ hG;have hl:=hargs.1
 match xs,hl with
 | [x],_=>
   have hx:=DR (hargs.2 0 _ _ rfl rfl (fun _=>0));subst hx
   obtain⟨cs,g1,g2⟩:=hG.1 "internal/strconv.uint64pow10" (by simp[Jv]) gt hgt
   unfold K5 at g2;rw[Ad (by decide),Ad (by decide)] at g2;subst g2;refine(hs i h0 h1 w g1).mono ?_;rintro e w' ⟨rfl,B⟩;exact⟨_,.str (Lib.itoa i),σ,ι,rfl,hQ,hΦ,fun β=>.str _,H.below B,Step.below B⟩
section
set_option maxRecDepth 8000
def pL(hs:List HT)(q:QT)(ok:TuX hs→Prop)(v:TuX hs→q.D):Cs:=fun args H Q=>∃ x:TuX hs,DV.encL (Em hs x)=args∧ok x∧Q (q.dv (v x)).enc H
theorem Mc(hs:List HT)(q:QT)(ok:TuX hs→Prop)(v:TuX hs→q.D):GR (pL hs q ok v) (GW hs q ok v):=by
 intro args g w Q h hg hQ;unfold GW at h
 cases hx:G6 hs args with
 |none=>rw[hx] at h;cases h
 | some x=>
   rw[hx] at h;simp only[Ai,Ak] at h;obtain⟨rfl,rfl⟩:=h;exact⟨x,SE hx,hg,hQ []⟩
theorem RV{h h0:Ac}{ω0 ω:Nat→W}{ρ:Nat→Nat}{args:List PV}{us:List V}{H:List (List PV)}(R:RS h0 ω0 ω ρ ⟨args,[],H⟩ ⟨us,[],h⟩ X0)(x:V)(hx:x.flat=true):RS h0 ω0 ω ρ ⟨[],[],H⟩ ⟨[],[],h⟩ (X1 (.fl x) x):=by
 have e:∀ p:List Nat,((PV.fl x).fcell p= .fl .undef)∨((PV.fl x).fcell p= .fl x∧x.fcell p=x):=by
  intro p
  match p with
  |[]=>exact .inl rfl
  |[0]=>right;cases x<;>first|exact⟨rfl,rfl⟩|cases hx
  |[n+1]=>exact .inl rfl
  |_::_::_=>exact .inl (by simp[PV.fcell])
 refine(R.forget).handx ?_ (fun p=>?_) (fun p i pb tp=>?_)
 · cases x<;>first|trivial|(refine⟨fun us h=>?_,fun us h=>?_⟩<;>cases h)|cases hx
 · rcases e p with e|⟨e1,e2⟩
   · rw[e];exact .undef _ _
   · rw[e1,e2];exact .v _ _ hx
 · rcases e p with e|⟨e1,e2⟩
   · rw[e];simp[PV.q]
   · rw[e1];simp[PV.q]
theorem R5(x:V):(PV.fl x).nob:=by
 intro p hb pb tp
 match p with
 |[]=>simp[PV.fcell,PV.q]
 |[0]=>simp[PV.fcell,PV.q]
 |[n+1]=>simp[PV.fcell,PV.q]
 |_::_::_=>simp[PV.fcell,PV.q]
theorem Hy{h0:Ac}{ω0 ω:Nat→W}{ρ:Nat→Nat}{st:PS}{us:St}(R:RS h0 ω0 ω ρ st us X0)(t:Nat){v:PV}(hv:Aa st.sl t=v)(h1:∀ cs,v≠.agg cs)(h2:∀ vs,v≠.tup vs)(h3:v≠.fl .undef):RC us.hp ω (.at (.s t) [0]) v (get us.sl t):=by
 have r:RC us.hp ω (.at (.s t) [0]) ((Aa st.sl t).fcell [0]) ((get us.sl t).fcell [0]):=R.core.rc (.s t) [0];have sh:=R.sh t;rw[hv] at r sh
 have e1:v.fcell [0]=v:=by cases v<;>first|rfl|exact absurd rfl (h1 _)|exact absurd rfl (h2 _)
 have e2:(get us.sl t).fcell [0]=get us.sl t:=by
  have s1:(∀ us',get us.sl t≠.agg us')∧∀ us',get us.sl t≠.tup us':=by
   cases v with
   |agg cs=>exact absurd rfl (h1 _)
   |tup vs=>exact absurd rfl (h2 _)
   |fl x=>cases x<;>first|exact absurd rfl h3|exact sh
   |_=>exact sh
  generalize get us.sl t=u at s1
  cases u<;>first|rfl|exact absurd rfl (s1.1 _)|exact absurd rfl (s1.2 _)
 rw[e1,e2] at r;exact r
def ER(l:List (List UInt8)):List (List PV):=l.map fun s=>[.fl (.str s)]
theorem ZM(l:List (List UInt8)):(ER l).flatten=l.map fun s=>.fl (.str s):=by
 induction l with
 |nil=>rfl
 |cons n r ih=>simpa [ER] using ih
theorem pk{l:List (List UInt8)}{k:Nat}(h:k<l.length):Aa (ER l).flatten k= .fl (.str (l[k])):=by
 rw[ZM,DQ,FH,Ay h];rfl
def YE:List HT:=[.one .frz (.sl (.one .str)),.one .frz .str]
def Yk:QT:=.one (.one .own .str)
@[irreducible] def LK(x:List (List UInt8)×List UInt8):List UInt8:=(shut fun(x:List (List UInt8)×List UInt8)=>Bt x.1 x.2).1 x
@[irreducible] def LC(x:List (List UInt8)×List UInt8):Prop:=(shut fun(x:List (List UInt8)×List UInt8)=>x.1.length≤140737488355328∧(Bt x.1 x.2).length≤140737488355328).1 x
theorem XS (x):LK x=Bt x.1 x.2:=by unfold LK;exact congrFun (shut _).2 x
theorem X7 (x):LC x=(x.1.length≤140737488355328∧(Bt x.1 x.2).length≤140737488355328):=by unfold LC;exact congrFun (shut _).2 x
def Yi:EW:=GW YE Yk LC LK
@[irreducible] def NG:Cs:=pL YE Yk LC LK
theorem jC:GR NG Yi:=by unfold NG;exact Mc _ _ _ _
theorem jL:Gf NJ NG:=by
 unfold NG;rintro h ω0 ρ args us H Q K R hloc ⟨⟨(xs:List (List UInt8)),(sep:List UInt8)⟩,rfl,hok,hQ⟩ hK;have hlen:=R.lsl
 match us,hlen with
 | [u1,u2],_=>
   have c1:RC h ω0 (.at (.s 0) [0]) (.sl .frz (ER xs)) u1:=Hy (us:=⟨[u1,u2],[],h⟩) R 0 rfl (by simp) (by simp) (by simp);have c2:RC h ω0 (.at (.s 1) [0]) (.fl (.str sep)) u2:=Hy (us:=⟨[u1,u2],[],h⟩) R 1 rfl (by simp) (by simp) (by simp)
   have e2:u2= .str sep:=by cases c2;rfl
   subst e2;have hok:LC (xs,sep):=hok;have hQ:Q (.fl (.str (LK (xs,sep)))) H:=hQ;rw[X7] at hok;rw[XS] at hQ;refine⟨u1,sep,xs,rfl,hok.1,hok.2,?_,hK _ _ _ _ _ _ hQ (RV R _ rfl) (R5 _)⟩;generalize hes:ER xs=es at c1
   have hxl:es.length=xs.length:=by rw[← hes];simp[ER]
   cases c1 with
   |nil=>exact .inl ⟨EN (by rw[← hxl];rfl),.inl rfl⟩
   | sl _ _ _ l o n b hb hk hc hne hn hw hle hr=>
     subst hes;rcases KT xs.length with h0|h0
     · exact .inl ⟨EN h0,.inr ⟨l,o,by rw[hn,hxl,h0]⟩⟩
     · refine .inr ⟨l,o,b,by rw[hn,hxl],h0,hb,hk,fun k x hx=>?_⟩
       have hkl:k<xs.length:=by
        rcases AZ k xs.length with h|h
        · exact h
        · rw[Bg h] at hx;cases hx
       have hbw:b.w=1:=by
        obtain⟨y,ys,rfl⟩:=List.exists_cons_of_length_pos h0;have:=hw [.fl (.str y)] (by simp[ER]);simpa using this.symm
       rw[hxl,hbw,KG] at hle hr;have r:=hr k hkl;rw[pk hkl] at r;rw[Ay hkl] at hx;cases hx
       have e:get b.cs (o+k)= .str (xs[k]):=by
        generalize get b.cs (o+k)=z at r
        cases r with
        |v=>rfl
       rw[CK,Ay (show o+k<b.cs.length by omega)] at e;rw[Ay (show o+k<b.cs.length by omega)];simpa using e
def XY:List HT:=[.one .frz .str,.one .frz .str]
def XV:QT:=.one (.one .own (.sl (.one .str)))
@[irreducible] def D8(x:List UInt8×List UInt8):List (List UInt8):=(shut fun(x:List UInt8×List UInt8)=>Lib.split x.1 x.2).1 x
@[irreducible] def Je(x:List UInt8×List UInt8):Prop:=(shut fun(x:List UInt8×List UInt8)=>x.1.length<4294967281∧1≤x.2.length).1 x
theorem XF (x):D8 x=(Lib.split x.1 x.2):=by unfold D8;exact congrFun (shut _).2 x
theorem XB (x):Je x=(x.1.length<4294967281∧1≤x.2.length):=by unfold Je;exact congrFun (shut _).2 x
def Tx:EW:=GW XY XV Je D8
@[irreducible] def LF:Cs:=pL XY XV Je D8
theorem XI:GR LF Tx:=by unfold LF;exact Mc _ _ _ _
theorem rV(s sep:List UInt8):Lib.split s sep≠[]:=by
 unfold Lib.split;generalize Lib.count s sep=k
 cases k with
 |zero=>simp[Lib.splitK]
 |succ k=>unfold Lib.splitK;split<;>simp
theorem tj{h h0:Ac}{ω0 ω:Nat→W}{ρ:Nat→Nat}{args:List PV}{us:List V}{H:List (List PV)}(R:RS h0 ω0 ω ρ ⟨args,[],H⟩ ⟨us,[],h⟩ X0)(l:List (List UInt8))(hl:l≠[]) :
 ∃ ω',RS h0 ω0 ω' ρ ⟨[],[],H⟩ ⟨[],[],h++[⟨.own,1,l.map .str⟩]⟩ (X1 (.sl .own (ER l)) (.slice h.length 0 l.length)):=by
 have hz:(l.map V.str).all V.flat=true:=by simp[V.flat]
 have h1:=(R.forget).handz hz
 have e1:(l.map V.str).map Bf=l.map fun s=>PV.fl (.str s):=by rw[List.map_map];rfl
 rw[e1] at h1
 have hc:Bb (l.map fun s=>PV.fl (.str s))=true:=by
  rw[← e1];exact Kv hz
 obtain⟨ω',h2⟩:=h1.newslice (es:=ER l) (w:=1) hc (by intro e;exact hl (by simpa [ER] using e)) (fun e he=>by simp only[ER,List.mem_map] at he;obtain⟨_,_,rfl⟩:=he;rfl) (fun k _=>by rw[ZM]) (by simp[ER])
 have e2:(ER l).length=l.length:=by simp[ER]
 rw[e2] at h2
 exact⟨ω',h2⟩
theorem uv(es:List (List PV)):(PV.sl .own es).nob:=by
 intro p hb pb tp
 match p with
 |[]=>simp[PV.fcell,PV.q]
 |[0]=>simp[PV.fcell,PV.q]
 |[n+1]=>simp[PV.fcell,PV.q]
 |_::_::_=>simp[PV.fcell,PV.q]
theorem XK:Gf Kg LF:=by
 unfold LF;rintro h ω0 ρ args us H Q K R hloc ⟨⟨(s:List UInt8),(sep:List UInt8)⟩,rfl,hok,hQ⟩ hK;have hlen:=R.lsl
 match us,hlen with
 | [u1,u2],_=>
   have c1:RC h ω0 (.at (.s 0) [0]) (.fl (.str s)) u1:=Hy (us:=⟨[u1,u2],[],h⟩) R 0 rfl (by simp) (by simp) (by simp);have c2:RC h ω0 (.at (.s 1) [0]) (.fl (.str sep)) u2:=Hy (us:=⟨[u1,u2],[],h⟩) R 1 rfl (by simp) (by simp) (by simp)
   have e1:u1= .str s:=by cases c1;rfl
   have e2:u2= .str sep:=by cases c2;rfl
   subst e1;subst e2;have hok:Je (s,sep):=hok;have hQ:Q (.sl .own (ER (D8 (s,sep)))) H:=hQ;rw[XB] at hok;rw[XF] at hQ;obtain⟨ω',R'⟩:=tj R (Lib.split s sep) (rV s sep);exact⟨s,sep,rfl,hok.1,hok.2,hK _ _ _ _ _ _ hQ R' (uv _)⟩
def W7:List HT:=[.one .frz .str,.one .frz .str]
def W8:QT:=.one (.one .own (.int .i64))
@[irreducible] def DI(x:List UInt8×List UInt8):Int:=(shut fun(x:List UInt8×List UInt8)=>Lib.indexByte x.1 (x.2.getD 0 0)).1 x
@[irreducible] def I8(x:List UInt8×List UInt8):Prop:=(shut fun(x:List UInt8×List UInt8)=>x.2.length=1).1 x
theorem S5 (x):DI x=Lib.indexByte x.1 (x.2.getD 0 0):=by unfold DI;exact congrFun (shut _).2 x
theorem S6 (x):I8 x=(x.2.length=1):=by unfold I8;exact congrFun (shut _).2 x
def W9:EW:=GW W7 W8 I8 DI
@[irreducible] def M3:Cs:=pL W7 W8 I8 DI
theorem fu:GR M3 W9:=by unfold M3;exact Mc _ _ _ _
theorem fv:Gf M4 M3:=by
 unfold M3;rintro h ω0 ρ args us H Q K R hloc ⟨⟨(s:List UInt8),(sep:List UInt8)⟩,rfl,hok,hQ⟩ hK;have hlen:=R.lsl
 match us,hlen with
 | [u1,u2],_=>
   have c1:RC h ω0 (.at (.s 0) [0]) (.fl (.str s)) u1:=Hy (us:=⟨[u1,u2],[],h⟩) R 0 rfl (by simp) (by simp) (by simp);have c2:RC h ω0 (.at (.s 1) [0]) (.fl (.str sep)) u2:=Hy (us:=⟨[u1,u2],[],h⟩) R 1 rfl (by simp) (by simp) (by simp)
   have e1:u1= .str s:=by cases c1;rfl
   have e2:u2= .str sep:=by cases c2;rfl
   subst e1;subst e2;have hok:I8 (s,sep):=hok;have hQ:Q (.fl (.int .i64 (DI (s,sep)))) H:=hQ;rw[S6] at hok;rw[S5] at hQ;obtain⟨b,rfl⟩:=List.length_eq_one_iff.1 hok;exact⟨s,b,rfl,hK _ _ _ _ _ _ hQ (RV R _ rfl) (R5 _)⟩
def Yz:List HT:=[.one .frz (.int .i64)]
def Yp:QT:=.one (.one .own .str)
@[irreducible] def LI(x:Int):List UInt8:=(shut fun(x:Int)=>Lib.itoa x).1 x
@[irreducible] def LD(x:Int):Prop:=(shut fun(x:Int)=>-9223372036854775808≤x∧x≤9223372036854775807).1 x
theorem TB (x):LI x=(Lib.itoa x):=by unfold LI;exact congrFun (shut _).2 x
theorem TA (x):LD x=(-9223372036854775808≤x∧x≤9223372036854775807):=by unfold LD;exact congrFun (shut _).2 x
def Yf:EW:=GW Yz Yp LD LI
@[irreducible] def NC:Cs:=pL Yz Yp LD LI
theorem jD:GR NC Yf:=by unfold NC;exact Mc _ _ _ _
theorem jv:Gf NI NC:=by
 unfold NC;rintro h ω0 ρ args us H Q K R hloc ⟨(x:Int),rfl,hok,hQ⟩ hK;have hlen:=R.lsl
 match us,hlen with
 | [u1],_=>
   have c1:RC h ω0 (.at (.s 0) [0]) (.fl (.int .i64 x)) u1:=Hy (us:=⟨[u1],[],h⟩) R 0 rfl (by simp) (by simp) (by simp)
   have e1:u1= .int .i64 x:=by cases c1;rfl
   subst e1;have hok:LD x:=hok;have hQ:Q (.fl (.str (LI x))) H:=hQ;rw[TA] at hok;rw[TB] at hQ;exact⟨x,rfl,hok.1,hok.2,hK _ _ _ _ _ _ hQ (RV R _ rfl) (R5 _)⟩
def XR:List HT:=[.one .frz .str,.one .frz .str]
def X5:QT:=.one (.one .own (.int .i64))
@[irreducible] def Ft(x:List UInt8×List UInt8):Int:=(shut fun(x:List UInt8×List UInt8)=>Lib.index x.1 x.2).1 x
@[irreducible] def Ly(x:List UInt8×List UInt8):Prop:=(shut fun(x:List UInt8×List UInt8)=>x.1.length<4294967281).1 x
theorem XN (x):Ft x=(Lib.index x.1 x.2):=by unfold Ft;exact congrFun (shut _).2 x
theorem XM (x):Ly x=(x.1.length<4294967281):=by unfold Ly;exact congrFun (shut _).2 x
def X8:EW:=GW XR X5 Ly Ft
@[irreducible] def Nw:Cs:=pL XR X5 Ly Ft
theorem jc:GR Nw X8:=by unfold Nw;exact Mc _ _ _ _
theorem iS:Gf Ny Nw:=by
 unfold Nw;rintro h ω0 ρ args us H Q K R hloc ⟨⟨(s:List UInt8),(sep:List UInt8)⟩,rfl,hok,hQ⟩ hK;have hlen:=R.lsl
 match us,hlen with
 | [u1,u2],_=>
   have c1:RC h ω0 (.at (.s 0) [0]) (.fl (.str s)) u1:=Hy (us:=⟨[u1,u2],[],h⟩) R 0 rfl (by simp) (by simp) (by simp);have c2:RC h ω0 (.at (.s 1) [0]) (.fl (.str sep)) u2:=Hy (us:=⟨[u1,u2],[],h⟩) R 1 rfl (by simp) (by simp) (by simp)
   have e1:u1= .str s:=by cases c1;rfl
   have e2:u2= .str sep:=by cases c2;rfl
   subst e1;subst e2;have hok:Ly (s,sep):=hok;have hQ:Q (.fl (.int .i64 (Ft (s,sep)))) H:=hQ;rw[XM] at hok;rw[XN] at hQ;exact⟨s,sep,rfl,hok,hK _ _ _ _ _ _ hQ (RV R _ rfl) (R5 _)⟩
def Yn:List HT:=[.one .frz .str]
def YC:QT:=.tup [.one .own (.int .i64),.one .own .ifc]
@[irreducible] def Dx(x:List UInt8):Int×Bool:=(shut fun(x:List UInt8)=>((Lib.atoi x).getD 0,(Lib.atoi x).isSome)).1 x
@[irreducible] def LG(x:List UInt8):Prop:=(shut fun(x:List UInt8)=>x.length≤18).1 x
theorem X3 (x):Dx x=(((Lib.atoi x).getD 0,(Lib.atoi x).isSome)):=by unfold Dx;exact congrFun (shut _).2 x
theorem XU (x):LG x=(x.length≤18):=by unfold LG;exact congrFun (shut _).2 x
def Yv:EW:=GW Yn YC LG Dx
@[irreducible] def NF:Cs:=pL Yn YC LG Dx
theorem jB:GR NF Yv:=by unfold NF;exact Mc _ _ _ _
theorem bD{x:V}(hx:x.flat=true):Shp1 (.fl x) x:=by
 cases x<;>first|trivial|(refine⟨fun us h=>?_,fun us h=>?_⟩<;>cases h)|cases hx
theorem Zw{x:V}(hx:x.flat=true):x.cells=[x]:=by
 cases x<;>first|rfl|cases hx
theorem sI{h h0:Ac}{ω0 ω:Nat→W}{ρ:Nat→Nat}{args:List PV}{us:List V}{H:List (List PV)}(R:RS h0 ω0 ω ρ ⟨args,[],H⟩ ⟨us,[],h⟩ X0)(x y:V)(hx:x.flat=true)(hy:y.flat=true) :
 RS h0 ω0 ω ρ ⟨[],[],H⟩ ⟨[],[],h⟩ (X1 (.tup [.fl x,.fl y]) (.tup [x,y]))∧(PV.tup [.fl x,.fl y]).nob:=by
 have e:∀ p:List Nat,((PV.tup [.fl x,.fl y]).fcell p= .fl .undef)∨∃ z,z.flat=true∧(PV.tup [.fl x,.fl y]).fcell p= .fl z∧(V.tup [x,y]).fcell p=z:=by
  intro p
  match p with
  |[]=>exact .inl rfl
  |[_]=>exact .inl rfl
  |[0,0]=>exact .inr ⟨x,hx,rfl,by show get x.cells 0=x;rw[Zw hx];rfl⟩
  |[1,0]=>exact .inr ⟨y,hy,rfl,by show get y.cells 0=y;rw[Zw hy];rfl⟩
  |[0,c+1]=>exact .inl rfl
  |[1,c+1]=>exact .inl rfl
  |[i+2,0]=>exact .inl rfl
  |[i+2,c+1]=>exact .inl rfl
  |_::_::_::_=>exact .inl rfl
 refine⟨(R.forget).handx ⟨[x,y],rfl,rfl,fun i=>?_⟩ (fun p=>?_) (fun p i pb tp=>?_),fun p hb pb tp=>?_⟩
 · match i with
   |0=>exact bD hx
   |1=>exact bD hy
   |n+2=>trivial
 · rcases e p with e|⟨z,hz,e1,e2⟩
   · rw[e];exact .undef _ _
   · rw[e1,e2];exact .v _ _ hz
 · rcases e p with e|⟨z,hz,e1,e2⟩
   · rw[e];simp[PV.q]
   · rw[e1];simp[PV.q]
 · rcases e p with e|⟨z,hz,e1,e2⟩
   · rw[e];simp[PV.q]
   · rw[e1];simp[PV.q]
theorem jE:Gf NL NF:=by
 unfold NF;rintro h ω0 ρ args us H Q K R hloc ⟨(x:List UInt8),rfl,hok,hQ⟩ hK;have hlen:=R.lsl
 match us,hlen with
 | [u1],_=>
   have c1:RC h ω0 (.at (.s 0) [0]) (.fl (.str x)) u1:=Hy (us:=⟨[u1],[],h⟩) R 0 rfl (by simp) (by simp) (by simp)
   have e1:u1= .str x:=by cases c1;rfl
   subst e1;have hok:LG x:=hok;have hQ:Q (.tup [.fl (.int .i64 (Dx x).1),.fl (.ifc (Dx x).2)]) H:=hQ;rw[XU] at hok;rw[X3] at hQ;have r:=sI R (.int .i64 ((Lib.atoi x).getD 0)) (.ifc (Lib.atoi x).isSome) rfl rfl;exact⟨x,rfl,hok,hK _ _ _ _ _ _ hQ r.1 r.2⟩
end
section
set_option maxRecDepth 8000
def iE:DCode:=(.seq [1,0] (.region [oa 0 4 (.mv (.c .nils))]) (.seq [5,1,0] (.region [⟨0,some 8,.a false (.litSlice 1 0 [] []) (some (.one (.str))),none,[]⟩,om 1 5 8]) (.seq [6,5,1,0] (.region [oi 0 6 0]) (.seq [5] (.seq [7,6,5,1,0] (.region [oi 0 7 0]) (.block 0 (.loop [0,1,5,6,7] 1 (.seq [7,6,5,1,0] (.seq [12,7,6,5,1,0] (.region [om 0 9 7,om 1 10 0,oa 2 11 (.lenT (.t 10)),oa 3 12 (.bin .leq (.t 9) (.t 11))]) (.cond (.t 12) .skip (.exit 0))) (.seq [7,6,5,1,0] (.block 1 (.seq [25,7,6,5,1,0] (.region [om 0 15 7,om 1 16 0,oa 2 17 (.lenT (.t 16)),oa 3 18 (.bin .eql (.t 15) (.t 17)),om 4 19 18,og 5 20 (.mv (.t 0)) 19 false,og 6 21 (.mv (.t 7)) 19 false,og 7 22 (.index (.t 20) (.t 21)) 19 false,og 8 23 (.mv (.t 1)) 19 false,og 9 24 (.bin .eql (.t 22) (.t 23)) 19 false,oa 10 25 (.pick (.t 19) (.c (.bool true)) (.t 24))]) (.cond (.t 25) (.seq [7,5,1,0] (.region [om 0 26 5,om 1 27 0,om 2 28 6,om 3 29 7,oa 4 30 (.substr (.t 27) (some (.t 28)) (some (.t 29))),⟨5,some 31,.a false (.litSlice 1 1 [(.str [])] [(0,1,(.t 30))]) (some (.one (.str))),none,[]⟩,oa 6 32 (.app 1 (.t 26) (.t 31)),om 7 5 32]) (.region [om 0 33 7,oa 1 34 (.bin .add (.t 33) (.c (.int .i64 1))),om 2 6 34])) .skip))) (.region [om 0 13 7,oa 1 14 (.bin .add (.t 13) (.c (.int .i64 1))),om 2 7 14])))))) (.seq [4] (.region [om 0 35 5,om 1 4 35]) .ret)))))
def DJ:Fn:=⟨⟨2,36,0,false,[.tmp 4],iE⟩,[.one .frz (.str),.one .frz (.int .u8)],.one (.one .own (.sl (.one (.str))))⟩
theorem Ng:DJ.A:=A7 trivial
def Al:List UInt8×Int→List (List UInt8):=DJ.V
def Ig:List UInt8×Int→Prop:=DJ.O
theorem Ni:DJ.B:=A8 trivial (by kernel_rfl) (fun x=>by kernel_rfl)
def jG:DCode:=(.seq [] (.region [oa 0 0 (.mv (.c .nils))]) (.seq [0] (.region [oF 0 1 DJ [(.c (.str [97,32,98,32,99,32,100,32,101,32,102,32,103,32,104,32,105,32,106,32,107,32,108,32,109,32,110,32,111,32,112,32,113,32,114,32,115,32,116,32,117,32,118,32,119,32,120,32,121,32,122,32,49,32,50,32,51,32,52,32,53,32,54,32,55,32,56,32,57,32,48,32,101,110,116,101,114,32,101,115,99,32,98,97,99,107,32,116,97,98,32,115,112,97,99,101,32,109,105,110,117,115,32,101,113,117,97,108,32,108,101,102,116,32,114,105,103,104,116,32,117,112,32,100,111,119,110,32,102,49,32,102,50,32,102,51,32,102,52,32,102,53,32,102,54,32,102,55,32,102,56,32,102,57])),(.c (.int .u8 32))],om 1 0 1]) .ret))
def Io:Fn:=⟨⟨0,2,0,false,[.tmp 0],jG⟩,[],.one (.one .own (.sl (.one (.str))))⟩
theorem jU:Io.A:=A7 ⟨Ng,trivial⟩
def LH:Unit→List (List UInt8):=Io.V
def Qk:Unit→Prop:=Io.O
theorem jr:Io.B:=A8 ⟨Ni,trivial⟩ (by kernel_rfl) (fun x=>by kernel_rfl)
def iY:DCode:=(.seq [0] (.region [oa 0 2 (.mv (.c (.str [])))]) (.seq [0] (.seq [5,0] (.region [om 0 3 0,oF 1 4 CI [(.t 3),(.c (.int .i64 1)),(.c (.int .i64 56))],oa 2 5 (.un .not (.t 4))]) (.cond (.t 5) (.seq [2] (.region [oa 0 2 (.mv (.c (.str [])))]) .ret) .skip)) (.seq [2] (.region [oF 0 6 Io [],om 1 7 0,oa 2 8 (.bin .sub (.t 7) (.c (.int .i64 1))),oa 3 9 (.indexA 1 (.t 6) (.t 8)),ob 4 10 (.loadH none (.t 9)),om 5 2 10]) .ret)))
def DM:Fn:=⟨⟨1,11,0,true,[.tmp 2],iY⟩,[.one .frz (.int .i64)],.one (.one .own (.str))⟩
theorem Nn:DM.A:=A7 ⟨Kj,jU,trivial⟩
def Bv:Int→List UInt8:=DM.V
def Jf:Int→Prop:=DM.O
theorem Nr:DM.B:=A8 ⟨Kk,jr,trivial⟩ (by kernel_rfl) (fun x=>by kernel_rfl)
def gK:DCode:=(.seq [0] (.region [oa 0 2 (.mv (.c (.str [])))]) (.seq [3,0] (.region [oa 0 3 (.mv (.c (.str [])))]) (.seq [3] (.seq [4,3,0] (.region [oi 0 4 0]) (.block 0 (.loop [0,3,4] 1 (.seq [4,3,0] (.seq [10,4,3,0] (.region [om 0 5 4,oa 1 6 (.bin .lss (.t 5) (.c (.int .i64 4))),om 2 7 6,og 3 8 (.mv (.t 0)) 7 true,⟨4,some 9,.call false CI.S CI.P CI.D [(.t 8),(.c (.int .i64 1)),(.c (.int .i64 15))],(some (7,true)),[]⟩,oa 5 10 (.pick (.t 7) (.t 9) (.c (.bool false)))]) (.cond (.t 10) .skip (.exit 0))) (.seq [4,3,0] (.block 1 (.seq [17,4,3,0] (.region [om 0 13 0,om 1 14 4,oa 2 15 (.bin .shr (.t 13) (.t 14)),oa 3 16 (.bin .and (.t 15) (.c (.int .i64 1))),oa 4 17 (.bin .eql (.t 16) (.c (.int .i64 1)))]) (.cond (.t 17) (.region [om 0 18 3,om 1 19 4,om 2 20 4,oa 3 21 (.bin .add (.t 20) (.c (.int .i64 1))),oa 4 22 (.substr (.c (.str [67,83,65,71])) (some (.t 19)) (some (.t 21))),oa 5 23 (.bin .add (.t 18) (.t 22)),om 6 3 23]) .skip))) (.region [om 0 11 4,oa 1 12 (.bin .add (.t 11) (.c (.int .i64 1))),om 2 4 12])))))) (.seq [2] (.region [om 0 24 3,om 1 2 24]) .ret))))
def Es:Fn:=⟨⟨1,25,0,true,[.tmp 2],gK⟩,[.one .frz (.int .i64)],.one (.one .own (.str))⟩
theorem P5:Es.A:=A7 ⟨Kj,trivial⟩
def BP:Int→List UInt8:=Es.V
def Jb:Int→Prop:=Es.O
theorem P3:Es.B:=A8 ⟨Kk,trivial⟩ (by kernel_rfl) (fun x=>by kernel_rfl)
def iM:DCode:=(.seq [1,0] (.region [oa 0 4 (.mv (.c (.str [])))]) (.seq [5,1,0] (.region [⟨0,some 7,.a false (.litSlice 1 0 [] []) (some (.one (.int .u8))),none,[]⟩,om 1 5 7]) (.seq [5] (.seq [6,5,1,0] (.region [oi 0 6 0]) (.block 0 (.loop [0,1,5,6] 1 (.seq [6,5,1,0] (.seq [11,6,5,1,0] (.region [om 0 8 6,on 1 9 0,oa 2 10 (.len (.t 9)),oa 3 11 (.bin .lss (.t 8) (.t 10))]) (.cond (.t 11) .skip (.exit 0))) (.seq [6,5,1,0] (.block 1 (.seq [6,5,1,0] (.seq [15,6,5,1,0] (.region [om 0 14 6,oa 1 15 (.bin .gtr (.t 14) (.c (.int .i64 0)))]) (.cond (.t 15) (.region [om 0 16 5,om 1 17 1,oa 2 18 (.app 1 (.t 16) (.t 17)),om 3 5 18]) .skip)) (.region [om 0 19 5,on 1 20 0,om 2 21 6,oa 3 22 (.indexA 1 (.t 20) (.t 21)),oa 4 23 (.loadH none (.t 22)),oa 5 24 (.app 1 (.t 19) (.t 23)),om 6 5 24]))) (.region [om 0 12 6,oa 1 13 (.bin .add (.t 12) (.c (.int .i64 1))),om 2 6 13])))))) (.seq [4] (.region [on 0 25 5,oa 1 26 (.bstr (.t 25)),om 2 4 26]) .ret))))
def NB:Fn:=⟨⟨2,27,0,true,[.tmp 4],iM⟩,[.one .frz (.sl (.one (.str))),.one .frz (.str)],.one (.one .own (.str))⟩
def Nx:List (List UInt8)×List UInt8→List UInt8:=NB.V
def Nk:List (List UInt8)×List UInt8→Prop:=NB.O
def iK:DCode:=(.seq [0] (.region [oa 0 2 (.mv (.c (.str [])))]) (.seq [0] (.seq [8,0] (.region [om 0 3 0,oa 1 4 (.bin .lss (.t 3) (.c (.int .i64 1))),om 2 5 4,og 3 6 (.mv (.t 0)) 5 false,og 4 7 (.bin .gtr (.t 6) (.c (.int .i64 56))) 5 false,oa 5 8 (.pick (.t 5) (.c (.bool true)) (.t 7))]) (.cond (.t 8) (.seq [2] (.region [oa 0 2 (.mv (.c (.str [])))]) .ret) .skip)) (.seq [2] (.region [oc 0 9 Kg LF Tx [(.c (.str [97,32,98,32,99,32,100,32,101,32,102,32,103,32,104,32,105,32,106,32,107,32,108,32,109,32,110,32,111,32,112,32,113,32,114,32,115,32,116,32,117,32,118,32,119,32,120,32,121,32,122,32,49,32,50,32,51,32,52,32,53,32,54,32,55,32,56,32,57,32,48,32,101,110,116,101,114,32,101,115,99,32,98,97,99,107,32,116,97,98,32,115,112,97,99,101,32,109,105,110,117,115,32,101,113,117,97,108,32,108,101,102,116,32,114,105,103,104,116,32,117,112,32,100,111,119,110,32,102,49,32,102,50,32,102,51,32,102,52,32,102,53,32,102,54,32,102,55,32,102,56,32,102,57])),(.c (.str [32]))],om 1 10 0,oa 2 11 (.bin .sub (.t 10) (.c (.int .i64 1))),oa 3 12 (.indexA 1 (.t 9) (.t 11)),ob 4 13 (.loadH none (.t 12)),om 5 2 13]) .ret)))
def Ew:Fn:=⟨⟨1,14,0,true,[.tmp 2],iK⟩,[.one .frz (.int .i64)],.one (.one .own (.str))⟩
theorem Qf:Ew.A:=A7 ⟨XK,trivial⟩
def Hh:Int→List UInt8:=Ew.V
def Kc:Int→Prop:=Ew.O
theorem Qc:Ew.B:=A8 ⟨XI,trivial⟩ (by kernel_rfl) (fun x=>by kernel_rfl)
def gV:DCode:=(.seq [0] (.region [oa 0 2 (.mv (.c (.str [])))]) (.seq [0] (.seq [11,0] (.region [om 0 6 0,oa 1 7 (.bin .lss (.t 6) (.c (.int .i64 1))),om 2 8 7,og 3 9 (.mv (.t 0)) 8 false,og 4 10 (.bin .gtr (.t 9) (.c (.int .i64 15))) 8 false,oa 5 11 (.pick (.t 8) (.c (.bool true)) (.t 10))]) (.cond (.t 11) (.seq [2] (.region [oa 0 2 (.mv (.c (.str [])))]) .ret) .skip)) (.seq [3,0] (.region [oa 0 3 (.mv (.c (.str [])))]) (.seq [3] (.seq [14,13,12,3,0] (.region [⟨0,some 12,.a false (.litSlice 1 4 [(.str []),(.str []),(.str []),(.str [])] [(0,1,(.c (.str [67]))),(1,1,(.c (.str [83]))),(2,1,(.c (.str [65]))),(3,1,(.c (.str [71])))]) (some (.one (.str))),none,[]⟩,oa 1 13 (.len (.t 12)),oi 2 14 0]) (.block 0 (.loop [0,3,12,13,14] 1 (.seq [15,14,13,12,3,0] (.region [oa 0 15 (.bin .lss (.t 14) (.t 13))]) (.seq [14,13,12,3,0] (.cond (.t 15) .skip (.exit 0)) (.seq [14,13,12,3,0] (.block 1 (.seq [14,13,12,5,4,3,0] (.region [om 0 16 14,oa 1 17 (.indexA 1 (.t 12) (.t 14)),oa 2 18 (.loadH none (.t 17)),om 3 4 16,om 4 5 18]) (.seq [22,14,13,12,5,3,0] (.region [om 0 19 0,om 1 20 4,oF 2 21 Ix [(.t 19),(.t 20)],oa 3 22 (.bin .eql (.t 21) (.c (.int .i64 1)))]) (.cond (.t 22) (.region [om 0 23 3,om 1 24 5,oa 2 25 (.bin .add (.t 23) (.t 24)),om 3 3 25]) .skip)))) (.region [oa 0 26 (.bin .add (.t 14) (.c (.int .i64 1))),om 1 14 26]))))))) (.seq [2] (.region [om 0 27 3,om 1 2 27]) .ret)))))
def Et:Fn:=⟨⟨1,28,0,true,[.tmp 2],gV⟩,[.one .frz (.int .i64)],.one (.one .own (.str))⟩
theorem PY:Et.A:=A7 ⟨mh,trivial⟩
def Fl:Int→List UInt8:=Et.V
def Ja:Int→Prop:=Et.O
theorem PW:Et.B:=A8 ⟨mI,trivial⟩ (by kernel_rfl) (fun x=>by kernel_rfl)
def iV:DCode:=(.seq [1,0] (.region [oa 0 4 (.mv (.c (.str [])))]) (.seq [4] (.region [on 0 5 0,om 1 6 1,oc 2 7 NJ NG Yi [(.t 5),(.t 6)],om 3 4 7]) .ret))
def Ik:Fn:=⟨⟨2,8,0,true,[.tmp 4],iV⟩,[.one .frz (.sl (.one (.str))),.one .frz (.str)],.one (.one .own (.str))⟩
theorem iO:Ik.A:=A7 ⟨jL,trivial⟩
def Qn:List (List UInt8)×List UInt8→List UInt8:=Ik.V
def Qe:List (List UInt8)×List UInt8→Prop:=Ik.O
theorem iP:Ik.B:=A8 ⟨jC,trivial⟩ (by kernel_rfl) (fun x=>by kernel_rfl)
end
section
set_option maxRecDepth 100000
def Na(x:List UInt8×Int)(x0:((List (List UInt8))×(Int×Int))):Bool:=(iLe x0.2.2 (lLen x.1))
def PR(x:List UInt8×Int)(x0:((List (List UInt8))×(Int×Int))):((List (List UInt8))×(Int×Int)):=((bSel (bOr (iEq x0.2.2 (lLen x.1)) (iEq (sGet x.1 x0.2.2) x.2)) (lApp x0.1 [(lSub x.1 (iNat x0.2.1) (iNat x0.2.2))]) x0.1),(bSel (bOr (iEq x0.2.2 (lLen x.1)) (iEq (sGet x.1 x0.2.2) x.2)) (iAdd .i64 x0.2.2 1) x0.2.1),(iAdd .i64 x0.2.2 1))
def Tb(x:List UInt8×Int)(x0:((List (List UInt8))×(Int×Int))):Prop:=(((iLe x0.2.2 (lLen x.1))=true→((((iEq x0.2.2 (lLen x.1))=true→True)∧((iEq x0.2.2 (lLen x.1))=false→(((0:Int)≤x0.2.2)∧(x0.2.2<(((List.length x.1):Int))))))∧(((bOr (iEq x0.2.2 (lLen x.1)) (iEq (sGet x.1 x0.2.2) x.2))=true→(((((0:Int)≤x0.2.1)∧((0:Int)≤x0.2.2))∧(((iNat x0.2.1)≤(iNat x0.2.2))∧((iNat x0.2.2)≤(List.length x.1))))∧(A5 (((List.length x0.1)+(List.length [(lSub x.1 (iNat x0.2.1) (iNat x0.2.2))]))*1))))∧((bOr (iEq x0.2.2 (lLen x.1)) (iEq (sGet x.1 x0.2.2) x.2))=false→True))))∧((iLe x0.2.2 (lLen x.1))=false→True))
theorem hF (x):Al x=(An (Na x) (PR x) ([],0,0)).1:=(DJ.v x).trans (by kernel_rfl)
theorem iw (x):Ig x=(LoopOk (Na x) (PR x) (Tb x) ([],0,0)):=(DJ.o x).trans (by kernel_rfl)
theorem jH (x):LH x=(Al ([(97:UInt8),32,98,32,99,32,100,32,101,32,102,32,103,32,104,32,105,32,106,32,107,32,108,32,109,32,110,32,111,32,112,32,113,32,114,32,115,32,116,32,117,32,118,32,119,32,120,32,121,32,122,32,49,32,50,32,51,32,52,32,53,32,54,32,55,32,56,32,57,32,48,32,101,110,116,101,114,32,101,115,99,32,98,97,99,107,32,116,97,98,32,115,112,97,99,101,32,109,105,110,117,115,32,101,113,117,97,108,32,108,101,102,116,32,114,105,103,104,116,32,117,112,32,100,111,119,110,32,102,49,32,102,50,32,102,51,32,102,52,32,102,53,32,102,54,32,102,55,32,102,56,32,102,57],32)):=(Io.v x).trans (by kernel_rfl)
theorem jy (x):Qk x=(Ig ([(97:UInt8),32,98,32,99,32,100,32,101,32,102,32,103,32,104,32,105,32,106,32,107,32,108,32,109,32,110,32,111,32,112,32,113,32,114,32,115,32,116,32,117,32,118,32,119,32,120,32,121,32,122,32,49,32,50,32,51,32,52,32,53,32,54,32,55,32,56,32,57,32,48,32,101,110,116,101,114,32,101,115,99,32,98,97,99,107,32,116,97,98,32,115,112,97,99,101,32,109,105,110,117,115,32,101,113,117,97,108,32,108,101,102,116,32,114,105,103,104,116,32,117,112,32,100,111,119,110,32,102,49,32,102,50,32,102,51,32,102,52,32,102,53,32,102,54,32,102,55,32,102,56,32,102,57],32)):=(Io.o x).trans (by kernel_rfl)
theorem Qh (x):Bv x=(bSel (bNot (B3 (x,1,56))) [] (lGet (LH PUnit.unit) (iNat (iSub .i64 x 1)) [])):=(DM.v x).trans (by kernel_rfl)
theorem iZ (x):Jf x=((Hj (x,1,56))∧(((bNot (B3 (x,1,56)))=true→True)∧((bNot (B3 (x,1,56)))=false→((Qk PUnit.unit)∧((((0:Int)≤(iSub .i64 x 1))∧((iSub .i64 x 1)<(((List.length (LH PUnit.unit)):Int))))∧((iNat (iSub .i64 x 1))<(List.length (LH PUnit.unit)))))))):=(DM.o x).trans (by kernel_rfl)
def J4(x:Int)(x0:((List UInt8)×Int)):Bool:=(bAnd (iLt x0.2 4) (B3 (x,1,15)))
def M8(x:Int)(x0:((List UInt8)×Int)):((List UInt8)×Int):=((bSel (iEq (iAnd .i64 (iShr .i64 x x0.2) 1) 1) (sAdd x0.1 (lSub [(67:UInt8),83,65,71] (iNat x0.2) (iNat (iAdd .i64 x0.2 1)))) x0.1),(iAdd .i64 x0.2 1))
def Lt(x:Int)(x0:((List UInt8)×Int)):Prop:=((((iLt x0.2 4)=true→(Hj (x,1,15)))∧((iLt x0.2 4)=false→True))∧(((bAnd (iLt x0.2 4) (B3 (x,1,15)))=true→(((0:Int)≤x0.2)∧(((iEq (iAnd .i64 (iShr .i64 x x0.2) 1) 1)=true→(((((0:Int)≤x0.2)∧((0:Int)≤(iAdd .i64 x0.2 1)))∧(((iNat x0.2)≤(iNat (iAdd .i64 x0.2 1)))∧((iNat (iAdd .i64 x0.2 1))≤(List.length [(67:UInt8),83,65,71]))))∧(((List.length x0.1)+(List.length (lSub [(67:UInt8),83,65,71] (iNat x0.2) (iNat (iAdd .i64 x0.2 1)))))≤9223372036854775807)))∧((iEq (iAnd .i64 (iShr .i64 x x0.2) 1) 1)=false→True))))∧((bAnd (iLt x0.2 4) (B3 (x,1,15)))=false→True)))
theorem gX (x):BP x=(An (J4 x) (M8 x) ([],0)).1:=(Es.v x).trans (by kernel_rfl)
theorem gI (x):Jb x=(LoopOk (J4 x) (M8 x) (Lt x) ([],0)):=(Es.o x).trans (by kernel_rfl)
def Nf(x:List (List UInt8)×List UInt8)(x0:((List Int)×Int)):Bool:=(iLt x0.2 (lLen x.1))
def P6(x:List (List UInt8)×List UInt8)(x0:((List Int)×Int)):((List Int)×Int):=((lApp (bSel (iGt x0.2 0) (lApp x0.1 (sRow x.2)) x0.1) (sRow (lGet x.1 (iNat x0.2) []))),(iAdd .i64 x0.2 1))
def P1(x:List (List UInt8)×List UInt8)(x0:((List Int)×Int)):Prop:=(((iLt x0.2 (lLen x.1))=true→((((iGt x0.2 0)=true→(A5 (((List.length x0.1)+(List.length (sRow x.2)))*1)))∧((iGt x0.2 0)=false→True))∧((((0:Int)≤x0.2)∧(x0.2<(((List.length x.1):Int))))∧(((iNat x0.2)<(List.length x.1))∧(A5 (((List.length (bSel (iGt x0.2 0) (lApp x0.1 (sRow x.2)) x0.1))+(List.length (sRow (lGet x.1 (iNat x0.2) []))))*1))))))∧((iLt x0.2 (lLen x.1))=false→True))
theorem jd (x):Nx x=(rowS (An (Nf x) (P6 x) ([],0)).1):=(NB.v x).trans (by kernel_rfl)
theorem ji (x):Nk x=(LoopOk (Nf x) (P6 x) (P1 x) ([],0)):=(NB.o x).trans (by kernel_rfl)
theorem je (x):Hh x=(bSel (bOr (iLt x 1) (iGt x 56)) [] (lGet (D8 ([(97:UInt8),32,98,32,99,32,100,32,101,32,102,32,103,32,104,32,105,32,106,32,107,32,108,32,109,32,110,32,111,32,112,32,113,32,114,32,115,32,116,32,117,32,118,32,119,32,120,32,121,32,122,32,49,32,50,32,51,32,52,32,53,32,54,32,55,32,56,32,57,32,48,32,101,110,116,101,114,32,101,115,99,32,98,97,99,107,32,116,97,98,32,115,112,97,99,101,32,109,105,110,117,115,32,101,113,117,97,108,32,108,101,102,116,32,114,105,103,104,116,32,117,112,32,100,111,119,110,32,102,49,32,102,50,32,102,51,32,102,52,32,102,53,32,102,54,32,102,55,32,102,56,32,102,57],[(32:UInt8)])) (iNat (iSub .i64 x 1)) [])):=(Ew.v x).trans (by kernel_rfl)
theorem jm (x):Kc x=(((bOr (iLt x 1) (iGt x 56))=true→True)∧((bOr (iLt x 1) (iGt x 56))=false→((Je ([(97:UInt8),32,98,32,99,32,100,32,101,32,102,32,103,32,104,32,105,32,106,32,107,32,108,32,109,32,110,32,111,32,112,32,113,32,114,32,115,32,116,32,117,32,118,32,119,32,120,32,121,32,122,32,49,32,50,32,51,32,52,32,53,32,54,32,55,32,56,32,57,32,48,32,101,110,116,101,114,32,101,115,99,32,98,97,99,107,32,116,97,98,32,115,112,97,99,101,32,109,105,110,117,115,32,101,113,117,97,108,32,108,101,102,116,32,114,105,103,104,116,32,117,112,32,100,111,119,110,32,102,49,32,102,50,32,102,51,32,102,52,32,102,53,32,102,54,32,102,55,32,102,56,32,102,57],[(32:UInt8)]))∧((((0:Int)≤(iSub .i64 x 1))∧((iSub .i64 x 1)<(((List.length (D8 ([(97:UInt8),32,98,32,99,32,100,32,101,32,102,32,103,32,104,32,105,32,106,32,107,32,108,32,109,32,110,32,111,32,112,32,113,32,114,32,115,32,116,32,117,32,118,32,119,32,120,32,121,32,122,32,49,32,50,32,51,32,52,32,53,32,54,32,55,32,56,32,57,32,48,32,101,110,116,101,114,32,101,115,99,32,98,97,99,107,32,116,97,98,32,115,112,97,99,101,32,109,105,110,117,115,32,101,113,117,97,108,32,108,101,102,116,32,114,105,103,104,116,32,117,112,32,100,111,119,110,32,102,49,32,102,50,32,102,51,32,102,52,32,102,53,32,102,54,32,102,55,32,102,56,32,102,57],[(32:UInt8)]))):Int))))∧((iNat (iSub .i64 x 1))<(List.length (D8 ([(97:UInt8),32,98,32,99,32,100,32,101,32,102,32,103,32,104,32,105,32,106,32,107,32,108,32,109,32,110,32,111,32,112,32,113,32,114,32,115,32,116,32,117,32,118,32,119,32,120,32,121,32,122,32,49,32,50,32,51,32,52,32,53,32,54,32,55,32,56,32,57,32,48,32,101,110,116,101,114,32,101,115,99,32,98,97,99,107,32,116,97,98,32,115,112,97,99,101,32,109,105,110,117,115,32,101,113,117,97,108,32,108,101,102,116,32,114,105,103,104,116,32,117,112,32,100,111,119,110,32,102,49,32,102,50,32,102,51,32,102,52,32,102,53,32,102,54,32,102,55,32,102,56,32,102,57],[(32:UInt8)])))))))):=(Ew.o x).trans (by kernel_rfl)
def M7(x0:((List UInt8)×Int)):Bool:=(iLt x0.2 (lLen [[(67:UInt8)],[(83:UInt8)],[(65:UInt8)],[(71:UInt8)]]))
def PO(x:Int)(x0:((List UInt8)×Int)):((List UInt8)×Int):=((bSel (iEq (N5 (x,x0.2)) 1) (sAdd x0.1 (lGet [[(67:UInt8)],[(83:UInt8)],[(65:UInt8)],[(71:UInt8)]] (iNat x0.2) [])) x0.1),(iAdd .i64 x0.2 1))
def PN(x:Int)(x0:((List UInt8)×Int)):Prop:=(((iLt x0.2 (lLen [[(67:UInt8)],[(83:UInt8)],[(65:UInt8)],[(71:UInt8)]]))=true→((((0:Int)≤x0.2)∧(x0.2<(((List.length [[(67:UInt8)],[(83:UInt8)],[(65:UInt8)],[(71:UInt8)]]):Int))))∧(((iNat x0.2)<(List.length [[(67:UInt8)],[(83:UInt8)],[(65:UInt8)],[(71:UInt8)]]))∧((TU (x,x0.2))∧(((iEq (N5 (x,x0.2)) 1)=true→(((List.length x0.1)+(List.length (lGet [[(67:UInt8)],[(83:UInt8)],[(65:UInt8)],[(71:UInt8)]] (iNat x0.2) [])))≤9223372036854775807))∧((iEq (N5 (x,x0.2)) 1)=false→True))))))∧((iLt x0.2 (lLen [[(67:UInt8)],[(83:UInt8)],[(65:UInt8)],[(71:UInt8)]]))=false→True))
theorem gN (x):Fl x=(bSel (bOr (iLt x 1) (iGt x 15)) [] (An M7 (PO x) ([],0)).1):=(Et.v x).trans (by kernel_rfl)
theorem gQ (x):Ja x=(((bOr (iLt x 1) (iGt x 15))=true→True)∧((bOr (iLt x 1) (iGt x 15))=false→(LoopOk M7 (PO x) (PN x) ([],0)))):=(Et.o x).trans (by kernel_rfl)
theorem jo (x):Qn x=(LK x):=(Ik.v x).trans (by kernel_rfl)
theorem iX (x):Qe x=(LC x):=(Ik.o x).trans (by kernel_rfl)
attribute [irreducible] Al Ig LH Qk Bv Jf BP Jb Nx Nk Hh Kc Fl Ja Qn Qe
end
end
end Go.Ag
