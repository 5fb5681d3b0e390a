/- Part 5 of what FnExactFormatReport needs. No conditions. -/
import Derived.WalkKit
import Derived.ProofKit
import Derived.OpenShut
import Derived.Carry
import Derived.ChangeSame
import Derived.Attr
import Derived.KernelRfl
import Derived.Below
import Derived.Lib.Join
import Derived.Lib.Split
import Derived.Lib.Bytealg
import Derived.Lib.ItoaNum
import Derived.Test.YtkjnachjeoeihaaDoorLibD
namespace Go.Ag
set_option linter.unusedSimpArgs false
set_option linter.unusedVariables false
noncomputable section
theorem TG(d:DS)(c:Opnd)(t:Bool):ChgS d (setc d c t):=by
 cases c with
 |t g=>exact PH d g t
 |c v=>exact ChgS.refl d
theorem Us{d:DS}{s:PS}{c:Opnd}{b:Bool}(hs:ES d s)(h:c.pev s.sl= .fl (.bool b)):ES (setc d c b) s:=by
 cases c with
 |t g=>exact UR hs h
 |c v=>exact hs
theorem Ft:∀ (c:DCode) (d:DS),(dev c d).All (ChgS d)
 |.skip,d=>ChgS.refl d
 |.region ops,d=>P4 ops d (ChgS.refl d)
 | .regionU ops,d=>by
   simp only[dev]
   split
   · exact P4 ops d (ChgS.refl d)
   · trivial
 | .seq l a b,d=>by
   refine DT.then_all (Ft a d.clean) (fun st h=>?_) (fun st h=>h.rem)
   have h1:ChgS d (Hy d (Oy l st)):=(h.trans (Z1 l st)).rem
   exact DT.All.imp (fun _ h2=>h1.trans h2) (Ft b _)
 | .cond c a b,d=>by
   simp only[dev]
   cases hc:c.dev d.sl with
   | bool t=>
     cases t with
     |lit t=>cases t<;>first|exact Ft a d|exact Ft b d
     |dyn t=>exact⟨DT.All.imp (fun _ h=>(TG d c true).trans h) (Ft a _),DT.All.imp (fun _ h=>(TG d c false).trans h) (Ft b _)⟩
   |_=>trivial
 |.block i a,d=>DT.unexit_all i (Ft a d)
 |.loop live n a,d=>Z9 (fun d=>Ft a d.clean) d
 |.exit i,d=>ChgS.refl d
 |.ret,d=>ChgS.refl d
theorem E3:∀ (c:DCode),AllD c.obs→∀ {d d':DS} {s:PS} {e:AExit} {k:DF},ES d s→(dev c d).ok.den→(dev c d).lf=some (e,d')→(∀ s',ES d' s'→k e s')→Eg c.er k s
 | .skip,_,d,d',s,e,k,hs,hok,hl,hk=>by
   simp only[dev,DT.lf,Ah,Ak] at hl
   obtain⟨rfl,rfl⟩:=hl
   exact hk s hs
 | .region ops,ho,d,d',s,e,k,hs,hok,hl,hk=>by
   have he:=Vb ops hl
   subst he
   exact QI ops ho rfl hk d s hs hok hl
 | .regionU ops,ho,d,d',s,e,k,hs,hok,hl,hk=>by
   simp only[dev] at hok hl
   split at hok
   · rename_i hp
     rw[Ab hp] at hl
     have he:=Vb ops hl
     subst he
     exact⟨hp,QI ops ho rfl hk d s hs hok hl⟩
   · exact hok.elim
 | .seq l a b,ho,d,d',s,e,k,hs,hok,hl,hk=>by
   obtain⟨h1,h2⟩:=ho.app
   obtain⟨hoa,hc⟩:=DT.then_s (Ft a d.clean) hok hl
   simp only[DCode.er,Eg]
   rcases hc with⟨st0,m,hla,hm,hch,hob,hlb⟩|⟨he,st0,hla,rfl⟩
   · refine E3 a h1 hs.clean hoa hla fun s' hs'=>?_
     exact E3 b h2 (((hm s' hs').trim l).rem) hob hlb hk
   · refine E3 a h1 hs.clean hoa hla fun s' hs'=>?_
     cases e<;>first|(cases he;done)|exact hk s' hs'.rem
 | .cond c a b,ho,d,d',s,e,k,hs,hok,hl,hk=>by
   obtain⟨h1,h2⟩:=ho.app
   have hv:=c.dev_ev hs
   simp only[dev] at hok hl
   simp only[DCode.er,Eg]
   cases hc:c.dev d.sl with
   | bool t=>
     rw[hc] at hok hl hv
     have hp:=hv.of (by simp)
     simp only[DV.enc] at hp
     rw[hp]
     simp only
     cases t with
     | lit t=>
       cases t with
       |true=>exact E3 a h1 hs hok hl hk
       |false=>exact E3 b h2 hs hok hl hk
     | dyn t=>
       have hok:=(PX.if_den _ _ _).mp hok
       cases t with
       |true=>exact E3 a h1 (Us hs hp) (hok.1 rfl) hl hk
       |false=>exact E3 b h2 (Us hs hp) (hok.2 rfl) hl hk
   |_=>rw[hc] at hok;exact hok.elim
 | .block i a,ho,d,d',s,e,k,hs,hok,hl,hk=>by
   simp only[dev,DT.unexit_ok,DT.unexit_lf] at hok hl
   obtain⟨e0,d0,h0⟩:=DT.ok_lf hok
   rw[h0] at hl
   simp only[Br,Ah,Ak] at hl
   obtain⟨rfl,rfl⟩:=hl
   refine E3 a ho hs hok h0 fun s' hs'=>?_
   have:=hk s' hs'
   cases e0 with
   |normal=>exact this
   |ret=>exact this
   | exit j=>
     simp only[Qt]
     simp only[AExit.un] at this
     split
     · rename_i hj;rw[Ab hj] at this;exact this
     · rename_i hj;rw[Ad hj] at this;exact this
 | .loop live n a,ho,d,d',s,e,k,hs,hok,hl,hk=>by
   simp only[dev] at hok hl
   exact dR (fun d=>Ft a d.clean) (fun d s e d' k hs hok hl hk=>E3 a ho hs.clean hok hl hk) hs hok hl hk
 | .exit i,_,d,d',s,e,k,hs,hok,hl,hk=>by
   simp only[dev,DT.lf,Ah,Ak] at hl
   obtain⟨rfl,rfl⟩:=hl
   exact hk s hs
 | .ret,_,d,d',s,e,k,hs,hok,hl,hk=>by
   simp only[dev,DT.lf,Ah,Ak] at hl
   obtain⟨rfl,rfl⟩:=hl
   exact hk s hs
mutual
def DV.flt:DV→Bool
 |.bool _|.int _ _|.str _|.ifc _=>true
 |.agg cs=>DV.fltL cs
 |.tup vs=>DV.fltL vs
 |_=>false
def DV.fltL:List DV→Bool
 |[]=>true
 |v::r=>v.flt&&DV.fltL r
end
mutual
theorem Qy:∀ (v:DV),v.flt=true→v.enc.flt=true
 |.bool _,_|.int _ _,_|.str _,_|.ifc _,_=>rfl
 |.agg cs,h=>PN cs h
 |.tup cs,h=>PN cs h
theorem PN:∀ (l:List DV),DV.fltL l=true→PV.fltL (DV.encL l)=true
 |[],_=>rfl
 | v::r,h=>by
   simp only[DV.fltL,Aj] at h
   simp only[DV.encL,PV.fltL,Qy v h.1,PN r h.2,BJ]
end
theorem PI:∀ (l:List DV),FI l=true→DV.okL l=true
 |[],_=>rfl
 | v::r,h=>by
   simp only[FI,Aj] at h
   have:v.ok=true:=by cases v<;>first|rfl|(have:=h.1;cases this)
   simp only[DV.okL,this,PI r h.2,BJ]
theorem EBx.segm2{a:List DC}{b:List PV}{o n:Nat}(h:EBx a b)(hl:o+n≤a.length)(hk:DV.okL (Bd (Be a) o n)=true):Go.Ag.segm b o n=DV.encL (Bd (Be a) o n)∧o+n≤b.length:=by
 rcases h with rfl|h
 · simp only[AA,Nat.le_zero_eq,Nat.add_eq_zero_iff] at hl;obtain⟨rfl,rfl⟩:=hl;refine⟨?_,Fy _⟩;cases b<;>rfl
 · exact⟨h.segm o n hk,by rw[← h.len];exact hl⟩
theorem TC{st st':DS}{s:PS}{r:ARes}{v:DV}(hs:ES st s)(h:Lv st r=some (v,st'))(hv:v.ok=true):∃ s',FE s r=some (v.enc,s')∧ES st' s':=by
 cases r with
 | tmp t=>
   simp only[Lv] at h;split at h
   · rename_i hc;simp only[Aj] at hc;simp only[Ah] at h
     have hk:(AD (.t t) st).1.ok=true:=by
      have:(AD (.t t) st).1=v:=by simp only[AD,h]
      rw[this];exact hv
     obtain⟨m1,m2⟩:=CU (.t t) hs hk
     have hne:AP st.sl t≠.any:=by intro e;rw[e] at hc;cases hc.2
     have hp:=(hs.sl.get t).of hne;simp only[AD,h,mvOut] at m1 m2;refine⟨(Da (Aa s.sl t) t s).2,?_,m2⟩;simp only[FE];rw[Ab (by rw[hp];exact bl _ hc.1),← m1]
   · cases h
 | cell t n=>
   simp only[Lv] at h;have hp:=hs.sl.get t
   cases hv:AP st.sl t with
   | box i o=>
     rw[hv] at h hp;have hp:=hp.of (by simp);simp only at h;split at h
     · rename_i hc;simp only[Aj] at hc;simp only[Ba] at h;obtain⟨⟨g,r⟩,h1,h2⟩:=h;simp only at h2;subst h2;obtain⟨e1,e2⟩:=(hs.bx.get i).segm2 (BH hc.1) (PI _ hc.2)
       have hg:g= .tt:=by
        unfold Ix at h1;simp only[Az] at h1;split at h1
        · simp only[Ba,Ak] at h1;obtain⟨_,_,rfl,_⟩:=h1;rfl
        · cases h1
       subst hg;obtain⟨s',e3,e4⟩:=R9 (p:=.box i o) hs (.inr rfl) h1;refine⟨s',?_,e4⟩;simp only[FE,hp,DV.enc];rw[Ab ⟨e2,by rw[e1];exact Nk _ hc.2⟩];exact e3
     · cases h
   | ptr i o=>
     rw[hv] at h hp;have hp:=hp.of (by simp);simp only at h;split at h
     · rename_i hc;simp only[Aj] at hc;simp only[Ba] at h;obtain⟨⟨g,r⟩,h1,h2⟩:=h;simp only at h2;subst h2;obtain⟨e1,e2⟩:=(hs.hp.get i).segm2 (BH hc.1) (PI _ hc.2)
       have hg:g= .tt∧i<st.hp.length:=by
        unfold Hm at h1;simp only[Az] at h1;split at h1
        · rename_i hb;simp only[Aj] at hb;simp only[Ba,Ak] at h1;obtain⟨_,_,rfl,_⟩:=h1;exact⟨rfl,BH hb.1.1⟩
        · cases h1
       obtain⟨rfl,hi⟩:=hg;obtain⟨s',e3,e4⟩:=Sf (p:=.ptr i o) hs (.inr rfl) h1 trivial;refine⟨s',?_,e4⟩;simp only[FE,hp,DV.enc];rw[Ab ⟨by rw[← hs.hp.len];exact hi,e2,by rw[e1];exact Nk _ hc.2⟩];exact e3
     · cases h
   |_=>rw[hv] at h;cases h
theorem Tt:∀ {res:List ARes} {st st':DS} {s:PS} {vs:List DV},ES st s→Jw st res=some (vs,st')→DV.okL vs=true→∃ s',Fs s res=some (DV.encL vs,s')∧ES st' s'
 | [],st,st',s,vs,hs,h,_=>by
   simp only[Jw,Ah,Ak] at h
   obtain⟨rfl,rfl⟩:=h
   exact⟨s,rfl,hs⟩
 | r :: rs,st,st',s,vs,hs,h,hk=>by
   simp only[Jw] at h
   split at h
   · rename_i v st1 h1
     split at h
     · rename_i vs1 st2 h2
       simp only[Ah,Ak] at h
       obtain⟨rfl,rfl⟩:=h
       simp only[DV.okL,Aj] at hk
       obtain⟨s1,e1,e2⟩:=TC hs h1 hk.1
       obtain⟨s2,e3,e4⟩:=Tt e2 h2 hk.2
       exact⟨s2,by simp only[Fs,e1,e3,DV.encL],e4⟩
     · cases h
   · cases h
theorem Up:∀ {res:List ARes} {st:DS} {s:PS} {v:DV},ES st s→D6 st res=some v→v.ok=true→∃ s',IF s res=some (v.enc,s'):=by
 have gen:∀ {res:List ARes} {st:DS} {s:PS} {v:DV},ES st s→v.ok=true→(Jw st res).map (fun x=>DV.tup x.1)=some v→∃ s',(Fs s res).map (fun(vs,st)=>(PV.tup vs,st))=some (v.enc,s'):=fun hs hv h=>by
  simp only[Ba] at h;obtain⟨⟨vs,st'⟩,h1,rfl⟩:=h;obtain⟨s',e1,_⟩:=Tt hs h1 hv;exact⟨s',by rw[e1];rfl⟩
 intro res st s v hs h hv
 cases res with
 |nil=>exact gen (res:=[]) hs hv h
 | cons r rs=>
   cases rs with
   | nil=>
     simp only[D6,Ba] at h;obtain⟨⟨v',st'⟩,h1,rfl⟩:=h;obtain⟨s',e1,_⟩:=TC hs h1 hv;exact⟨s',e1⟩
   |cons r2 rs=>exact gen (res:=r::r2::rs) hs hv h
theorem JT {res:List ARes}:∀ {t:DT} {g:PX} {v:DV},t.val res=(g,some v)→v≠.any→g.den →
 t.ok.den∧∃ e st v0,t.lf=some (e,st)∧(∀ i,e≠.exit i)∧D6 st res=some v0∧v0.ok=true∧v.enc=v0.enc
 | .leaf e st,g,v,h,hv,hg=>by
   have gen:(match D6 st res with|some v=>if (v.ok&&!v.hasPtr)=true then (PX.tt,some v) else (PX.ff,none)|none=>(PX.ff,none))=(g,some v)→D6 st res=some v∧v.ok=true:=fun h=>by
    split at h
    · split at h
      · rename_i h1 h2;simp only[Ak,Ah] at h;obtain⟨_,rfl⟩:=h;simp only[Aj] at h2;exact⟨h1,h2.1⟩
      · simp at h
    · simp at h
   cases e with
   |exit i=>simp[DT.val] at h
   |normal=>obtain⟨h1,h2⟩:=gen h;exact⟨trivial,.normal,st,v,rfl,by simp,h1,h2,rfl⟩
   |ret=>obtain⟨h1,h2⟩:=gen h;exact⟨trivial,.ret,st,v,rfl,by simp,h1,h2,rfl⟩
 | .node c a b,g,v,h,hv,hg=>by
   simp only[DT.val] at h
   have hno:∀ {t:DT} {g:PX},t.val res=(g,none)→¬ g.den:=by
    intro t
    induction t with
    | leaf e st=>
      intro g h;cases e<;>simp only[DT.val] at h<;>(repeat' split at h)<;>simp only[Ak,reduceCtorEq,and_false,and_true] at h<;>subst h<;>exact id
    | node c x y ih1 ih2=>
      intro g h hg;simp only[DT.val] at h
      cases h1:x.val res with
      | mk g1 v1=>
        cases h2:y.val res with
        | mk g2 v2=>
          rw[h1,h2] at h
          cases v1 with
          | none=>
            simp only[Ak] at h;obtain⟨rfl,rfl⟩:=h;have:=(PX.if_den _ _ _).mp hg
            cases c with
            |true=>exact ih1 h1 (this.1 rfl)
            |false=>exact ih2 h2 (this.2 rfl)
          |some v1=>cases v2<;>simp at h
    | chk g0 t ih=>
      intro g h hg;simp only[DT.val] at h
      cases h1:t.val res with
      | mk g1 v1=>
        rw[h1] at h;simp only[Ak] at h;obtain⟨rfl,rfl⟩:=h;exact ih h1 ((PX.land_den _ _).mp hg).2
    | bad=>
      intro g h;simp only[DT.val,Ak,and_true] at h;subst h;exact id
   cases h1:a.val res with
   | mk g1 v1=>
     cases h2:b.val res with
     | mk g2 v2=>
       rw[h1,h2] at h
       have fin:∀ (v1 v2:DV),g=PX.if' c g1 g2→a.val res=(g1,some v1)→b.val res=(g2,some v2)→v=BV c v1 v2→(DT.node c a b).ok.den∧∃ e st v0,(DT.node c a b).lf=some (e,st)∧(∀ i,e≠.exit i)∧D6 st res=some v0∧v0.ok=true∧v.enc=v0.enc:=by
        intro v1 v2 hgg h1 h2 hvv;subst hgg;have hg:=(PX.if_den _ _ _).mp hg;have he:=(Oe c v1 v2).resolve_left (by rw[← hvv];exact hv);rw[← hvv] at he
        have n1:v1≠.any:=by rintro rfl;apply hv;rw[hvv];cases v2<;>rfl
        have n2:v2≠.any:=by rintro rfl;apply hv;rw[hvv];cases v1<;>rfl
        show (PX.if' c a.ok b.ok).den∧∃ e st v0,(DT.node c a b).lf=some (e,st)∧(∀ i,e≠.exit i)∧D6 st res=some v0∧v0.ok=true∧v.enc=v0.enc;rw[PX.if_den]
        cases c with
        | true=>
          obtain⟨k1,e,st,v0,k2,k3,k4,k5,k6⟩:=JT h1 n1 (hg.1 rfl);exact⟨⟨fun _=>k1,fun h=>by cases h⟩,e,st,v0,k2,k3,k4,k5,by rw[he];exact k6⟩
        | false=>
          obtain⟨k1,e,st,v0,k2,k3,k4,k5,k6⟩:=JT h2 n2 (hg.2 rfl);exact⟨⟨fun h=>(by cases h),fun _=>k1⟩,e,st,v0,k2,k3,k4,k5,by rw[he];exact k6⟩
       cases v1 with
       | none=>
         simp only[Ak] at h;obtain⟨rfl,rfl⟩:=h;have hg:=(PX.if_den _ _ _).mp hg;show (PX.if' c a.ok b.ok).den∧_;rw[PX.if_den]
         cases c with
         |true=>exact absurd (hg.1 rfl) (hno h1)
         | false=>
           obtain⟨k1,e,st,v0,k2,k3,k4,k5,k6⟩:=JT h2 hv (hg.2 rfl);exact⟨⟨fun h=>(by cases h),fun _=>k1⟩,e,st,v0,k2,k3,k4,k5,k6⟩
       | some v1=>
         cases v2 with
         | none=>
           simp only[Ak,Ah] at h;obtain⟨rfl,rfl⟩:=h;have hg:=(PX.if_den _ _ _).mp hg;show (PX.if' c a.ok b.ok).den∧_;rw[PX.if_den]
           cases c with
           |false=>exact absurd (hg.2 rfl) (hno h2)
           | true=>
             obtain⟨k1,e,st,v0,k2,k3,k4,k5,k6⟩:=JT h1 hv (hg.1 rfl);exact⟨⟨fun _=>k1,fun h=>by cases h⟩,e,st,v0,k2,k3,k4,k5,k6⟩
         | some v2=>
           simp only[Ak,Ah] at h;exact fin v1 v2 h.1.symm h1 h2 h.2.symm
 | .chk g0 t,g,v,h,hv,hg=>by
   simp only[DT.val] at h
   cases h1:t.val res with
   | mk g1 v1=>
     rw[h1] at h;simp only[Ak] at h;obtain⟨rfl,rfl⟩:=h;have hg:=(PX.land_den _ _).mp hg;obtain⟨k1,k2⟩:=JT h1 hv hg.2;exact⟨(PX.land_den _ _).mpr ⟨hg.1,k1⟩,k2⟩
 |.bad,g,v,h,hv,hg=>by simp[DT.val] at h
theorem EL.append:∀ {a:List DC} {b:List PV} {c:List DC} {d:List PV},EL a b→EL c d→EL (a++c) (b++d)
 |[],[],_,_,_,h=>h
 |_::_,_::_,_,_,h,h'=>⟨h.1,EL.append h.2 h'⟩
theorem P0:∀ (n:Nat),EL (Is n) (FG n)
 |0=>trivial
 |n+1=>⟨.inl rfl,P0 n⟩
theorem Qe:∀ (n:Nat),EB (Im n) (Hx n)
 |0=>trivial
 |n+1=>⟨.inl rfl,Qe n⟩
theorem Zx {f:DFun} (ho:AllD f.body.obs) {args:List DV} {g:PX} {v:DV} (h:L6 f args=(g,some v)) (hg:g.den) (hv:v≠.any) (hl:args.length=f.nparams) (hp:f.pure=true→v.flt=true)
 {Q:PV→List (List PV)→Prop} (hQ:∀ H,Q v.enc H):Ic f.er (DV.encL args) [] Q:=by
 unfold L6 at h
 obtain⟨hok,e,st,v0,h1,h2,h3,h4,h5⟩:=JT h hv hg
 refine⟨by rw[Dy];exact hl,fun _=>rfl,?_⟩
 refine E3 f.body ho (d:=⟨news args++Is (f.nslots-f.nparams),Im f.nbox,[]⟩) ⟨(EL.news args).append (P0 _),Qe _,trivial⟩ hok h1 fun s' hs'=>?_
 obtain⟨s2,e2⟩:=Up hs' h3 h4
 rw[← h5] at e2
 have fin:(match IF s' f.res with|some (v,st)=>if f.pure=true then v.flt=true∧Q v [] else Q v st.hp|none=>False):=by
  rw[e2];simp only;split
  · rename_i hpu;exact⟨Qy v (hp hpu),hQ _⟩
  · exact hQ _
 cases e with
 |normal=>exact fin
 |ret=>exact fin
 |exit i=>exact absurd rfl (h2 i)
def TuX:List HT→Type
 |[]=>Unit
 |[a]=>a.D
 |a::r=>a.D×TuX r
def ED:(l:List HT)→List DV→Option (TuX l)
 |[],[]=>some ()
 |[a],[v]=>a.of v
 | a::b::r,v::vs=>(match a.of v,ED (b::r) vs with
   |some x,some y=>some (x,y)
   |_,_=>none)
 |_,_=>none
def C9:(l:List HT)→TuX l→List DV
 |[],_=>[]
 |[a],x=>[a.dv x]
 |a::b::r,x=>a.dv x.1::C9 (b::r) x.2
inductive QT where
 |one (h:HT)|tup (l:List HT)
def QT.D:QT→Type
 |.one h=>h.D
 |.tup l=>TuX l
def QT.of:(q:QT)→DV→Option q.D
 |.one h,v=>h.of v
 |.tup l,.tup vs=>ED l vs
 |.tup _,_=>none
def QT.dv:(q:QT)→q.D→DV
 |.one h,x=>h.dv x
 |.tup l,x=>.tup (C9 l x)
def QT.ofO(q:QT):Option DV→Option q.D
 |some v=>q.of v
 |none=>none
def U4:(l:List (Ql×CT))→AgX l
 |[]=>()
 |[a]=>a.2.dflt
 |a::b::r=>(a.2.dflt,U4 (b::r))
def HT.dflt:(h:HT)→h.D
 |.one _ t=>t.dflt
 |.agg l=>U4 l
def UU:(l:List HT)→TuX l
 |[]=>()
 |[a]=>a.dflt
 |a::b::r=>(a.dflt,UU (b::r))
def QT.dflt:(q:QT)→q.D
 |.one h=>h.dflt
 |.tup l=>UU l
def HT.flt:HT→Bool
 |.one _ t=>t.flat
 |.agg l=>l.all fun a=>a.2.flat
def QT.flt:QT→Bool
 |.one h=>h.flt
 |.tup l=>l.all HT.flt
theorem LU:∀ {l:List HT} {vs:List DV} {x:TuX l},ED l vs=some x→DV.encL (C9 l x)=DV.encL vs
 |[],[],_,_=>rfl
 | [a],[v],x,h=>by
   show [(a.dv x).enc]=[v.enc]
   rw[(LM (t:=a) h).1]
 | a :: b::r,v::vs,x,h=>by
   have h':(match a.of v,ED (b::r) vs with|some x,some y=>some (x,y)|_,_=>none)=some x:=h
   clear h
   cases h1:a.of v with
   |none=>rw[h1] at h';cases h'
   | some p=>
     cases h2:ED (b::r) vs with
     |none=>rw[h1,h2] at h';cases h'
     | some q=>
       rw[h1,h2] at h'
       have h':=BO h'
       subst h'
       show (a.dv p).enc::DV.encL (C9 (b::r) q)=v.enc::DV.encL vs
       rw[(LM h1).1,LU h2]
theorem Vy{q:QT}{v:DV}{x:q.D}(h:q.of v=some x):(q.dv x).enc=v.enc∧v≠.any:=by
 cases q with
 |one t=>exact LM (t:=t) h
 | tup l=>
   cases v<;>try (cases h;done)
   rename_i cs;refine⟨?_,by simp⟩;show PV.tup _=PV.tup _;rw[LU (l:=l) h]
theorem Nn:∀ (l:List HT) (x:TuX l),(C9 l x).length=l.length
 |[],_=>rfl
 |[_],_=>rfl
 | a::b::r,x=>by
   show (C9 (b::r) x.2).length+1=(b::r).length+1
   rw[Nn (b::r) x.2]
theorem Rh{q:Ql}{t:CT}{v:DV}{x:t.D}(hf:t.flat=true)(h:t.ofQ q v=some x):v.flt=true:=by
 cases t<;>first|(cases hf;done)|skip
 all_goals (cases v<;>first|rfl|(cases h;done))
theorem U7:∀ {l:List (Ql×CT)} {vs:List DV} {x:AgX l},l.all (fun a=>a.2.flat)=true→HD l vs=some x→DV.fltL vs=true
 |[],[],_,_,_=>rfl
 | [a],[v],x,hf,h=>by
   simp only[DD,List.all_nil,JX] at hf
   simp only[DV.fltL,Rh (q:=a.1) hf h,BJ]
 | a :: b::r,v::vs,x,hf,h=>by
   have h':(match a.2.ofQ a.1 v,HD (b::r) vs with|some x,some y=>some (x,y)|_,_=>none)=some x:=h
   clear h
   rw[DD,Aj] at hf
   cases h1:a.2.ofQ a.1 v with
   |none=>rw[h1] at h';cases h'
   | some p=>
     cases h2:HD (b::r) vs with
     |none=>rw[h1,h2] at h';cases h'
     |some q=>simp only[DV.fltL,Rh hf.1 h1,U7 hf.2 h2,BJ]
theorem Q5{t:HT}{v:DV}{x:t.D}(hf:t.flt=true)(h:t.of v=some x):v.flt=true:=by
 cases t with
 |one q t=>exact Rh (q:=q) (t:=t) hf h
 | agg l=>
   cases v<;>try (cases h;done)
   exact U7 (l:=l) hf h
theorem Vt:∀ {l:List HT} {vs:List DV} {x:TuX l},l.all HT.flt=true→ED l vs=some x→DV.fltL vs=true
 |[],[],_,_,_=>rfl
 | [a],[v],x,hf,h=>by
   simp only[DD,List.all_nil,JX] at hf
   simp only[DV.fltL,Q5 (t:=a) hf h,BJ]
 | a :: b::r,v::vs,x,hf,h=>by
   have h':(match a.of v,ED (b::r) vs with|some x,some y=>some (x,y)|_,_=>none)=some x:=h
   clear h
   rw[DD,Aj] at hf
   cases h1:a.of v with
   |none=>rw[h1] at h';cases h'
   | some p=>
     cases h2:ED (b::r) vs with
     |none=>rw[h1,h2] at h';cases h'
     |some q=>simp only[DV.fltL,Q5 hf.1 h1,Vt hf.2 h2,BJ]
theorem Vl{q:QT}{v:DV}{x:q.D}(hf:q.flt=true)(h:q.of v=some x):v.flt=true:=by
 cases q with
 |one t=>exact Q5 (t:=t) hf h
 | tup l=>
   cases v<;>try (cases h;done)
   exact Vt (l:=l) hf h
def Gz(hs:List HT)(q:QT)(ok:TuX hs→Prop)(v:TuX hs→q.D):E8:=fun args=>match ED hs args with
 |some x=>some (.p (ok x),q.dv (v x))
 |none=>none
def DT.valQ(q:QT)(res:List ARes):DT→PX×Option q.D
 |.leaf (.exit _) _=>(.ff,none)
 | .leaf _ st=>(match D6 st res with
   | some v=>if v.ok&&!v.hasPtr then (match q.of v with
     |some y=>(.tt,some y)
     |none=>(.ff,none)) else (.ff,none)
   |none=>(.ff,none))
 | .node c a b=>(match a.valQ q res,b.valQ q res with
   |(g,none),(g',y)=>(PX.if' c g g',y)
   |(g,x),(g',none)=>(PX.if' c g g',x)
   |(g,some x),(g',some y)=>(PX.if' c g g',some (bSel c x y)))
 | .chk g t=>(match t.valQ q res with
   |(g',v)=>(g.land g',v))
 |.bad=>(.ff,none)
theorem KL{q:QT}{res:List ARes}:∀ {t:DT} {g:PX},t.valQ q res=(g,none)→¬ g.den
 | .leaf e st,g,h=>by
   cases e<;>simp only[DT.valQ] at h<;>(repeat' split at h)<;>simp only[Ak,reduceCtorEq,and_false,and_true] at h<;>subst h<;>exact id
 | .node c x y,g,h=>by
   intro hg
   simp only[DT.valQ] at h
   cases h1:x.valQ q res with
   | mk g1 v1=>
     cases h2:y.valQ q res with
     | mk g2 v2=>
       rw[h1,h2] at h
       cases v1 with
       | none=>
         simp only[Ak] at h
         obtain⟨rfl,rfl⟩:=h
         have:=(PX.if_den _ _ _).mp hg
         cases c with
         |true=>exact KL h1 (this.1 rfl)
         |false=>exact KL h2 (this.2 rfl)
       |some v1=>cases v2<;>simp at h
 | .chk g0 t,g,h=>by
   intro hg
   simp only[DT.valQ] at h
   cases h1:t.valQ q res with
   | mk g1 v1=>
     rw[h1] at h
     simp only[Ak] at h
     obtain⟨rfl,rfl⟩:=h
     exact KL h1 ((PX.land_den _ _).mp hg).2
 | .bad,g,h=>by
   simp only[DT.valQ,Ak,and_true] at h
   subst h;exact id
theorem N9{q:QT}{res:List ARes}:∀ {t:DT} {g:PX} {y:q.D},t.valQ q res=(g,some y)→g.den →
 t.ok.den∧∃ e st v0,t.lf=some (e,st)∧(∀ i,e≠.exit i)∧D6 st res=some v0∧v0.ok=true∧q.of v0=some y
 | .leaf e st,g,y,h,hg=>by
   have gen:(match D6 st res with|some v=>if (v.ok&&!v.hasPtr)=true then (match q.of v with|some y=>(PX.tt,some y)|none=>(PX.ff,none)) else (PX.ff,none)|none=>(PX.ff,none))=(g,some y)→∃ v,D6 st res=some v∧v.ok=true∧q.of v=some y:=fun h=>by
    split at h
    · rename_i v hv;split at h
      · rename_i hc;simp only[Aj] at hc;split at h
        · rename_i y' hy;simp only[Ak,Ah] at h;obtain⟨_,rfl⟩:=h;exact⟨v,hv,hc.1,hy⟩
        · simp at h
      · simp at h
    · simp at h
   cases e with
   |exit i=>simp[DT.valQ] at h
   |normal=>obtain⟨v,h1,h2,h3⟩:=gen h;exact⟨trivial,.normal,st,v,rfl,by simp,h1,h2,h3⟩
   |ret=>obtain⟨v,h1,h2,h3⟩:=gen h;exact⟨trivial,.ret,st,v,rfl,by simp,h1,h2,h3⟩
 | .node c a b,g,y,h,hg=>by
   simp only[DT.valQ] at h;show (PX.if' c a.ok b.ok).den∧∃ e st v0,(DT.node c a b).lf=some (e,st)∧(∀ i,e≠.exit i)∧D6 st res=some v0∧v0.ok=true∧q.of v0=some y;rw[PX.if_den]
   cases h1:a.valQ q res with
   | mk g1 v1=>
     cases h2:b.valQ q res with
     | mk g2 v2=>
       rw[h1,h2] at h
       have hgg:g=PX.if' c g1 g2:=by
        cases v1<;>cases v2<;>simp only[Ak] at h<;>exact h.1.symm
       subst hgg;have hg:=(PX.if_den _ _ _).mp hg
       cases c with
       | true=>
         have:v1=some y:=by
          cases v1 with
          |none=>exact absurd (hg.1 rfl) (KL h1)
          |some v1=>cases v2<;>simp only[Ak,Gx] at h<;>exact h.2
         subst this;obtain⟨k1,k2⟩:=N9 h1 (hg.1 rfl);exact⟨⟨fun _=>k1,fun h=>by cases h⟩,k2⟩
       | false=>
         have:v2=some y:=by
          cases v2 with
          |none=>exact absurd (hg.2 rfl) (KL h2)
          |some v2=>cases v1<;>simp only[Ak,GB] at h<;>exact h.2
         subst this;obtain⟨k1,k2⟩:=N9 h2 (hg.2 rfl);exact⟨⟨fun h=>(by cases h),fun _=>k1⟩,k2⟩
 | .chk g0 t,g,y,h,hg=>by
   simp only[DT.valQ] at h
   cases h1:t.valQ q res with
   | mk g1 v1=>
     rw[h1] at h;simp only[Ak] at h;obtain⟨rfl,rfl⟩:=h;have hg:=(PX.land_den _ _).mp hg;obtain⟨k1,k2⟩:=N9 h1 hg.2;exact⟨(PX.land_den _ _).mpr ⟨hg.1,k1⟩,k2⟩
 |.bad,g,y,h,hg=>by simp[DT.valQ] at h
def QT.isB:QT→Bool
 |.one (.one _ .bool)=>true
 |_=>false
def L9(f:DFun)(hs:List HT)(q:QT)(x:TuX hs):PX×Option q.D:=
 if q.isB then ((L6 f (C9 hs x)).1,q.ofO (L6 f (C9 hs x)).2)
 else (dev f.body ⟨news (C9 hs x)++Is (f.nslots-f.nparams),Im f.nbox,[]⟩).valQ q f.res
def Fc(f:DFun)(hs:List HT)(q:QT)(x:TuX hs):q.D:=(L9 f hs q x).2.getD q.dflt
def Fa(f:DFun)(hs:List HT)(q:QT)(x:TuX hs):Prop:=(L9 f hs q x).1.den
def JZ(f:DFun)(hs:List HT)(q:QT)(x:TuX hs):Bool:=(L9 f hs q x).2.isSome
def J2(f:DFun)(hs:List HT)(q:QT):Bool:=hs.length == f.nparams&&(!f.pure||q.flt)
theorem TE {f:DFun} {hs:List HT} {q:QT} (ho:AllD f.body.obs) (hst:J2 f hs q=true) (x:TuX hs) (hc:JZ f hs q x=true) (hok:Fa f hs q x)
 {Q:PV→List (List PV)→Prop} (hQ:∀ H,Q (q.dv (Fc f hs q x)).enc H):Ic f.er (DV.encL (C9 hs x)) [] Q:=by
 simp only[J2,Aj,AH,BR,C0] at hst
 unfold JZ at hc
 unfold Fc at hQ
 unfold Fa at hok
 unfold L9 at hc hQ hok
 by_cases hb:q.isB=true
 · rw[Ab hb] at hc hQ hok
   cases hd:L6 f (C9 hs x) with
   | mk g o=>
     rw[hd] at hc hQ hok
     cases o with
     |none=>cases hc
     | some w=>
       obtain⟨y,hy⟩:=Option.isSome_iff_exists.mp hc;rw[hy] at hQ;have hy:q.of w=some y:=hy;obtain⟨h1,h2⟩:=Vy hy
       refine Zx ho hd hok h2 (by rw[Nn];exact hst.1) (fun hp=>Vl (by simpa [hp] using hst.2) hy) fun H=>?_
       have:=hQ H;rw[Ij,h1] at this;exact this
 · rw[Ad hb] at hc hQ hok
   cases hd:(dev f.body ⟨news (C9 hs x)++Is (f.nslots-f.nparams),Im f.nbox,[]⟩).valQ q f.res with
   | mk g o=>
     rw[hd] at hc hQ hok
     cases o with
     |none=>cases hc
     | some y=>
       simp only[Ij] at hQ;obtain⟨k1,e,st,v0,k2,k3,k4,k5,k6⟩:=N9 hd hok;obtain⟨h1,h2⟩:=Vy k6;refine⟨by rw[Dy,Nn];exact hst.1,fun _=>rfl,?_⟩
       refine E3 f.body ho (d:=⟨news (C9 hs x)++Is (f.nslots-f.nparams),Im f.nbox,[]⟩) ⟨(EL.news _).append (P0 _),Qe _,trivial⟩ k1 k2 fun s' hs'=>?_
       obtain⟨s2,e2⟩:=Up hs' k4 k5;rw[← h1] at e2
       have fin:(match IF s' f.res with|some (v,st)=>if f.pure=true then v.flt=true∧Q v [] else Q v st.hp|none=>False):=by
        rw[e2];simp only;split
        · rename_i hpu;exact⟨by rw[h1];exact Qy _ (Vl (by simpa [hpu] using hst.2) k6),hQ _⟩
        · exact hQ _
       cases e with
       |normal=>exact fin
       |ret=>exact fin
       |exit i=>exact absurd rfl (k3 i)
theorem Tw{f:DFun}{hs:List HT}{q:QT}(ho:AllD f.body.obs)(hst:J2 f hs q=true)(hc:∀ x,JZ f hs q x=true){ok:TuX hs→Prop}{v:TuX hs→q.D}(hok:∀ x,ok x→Fa f hs q x)(hv:∀ x,Fc f hs q x=v x) :
 Iy (Ic f.er) (Gz hs q ok v):=by
 intro args g w Q h hg hQ
 unfold Gz at h
 cases hx:ED hs args with
 |none=>rw[hx] at h;cases h
 | some x=>
   rw[hx] at h;simp only[Ah,Ak] at h;obtain⟨rfl,rfl⟩:=h;rw[← LU hx]
   exact TE ho hst x (hc x) (hok x hg) fun H=>by rw[hv];exact hQ H
attribute [irreducible] L9 Fc Fa JZ J2
def AJ:List DV→List DC
 |[]=>[]
 |v::r=>⟨false,v⟩::AJ r
open Go.RowKit Go.WideShapes Go.ChangeShapes
inductive Ty where
 |int (k:IntKind)
 |bool
 |str
 |sl (t:Ty)
 |unit
 |pair (a b:Ty)
def Ty.w:Ty→Nat
 |.int _|.bool|.str|.sl _=>1
 |.unit=>0
 |.pair a b=>a.w+b.w
def LZ(P:Program)(f:TypeId→Option Ty):List Field→Nat→Option Ty
 |[],_=>some .unit
 | g::r,off=>
   match f g.type with
   |some a=>if g.offset=off∧a.w=P.cellsOf g.type then (match LZ P f r (off+a.w) with|some b=>some (.pair a b)|none=>none) else none
   |none=>none
def FQ(P:Program):Nat→TypeId→Option Ty
 |0,_=>none
 | d+1,t=>
   match P.underlying t with
   |some (.int k)=>some (.int k)
   |some .bool=>some .bool
   |some .string=>some .str
   |some (.slice e)=>(match FQ P d e with|some te=>if te.w=P.cellsOf e∧0<te.w then some (.sl te) else none|none=>none)
   |some (.struct fs)=>(match LZ P (FQ P d) fs.toList 0 with|some ty=>if ty.w=P.cellsOf t then some ty else none|none=>none)
   |_=>none
def Sh(σ:Ac):Ty→List V→Prop
 |.int k,cs=>∃ n,cs=[.int k n]∧(Lit.int k n).wf=true
 |.bool,cs=>∃ b,cs=[.bool b]
 |.str,cs=>∃ s,cs=[.str s]∧s.length≤maxLen
 |.sl t,cs=>cs=[.nils]∨∃ (l n:Nat) (bs:List V),cs=[.slice l 0 n]∧σ[l]?=some ⟨.ro,t.w,bs⟩∧bs.length=n*t.w∧n≤maxLen∧∀ i,i<n→Sh σ t ((bs.drop (i*t.w)).take t.w)
 |.unit,cs=>cs=[]
 |.pair a b,cs=>∃ xs ys,cs=xs++ys∧Sh σ a xs∧Sh σ b ys
theorem Sh.len{σ:Ac}:∀ {ty:Ty} {cs:List V},Sh σ ty cs→cs.length=ty.w
 |.int _,_,⟨_,h,_⟩=>by rw[h];rfl
 |.bool,_,⟨_,h⟩=>by rw[h];rfl
 |.str,_,⟨_,h,_⟩=>by rw[h];rfl
 |.sl _,_,h=>by rcases h with h|⟨_,_,_,h,_⟩<;>rw[h]<;>rfl
 |.unit,_,h=>by rw[h];rfl
 |.pair a b,_,⟨xs,ys,h,h1,h2⟩=>by rw[h,BP,h1.len,h2.len];rfl
theorem Sh.mono{σ e:Ac}:∀ {ty:Ty} {cs:List V},Sh σ ty cs→Sh (σ++e) ty cs
 |.int _,_,h=>h
 |.bool,_,h=>h
 |.str,_,h=>h
 | .sl _,_,h=>by
   rcases h with h|⟨l,n,bs,h,h1,h2,h3,h4⟩
   · exact .inl h
   · exact .inr ⟨l,n,bs,h,by rw[A5 (Bl h1)];exact h1,h2,h3,fun i hi=>(h4 i hi).mono⟩
 |.unit,_,h=>h
 |.pair _ _,_,⟨xs,ys,h,h1,h2⟩=>⟨xs,ys,h,h1.mono,h2.mono⟩
def CE(σ:Ac):Prop:=∀ (l:Nat) (b:Blk),σ[l]?=some b→b.k= .ro
def LN(ι:Am)(σ:Ac)(W:World)(ty:Ty)(cs:List Value):Prop:=
 ∃ ι' e vs,HRel ι' (σ++e) W∧Keeps ι σ ι' (σ++e)∧CE (σ++e)∧Sh (σ++e) ty vs∧vs.length=cs.length∧∀ (i:Nat) v x,vs[i]?=some v→cs[i]?=some x→v.cell=true∧∀ β,Rel ι' (σ++e) β v x
theorem HRel.lay{ι:Am}{σ:Ac}{W:World}(h:HRel ι σ W)(hro:CE σ){b off c:Nat}{wd:Nat}{bs:List V}(hb:b<W.heap.size)(hc:∀ (i:Nat) v,bs[i]?=some v→v.cell=true∧∃ x,W.cell? ⟨b,off+i,none⟩=some x∧∀ β,Rel ι σ β v x) :
 HRel (upd ι σ.length ⟨b,off,c⟩) (σ++[⟨.ro,wd,bs⟩]) W∧CE (σ++[⟨.ro,wd,bs⟩]):=by
 have K:=KE ι σ ⟨b,off,c⟩ ⟨.ro,wd,bs⟩
 have hall:CE (σ++[⟨.ro,wd,bs⟩]):=by
  intro l blk hl;rcases DA hl with⟨_,hl⟩|⟨_,rfl⟩
  · exact hro l blk hl
  · rfl
 refine⟨⟨fun l blk hl hk i v hv=>?_,fun l blk hl hk=>?_,fun l l' blk blk' hne hl hl' hk hk'=>?_,fun l blk hl hk=>?_⟩,hall⟩
 · rcases DA hl with⟨hlt,hl⟩|⟨rfl,rfl⟩
   · rw[BZ _ _ _ _ (by omega)];obtain⟨a,x,b',c⟩:=h.cells l blk hl hk i v hv;exact⟨a,x,b',fun β=>(c β).cellMono K a⟩
   · rw[Bj];obtain⟨a,x,b',c⟩:=hc i v hv;exact⟨a,x,b',fun β=>(c β).cellMono K a⟩
 · have:=hall l blk hl;rw[hk] at this;cases this
 · have:=hall l blk hl;rw[hk] at this;cases this
 · rcases DA hl with⟨hlt,hl⟩|⟨rfl,rfl⟩
   · rw[BZ _ _ _ _ (by omega)];exact h.there l blk hl hk
   · rw[Bj];exact hb
theorem Yc{w:World}{a:Addr}{v:Value}(h:w.cell? a=some v):a.block<w.heap.size:=by
 unfold World.cell? at h;rcases A8 a.block w.heap.size with h1|h1
 · exact h1
 · rw[Array.getElem?_eq_none h1] at h;cases h
theorem NY{α:Type}{l:List α}{i:Nat}{v:α}(h:l[i]?=some v):i<l.length:=by
 rcases A8 i l.length with h1|h1
 · exact h1
 · rw[AX h1] at h;cases h
section
variable {H:Type} {enc:TypeId×Value→H} {P:Program} {W:World}
theorem Si(d:Nat)(ih:∀ (t:TypeId)(ty:Ty),FQ P d t=some ty→∀ (fuel:Nat)(cs:List Value) x,DataW.trod enc P W 0 (fun _=>true) true fuel t cs=some x→∀ (ι:Am)(σ:Ac),HRel ι σ W→CE σ→LN ι σ W ty cs) :
 ∀ (fs:List Field) (off:Nat) (ty:Ty),LZ P (FQ P d) fs off=some ty→∀ (fuel:Nat) (cs:List Value),(∀ g∈fs,∃ x,DataW.trod enc P W 0 (fun _=>true) true fuel g.type ((cs.drop g.offset).take (P.cellsOf g.type))=some x) →
   off+ty.w=cs.length→∀ (ι:Am) (σ:Ac),HRel ι σ W→CE σ→LN ι σ W ty (cs.drop off)
 | [],off,ty,h,fuel,cs,_,hl,ι,σ,H,hro=>by
   simp only[LZ,Ah] at h;subst h;simp only[Ty.w,Dl] at hl
   have:cs.drop off=[]:=by rw[hl];simp
   rw[this];exact⟨ι,[],[],by simpa using H,by simpa using Keeps.refl ι σ,by simpa using hro,rfl,rfl,by simp⟩
 | g :: r, off,ty,h,fuel,cs,hg,hl,ι,σ,H,hro=>by
   simp only[LZ] at h;split at h
   · rename_i a ha;split at h
     · rename_i hc;obtain⟨h1,h2⟩:=hc;split at h
       · rename_i b hb;cases h;simp only[Ty.w] at hl;obtain⟨x,hx⟩:=hg g (by simp);rw[h1] at hx;obtain⟨ι1,e1,vs1,H1,K1,R1,S1,L1,C1⟩:=ih g.type a ha fuel _ x hx ι σ H hro;obtain⟨ι2,e2,vs2,H2,K2,R2,S2,L2,C2⟩:=Si d ih r (off+a.w) b hb fuel cs (fun g' hg'=>hg g' (by simp[hg'])) (by omega) ι1 (σ++e1) H1 R1;refine⟨ι2,e1++e2,vs1++vs2,by rw[← Bh];exact H2,by rw[← Bh];exact K1.trans K2,by rw[← Bh];exact R2,⟨vs1,vs2,rfl,by rw[← Bh];exact S1.mono,by rw[← Bh];exact S2⟩,?_,fun i v y hv hy=>?_⟩
         · rw[BP,L1,L2];simp;omega
         · have hl1:vs1.length=a.w:=S1.len;by_cases hi:i<vs1.length
           · rw[A5 hi] at hv
             have hy':((cs.drop off).take (P.cellsOf g.type))[i]?=some y:=by
              rw[EZ,Ab (by omega)];exact hy
             obtain⟨q1,q2⟩:=C1 i v y hv hy';exact⟨q1,fun β=>by rw[← Bh];exact(q2 β).cellMono K2 q1⟩
           · rw[Cd (by omega)] at hv
             have hy':(cs.drop (off+a.w))[i-vs1.length]?=some y:=by
              rw[Ip] at hy ⊢
              have:off+a.w+(i-vs1.length)=off+i:=by omega
              rw[this];exact hy
             obtain⟨q1,q2⟩:=C2 _ v y hv hy';exact⟨q1,fun β=>by rw[← Bh];exact q2 β⟩
       · cases h
     · cases h
   · cases h
theorem Uv{b o:Nat}(n:Nat):Addr.add ⟨b,o,none⟩ n=⟨b,o+n,none⟩:=by
 unfold Addr.add;split
 · rename_i h;subst h;rfl
 · rfl
theorem Su {d:Nat} (ih:∀ (t:TypeId) (ty:Ty),FQ P d t=some ty→∀ (fuel:Nat) (cs:List Value) x,DataW.trod enc P W 0 (fun _=>true) true fuel t cs=some x→∀ (ι:Am) (σ:Ac),HRel ι σ W→CE σ→LN ι σ W ty cs)
 {e:TypeId} {te:Ty} (hte:FQ P d e=some te) (hw:te.w=P.cellsOf e) {fuel b o:Nat} :
 ∀ (n:Nat),(∀ i,i<n→∃ cs x,W.cells? 0 ⟨b,o+i*te.w,none⟩ te.w=some cs∧DataW.trod enc P W 0 (fun _=>true) true fuel e cs=some x)→∀ (ι:Am) (σ:Ac),HRel ι σ W→CE σ →
   ∃ (ι':Am) (ext:Ac) (bs:List V),HRel ι' (σ++ext) W∧Keeps ι σ ι' (σ++ext)∧CE (σ++ext)∧bs.length=n*te.w∧(∀ i,i<n→Sh (σ++ext) te ((bs.drop (i*te.w)).take te.w)) ∧
     ∀ (j:Nat) v,bs[j]?=some v→v.cell=true∧∃ x,W.cell? ⟨b,o+j,none⟩=some x∧∀ β,Rel ι' (σ++ext) β v x
 |0,_,ι,σ,H0,hro=>⟨ι,[],[],by simpa using H0,by simpa using Keeps.refl ι σ,by simpa using hro,by simp,fun i hi=>absurd hi (Nat.not_lt_zero i),by simp⟩
 | n + 1,hn,ι,σ,H0,hro=>by
   obtain⟨ι1,e1,bs,H1,K1,R1,L1,S1,C1⟩:=Su ih hte hw n (fun i hi=>hn i (Nat.lt_succ_of_lt hi)) ι σ H0 hro;obtain⟨cs,x,hc,hx⟩:=hn n (Nat.lt_succ_self n);obtain⟨ι2,e2,vs,H2,K2,R2,S2,L2,C2⟩:=ih e te hte fuel cs x hx ι1 (σ++e1) H1 R1;obtain⟨_,hcl,hcg⟩:=World.cells?_some hc;refine⟨ι2,e1++e2,bs++vs,by rw[← Bh];exact H2,by rw[← Bh];exact K1.trans K2,by rw[← Bh];exact R2,?_,fun i hi=>?_,fun j v hv=>?_⟩
   · rw[BP,L1,L2,hcl,It]
   · rw[← Bh];by_cases h:i<n
     · have h1:(i+1)*te.w≤n*te.w:=FC _ h;rw[It] at h1
       have:((bs++vs).drop (i*te.w)).take te.w=(bs.drop (i*te.w)).take te.w:=by
        rw[List.drop_append_of_le_length (by omega),List.take_append_of_le_length (by rw[Fw];omega)]
       rw[this];exact(S1 i h).mono
     · have:i=n:=by omega
       subst this
       have:((bs++vs).drop (i*te.w)).take te.w=vs:=by
        rw[← L1,List.drop_left,Og (by omega)]
       rw[this];exact S2
   · by_cases h:j<bs.length
     · rw[A5 h] at hv;obtain⟨q1,y,q2,q3⟩:=C1 j v hv;exact⟨q1,y,q2,fun β=>by rw[← Bh];exact(q3 β).cellMono K2 q1⟩
     · rw[Cd (by omega)] at hv;have hlt:=NY hv
       have hlt':j-bs.length<te.w:=by rw[← hcl,← L2];exact hlt
       have hg:=hcg (j-bs.length) hlt';rw[Uv] at hg
       have e0:o+n*te.w+(j-bs.length)=o+j:=by omega
       rw[e0] at hg;obtain⟨y,hy⟩:∃ y,cs[j-bs.length]?=some y:=⟨_,Au (by omega)⟩;obtain⟨q1,q2⟩:=C2 _ v y hv hy;exact⟨q1,y,hg.trans hy,fun β=>by rw[← Bh];exact q2 β⟩
theorem OX:∀ (d:Nat) (t:TypeId) (ty:Ty),FQ P d t=some ty→∀ (fuel:Nat) (cs:List Value) x,DataW.trod enc P W 0 (fun _=>true) true fuel t cs=some x→∀ (ι:Am) (σ:Ac),HRel ι σ W→CE σ→LN ι σ W ty cs
 |0,_,_,h=>by simp[FQ] at h
 | d + 1, t, ty,h=>by
   intro fuel cs x hx ι σ H0 hro
   have one:∀ (v:V) (y:Value),cs=[y]→v.cell=true→(∀ β,Rel ι σ β v y)→Sh σ ty [v]→LN ι σ W ty cs:=by
    intro v y hc hv hr hs;refine⟨ι,[],[v],by simpa using H0,by simpa using Keeps.refl ι σ,by simpa using hro,by simpa using hs,by rw[hc];rfl,fun i u z hu hz=>?_⟩;rw[hc] at hz
    cases i with
    |zero=>simp at hu hz;subst hu;subst hz;exact⟨hv,by simpa using hr⟩
    |succ i=>simp at hu
   unfold FQ at h;split at h
   · rename_i k hu;cases h;obtain⟨n,hc,_,hwf⟩:=DataW.trod_int hu hx;exact one (.int k n) _ hc rfl (fun β=>.int k n) ⟨n,rfl,hwf⟩
   · rename_i hu;cases h;obtain⟨b,hc,_⟩:=DataW.trod_bool hu hx;exact one (.bool b) _ hc rfl (fun β=>.bool b) ⟨b,rfl⟩
   · rename_i hu;cases h;obtain⟨s,hc,_,hwf⟩:=DataW.trod_string hu hx;exact one (.str s.data.toList) _ hc rfl (fun β=>by have:=Rel.str (ι:=ι) (σ:=σ) (β:=β) s.data.toList;simpa using this) ⟨s.data.toList,rfl,by simpa using hwf⟩
   · rename_i e hu;split at h
     · rename_i te hte;split at h
       · rename_i hw;obtain⟨hw,hpos⟩:=hw;cases h;rcases DataW.trod_slice hu hx with⟨hc,_⟩|⟨a,len,cap,elems,rest,n,_,hc,_,_,hle,hcap,hel,hE,hR,_⟩
         · exact one .nils _ hc rfl (fun β=>.nils none) (.inl rfl)
         · obtain⟨hrl,hR⟩:=hR rfl
           have hcell:∀ i,i<cap→∃ cs' y,W.cells? 0 (a.add (i*P.cellsOf e)) (P.cellsOf e)=some cs'∧DataW.trod enc P W 0 (fun _=>true) true n e cs'=some y:=by
            intro i hi;by_cases h:i<len
            · have h1:=hE i h;obtain⟨y,hy⟩:∃ y,elems[i]?=some y:=⟨_,Au (by omega)⟩;rw[hy,Bi] at h1;obtain⟨cs',h1,h2⟩:=h1;exact⟨cs',y,h1,h2⟩
            · have h1:=hR (i-len) (by omega);obtain⟨y,hy⟩:∃ y,rest[i-len]?=some y:=⟨_,Au (by omega)⟩;rw[hy,Bi] at h1;obtain⟨cs',h1,h2⟩:=h1;rw[show len+(i-len)=i by omega] at h1;exact⟨cs',y,h1,h2⟩
           by_cases hc0:cap=0
           · subst hc0
             have:len=0:=by omega
             subst this;exact one .nils _ hc rfl (fun β=>.nils (some a)) (.inl rfl)
           · have hsp:a.spot=none∧a.block<W.heap.size:=by
              obtain⟨cs',y,h1,_⟩:=hcell 0 (by omega);obtain⟨_,h2,h3⟩:=World.cells?_some h1;have h4:=h3 0 (by omega);obtain⟨z,hz⟩:∃ z,cs'[0]?=some z:=⟨_,Au (by omega)⟩;rw[hz] at h4
              have h5:W.cell? a=some z:=by simpa [Addr.add] using h4
              exact⟨World.cell?_spot h5,Yc h5⟩
             obtain⟨ab,ao,asp⟩:=a;obtain⟨hsp,hlt⟩:=hsp;simp only at hsp hlt;subst hsp
             have hcell':∀ i,i<len→∃ cs' y,W.cells? 0 ⟨ab,ao+i*te.w,none⟩ te.w=some cs'∧DataW.trod enc P W 0 (fun _=>true) true n e cs'=some y:=by
              intro i hi;have:=hcell i (by omega);rw[Uv,← hw] at this;exact this
             obtain⟨ι1,e1,bs,H1,K1,R1,L1,S1,C1⟩:=Su (OX d) hte hw len hcell' ι σ H0 hro;obtain⟨H2,R2⟩:=H1.lay R1 (c:=cap*te.w) (wd:=te.w) hlt C1;have K2:=KE ι1 (σ++e1) ⟨ab,ao,cap*te.w⟩ ⟨.ro,te.w,bs⟩
             have hg:((σ++e1)++[(⟨.ro,te.w,bs⟩:Blk)])[(σ++e1).length]?=some ⟨.ro,te.w,bs⟩:=by simp
             refine⟨_,e1++[⟨.ro,te.w,bs⟩],[.slice (σ++e1).length 0 len],by rw[← Bh];exact H2,by rw[← Bh];exact K1.trans K2,by rw[← Bh];exact R2,.inr ⟨_,len,bs,rfl,by rw[← Bh];exact hg,L1,by omega,fun i hi=>by rw[← Bh];exact(S1 i hi).mono⟩,by rw[hc];rfl,fun i u z hu hz=>?_⟩;rw[hc] at hz
             cases i with
             | zero=>
               simp at hu hz;subst hu;subst hz;refine⟨rfl,fun β=>?_⟩;have:=Rel.slice (ι:=upd ι1 (σ++e1).length ⟨ab,ao,cap*te.w⟩) (σ:=(σ++e1)++[⟨.ro,te.w,bs⟩]) (β:=β) (σ++e1).length 0 len cap ⟨.ro,te.w,bs⟩ hg hle (by rw[Bj];simp) (by first|assumption|(simp only;omega));rw[Bj] at this;simpa using this
             |succ i=>simp at hu
       · cases h
     · cases h
   · rename_i fs hu;split at h
     · rename_i ty' hty;split at h
       · rename_i hw;cases h;obtain⟨xs,n,_,_,hl,hxl,hf⟩:=DataW.trod_struct hu hx
         have:=Si (enc:=enc) d (OX d) fs.toList 0 _ hty n cs (fun g hg=>by
          obtain⟨i,hi⟩:=Fx hg;have h1:=hf i g (by simpa using hi)
          have:i<xs.length:=by rw[hxl];have:=NY hi;simpa using this
          exact⟨_,h1.trans (Au this)⟩) (by omega) ι σ H0 hro
         simpa using this
       · cases h
     · cases h
   · cases h
end
open Go.RowKit Go.WideShapes Go.ChangeShapes
def Rz(P:Program)(d:Nat)(t:TypeId):Option (Ty×Bool):=
 match FQ P d t with
 | some ty=>(match P.underlying t with
   |some (.struct _)=>some (ty,true)
   |some (.int _)|some .bool|some .string|some (.slice _)=>some (ty,false)
   |_=>none)
 |none=>none
def JI(P:Program)(d:Nat):List TypeId→Option (List (Ty×Bool))
 |[]=>some []
 | t::r=>match Rz P d t,JI P d r with
   |some a,some b=>some (a::b)
   |_,_=>none
def ArgOk(σ:Ac):Ty×Bool→V→Prop
 |(ty,true),v=>∃ cs,v= .agg cs∧Sh σ ty cs∧cs.all V.cell=true
 |(ty,false),v=>Sh σ ty [v]∧v.cell=true
def JO(σ:Ac):List (Ty×Bool)→List V→Prop
 |[],[]=>True
 |a::r,v::s=>ArgOk σ a v∧JO σ r s
 |_,_=>False
theorem ArgOk.mono{σ e:Ac}{a:Ty×Bool}{v:V}(h:ArgOk σ a v):ArgOk (σ++e) a v:=by
 obtain⟨ty,b⟩:=a
 cases b with
 |true=>obtain⟨cs,h1,h2,h3⟩:=h;exact⟨cs,h1,h2.mono,h3⟩
 |false=>exact⟨h.1.mono,h.2⟩
theorem ArgOk.noBox{σ:Ac}{a:Ty×Bool}{v:V}(h:ArgOk σ a v):∀ i o,v≠.box i o:=by
 obtain⟨ty,b⟩:=a;intro i o e;subst e
 cases b with
 |true=>obtain⟨cs,h1,_⟩:=h;cases h1
 |false=>have:=h.2;cases this
section
variable {H:Type} {enc:TypeId×Value→H} {P:Program} {W:World} {r:Reach} {base:Nat}
theorem Z5 {d:Nat} {t:TypeId} {a:Ty×Bool} (ha:Rz P d t=some a) {v:Value} {dd:DataW H} {ps:List MemPlace} (h:DataW.Trod enc P W 0 (fun _=>true) true t v dd ps) (hok:Value.okWide P W r base t v)
 (ι:Am) (σ:Ac) (H0:HRel ι σ W) (hro:CE σ) :
 ∃ ι' e u,HRel ι' (σ++e) W∧Keeps ι σ ι' (σ++e)∧CE (σ++e)∧ArgOk (σ++e) a u∧∀ β,Rel ι' (σ++e) β u v:=by
 unfold Rz at ha
 split at ha
 · rename_i ty hty
   obtain⟨fuel,hx⟩:=h;obtain⟨ι',e,vs,h1,h2,h3,h4,h5,h6⟩:=OX d t ty hty fuel _ _ hx ι σ H0 hro
   have one:∀ (hc:v.cells=#[v]),a=(ty,false)→∃ ι' e u,HRel ι' (σ++e) W∧Keeps ι σ ι' (σ++e)∧CE (σ++e)∧ArgOk (σ++e) a u∧∀ β,Rel ι' (σ++e) β u v:=by
    intro hc ea;rw[hc] at h5 h6
    match vs,h5,h4,h6 with
    | [u],_,h4,h6=>
      obtain⟨c1,c2⟩:=h6 0 u v rfl rfl;exact⟨ι',e,u,h1,h2,h3,by rw[ea];exact⟨h4,c1⟩,c2⟩
   split at ha
   · rename_i fs hu;cases ha;obtain⟨cs,rfl,_⟩:=okWide_struct hu hok;replace h5:vs.length=cs.toList.length:=h5;refine⟨ι',e,.agg vs,h1,h2,h3,⟨vs,rfl,h4,?_⟩,fun β=>?_⟩
     · rw[B3];intro u hu';obtain⟨i,hi⟩:=Fx hu'
       have:i<cs.toList.length:=by rw[← h5];exact NY hi
       exact(h6 i u _ hi (Au this)).1
     · have:=Rel.agg (ι:=ι') (σ:=σ++e) (β:=β) vs cs.toList h5 (fun u hu'=>by
        obtain⟨i,hi⟩:=Fx hu'
        have:i<cs.toList.length:=by rw[← h5];exact NY hi
        exact(h6 i u _ hi (Au this)).1) (fun i u w hi hw=>(h6 i u w hi hw).2 β)
       simpa using this
   · rename_i k hu;cases ha;obtain⟨n,rfl⟩:=okWide_int hu hok;exact one rfl rfl
   · rename_i hu;cases ha;obtain⟨n,rfl⟩:=okWide_bool hu hok;exact one rfl rfl
   · rename_i hu;cases ha;obtain⟨n,rfl⟩:=okWide_string hu hok;exact one rfl rfl
   · rename_i el hu;cases ha;obtain⟨x,y,z,rfl⟩:=okWide_slice hu hok;exact one rfl rfl
   · cases ha
 · cases ha
theorem SN{d:Nat}:∀ {ts:List TypeId} {tys:List (Ty×Bool)},JI P d ts=some tys→∀ {vs:List Value} {ds:List (DataW H)} {ps:List MemPlace},DataW.TrodAll enc P W 0 (fun _=>true) true ts vs ds ps →
 (∀ (j:Nat) t v,ts[j]?=some t→vs[j]?=some v→Value.okWide P W r base t v)→∀ (ι:Am) (σ:Ac),HRel ι σ W→CE σ →
 ∃ ι' e us,HRel ι' (σ++e) W∧Keeps ι σ ι' (σ++e)∧CE (σ++e)∧JO (σ++e) tys us∧us.length=vs.length∧∀ (i:Nat) u v,us[i]?=some u→vs[i]?=some v→(∀ j o,u≠.box j o)∧∀ β,Rel ι' (σ++e) β u v
 | [],tys,h,vs,ds,ps,hd,_,ι,σ,H0,hro=>by
   obtain⟨rfl,_,_⟩:=trodAll_nil hd
   cases h
   exact⟨ι,[],[],by simpa using H0,by simpa using Keeps.refl ι σ,by simpa using hro,trivial,rfl,by simp⟩
 | t :: ts,tys,h,vs,ds,ps,hd,hok,ι,σ,H0,hro=>by
   obtain⟨v,vs',x,ds',p,q,rfl,rfl,rfl,h1,h2⟩:=trodAll_cons hd
   unfold JI at h
   split at h
   · rename_i a b ha hb
     cases h
     obtain⟨ι1,e1,u,H1,K1,R1,A1,C1⟩:=Z5 ha h1 (hok 0 t v rfl rfl) ι σ H0 hro
     obtain⟨ι2,e2,us,H2,K2,R2,A2,L2,C2⟩:=SN hb h2 (fun j t' v' hj hv=>hok (j+1) t' v' hj hv) ι1 (σ++e1) H1 R1
     refine⟨ι2,e1++e2,u::us,by rw[← Bh];exact H2,by rw[← Bh];exact K1.trans K2,by rw[← Bh];exact R2,by rw[← Bh];exact⟨A1.mono,A2⟩,by simp[L2],fun i u' v' hu hv=>?_⟩
     rw[← Bh]
     cases i with
     | zero=>
       simp at hu hv;subst hu;subst hv
       exact⟨A1.noBox,fun β=>(C1 β).mono K2 (fun j o e=>absurd e (A1.noBox j o))⟩
     |succ i=>exact C2 i u' v' (by simpa using hu) (by simpa using hv)
   · cases h
end
def QS(P:Program)(ts:List TypeId):Bool:=ts.all fun t=>P.readableRec t&&decide (t<P.types.size)
theorem R4{H:Type}{enc:TypeId×Value→H}{P:Program}(hl:laidOutB P=true){W W':World}{sp':Nat→Bool}:∀ {ts:List TypeId} {vs:List Value} {ds:List (DataW H)} {ps:List MemPlace},QS P ts=true →
 DataW.TrodAll enc P W 0 (fun _=>true) true ts vs ds ps→(∀ p∈ps,W.sameAt W' p)→(∀ p∈ps,sp' p.block=true)→DataW.TrodAll enc P W' 0 sp' true ts vs ds ps
 | [],vs,ds,ps,_,h,_,_=>by
   obtain⟨rfl,rfl,rfl⟩:=trodAll_nil h
   rfl
 | t::ts,vs,ds,ps,hr,h,h1,h2=>by
   obtain⟨v,vs',x,ds',p,q,rfl,rfl,rfl,g1,g2⟩:=trodAll_cons h
   unfold QS at hr
   rw[DD,Aj,Aj,Ca] at hr
   exact⟨p,q,WideElems.Trod_stays hl hr.1.1 hr.1.2 g1 (fun y hy=>h1 y (by simp[hy])) (fun y hy=>h2 y (by simp[hy])),R4 hl hr.2 g2 (fun y hy=>h1 y (by simp[hy])) (fun y hy=>h2 y (by simp[hy])),rfl⟩
theorem Yn {H:Type} {enc:TypeId×Value→H} {P:Program} {f:Func} {s:ChangeSpec} {apart fresh handsOn again:Bool} {W W':World} {args:Array Value} {v:Value} {ds gs:List (DataW H)} {before pa pv:List MemPlace}
 (hW:DataW.Whole enc P f.params.toList s.vars apart W args.toList ds gs before)
 (hres:∀ (b:Nat) (sp:Nat→Bool) (hd:Bool),DataW.TrodAll enc P W' b sp hd f.resultTypes.toList (v.resultList f.resultTypes.size) (s.fn H (ds++gs)).results [])
 (hargs:∀ sp:Nat→Bool,(∀ p∈before,sp p.block=true)→DataW.TrodAll enc P W' 0 sp true f.params.toList args.toList (s.fn H (ds++gs)).args pa)
 (hvars:∀ sp:Nat→Bool,(∀ p∈before,sp p.block=true)→DataW.TrodVars enc P W' sp s.vars (s.fn H (ds++gs)).vars pv)
 (hps:before=pa++pv) (hb:Below W.heap.size W W')
 (hok:∀ (j:Nat) (t:TypeId) (r:Value),f.resultTypes[j]?=some t→(v.resultList f.resultTypes.size)[j]?=some r→Value.okWide P W' .any 0 t r) :
 s.post enc P f apart fresh handsOn again W args v W':=by
 have hlt:∀ p∈before,p.block<W.heap.size:=fun p hp=>hW.lt p hp
 have hold:∀ p∈before,(fun b=>decide (b<W.heap.size)) p.block=true:=fun p hp=>by simpa using hlt p hp
 refine⟨ds,gs,before,[],pa,pv,hW,hres _ _ _,hargs _ hold,hvars _ hold,World.keptBut_mono (fun p hp=>⟨hp,?_⟩) (hb.frame (·∈before)),fun _=>?_⟩
 · rw[hps,CZ] at hp
   exact Or.inr hp
 · obtain⟨_,_,_,_,_,hz,hn⟩:=hW
   refine⟨hok,_,_,([]++pa)++pv,⟨[]++pa,pv,trodAll_append (hargs _ (fun _ _=>rfl)) (hres _ _ _),hvars _ (fun _ _=>rfl),rfl,?_,?_⟩,?_⟩
   · intro b off hp
     have hin:MemPlace.cell b off∈before:=by rw[hps];simpa using hp
     rw[hb.frozen (hlt _ hin)];exact hz b off hin
   · intro ha;have:=hn ha;rw[hps] at this;simpa using this
   · intro p hp _;rw[hps];simpa using hp
theorem YF {H:Type} {enc:TypeId×Value→H} {P:Program} {f:FuncId} {fn:Func} {s:ChangeSpec} {apart fresh handsOn again:Bool} {sem:A7} {tys:List (Ty×Bool)} {d:Nat} {tb:TypeId}
 (hs:AQ P f sem) (has:JI P d fn.params.toList=some tys) (hrows:QS P fn.params.toList=true) (hl:laidOutB P=true)
 (hres:fn.resultTypes=#[tb]) (htb:P.underlying tb=some .bool) (hvars:s.vars=[])
 (hspec:∀ ds:List (DataW H),ds.length=tys.length→s.fn H ds={ results:=[.lit (.bool true)],args:=ds })
 (law:∀ (σ:Ac) (us:List V),CE σ→JO σ tys us→sem us σ fun r _=>r= .bool true)
 {W:World} {base:Nat} {args:Array Value} {ds gs:List (DataW H)} {before:List MemPlace}
 (hval:∀ (j:Nat) t v,fn.params[j]?=some t→args[j]?=some v→Value.okWide P W .any base t v)
 (hW:DataW.Whole enc P fn.params.toList s.vars apart W args.toList ds gs before) :
 Calls P f args W fun e W'=>∃ v,e= .returned v∧s.post enc P fn apart fresh handsOn again W args v W':=by
 have hW':=hW
 obtain⟨p,q,hA,hV,rfl,hfz,hnd⟩:=hW
 rw[hvars] at hV
 obtain⟨rfl,rfl⟩:=trodVars_none hV
 rw[Lp] at hW'
 obtain⟨ι,e,us,H1,_,R1,A1,L1,C1⟩:=SN (d:=d) has hA (fun j t v hj hv=>hval j t v (by simpa using hj) (by simpa using hv)) (fun _=>⟨0,0,0⟩) [] ⟨by simp,by simp,by simp,by simp⟩ (fun l b h=>by simp at h)
 simp only[BQ] at H1 R1 A1 C1
 have hc:=hs Phm.no ι e W us args.toList _ (.no e) (by rw[NG];exact H1) (by rw[NG];exact⟨L1,fun i u v hu hv=>(C1 i u v hu hv).2⟩) (law e us R1 A1)
 have hlen:ds.length=tys.length:=by
  have h1:∀ {ts:List TypeId} {tys:List (Ty×Bool)},JI P d ts=some tys→tys.length=ts.length:=by
   intro ts
   induction ts with
   |nil=>intro tys h;cases h;rfl
   | cons t ts ih=>
     intro tys h;unfold JI at h;split at h
     · rename_i a b _ hb;cases h;simp[ih hb]
     · cases h
  have h2:∀ {ts:List TypeId} {vs:List Value} {ds:List (DataW H)} {ps:List MemPlace},DataW.TrodAll enc P W 0 (fun _=>true) true ts vs ds ps→ds.length=ts.length:=by
   intro ts
   induction ts with
   |nil=>intro vs ds ps h;obtain⟨_,rfl,_⟩:=trodAll_nil h;rfl
   | cons t ts ih=>
     intro vs ds ps h;obtain⟨v,vs',x,ds',p,q,rfl,rfl,rfl,_,g2⟩:=trodAll_cons h;simp[ih g2]
  rw[h1 has,h2 hA]
 refine(Calls.mono (by simpa using hc) fun en W' hd=>?_:Calls P f args W _)
 obtain⟨x,r,σ',ι',rfl,rfl,_,hx,_,hstep⟩:=hd
 rw[NG,NG] at hstep
 have hx':=hx (fun _=>0)
 cases hx'
 have hb:Below W.heap.size W W':=⟨hstep.os,hstep.tape,hstep.output,hstep.size,fun k hk=>hstep.frame k hk fun l blk hl hk'=>by have:=R1 l blk hl;rw[hk'] at this;cases this⟩
 have hfn:=hspec (ds++[]) (by simpa using hlen)
 have hlt:∀ x∈p,x.block<W.heap.size:=fun x hx=>hW'.lt x hx
 refine⟨_,rfl,Yn (pa:=p) (pv:=[]) hW' (fun _ _ _=>?_) (fun sp hsp=>?_) (fun sp _=>?_) (by simp) hb (ok_one hres rfl (okWide_bool_mk htb true))⟩
 · rw[hfn,hres]
   exact trodAll_cons_mk (shut_bool htb true) trodAll_mk0
 · rw[hfn]
   simp only[Lp];exact R4 hl hrows hA (fun x hx=>hb.same (hlt x hx)) hsp
 · rw[hfn,hvars]
   rfl
open Go.ChangeShapes
mutual
def CT.wf:(t:CT)→t.D→Prop
 |.int k,n=>(Lit.int k n).wf=true
 |.bool,_=>True
 |.str,s=>s.length≤maxLen
 |.ifc,_=>True
 |.sl r,l=>@List.length r.D l≤maxLen∧∀ x:r.D,@Membership.mem r.D (List r.D) inferInstance l x→RT.wf r x
def RT.wf:(r:RT)→r.D→Prop
 |.one t,x=>CT.wf t x
 |.cons t r,x=>CT.wf t x.1∧RT.wf r x.2
end
def AgX.wf:(l:List (Ql×CT))→AgX l→Prop
 |[],_=>True
 |[a],x=>a.2.wf x
 |a::b::r,x=>a.2.wf x.1∧AgX.wf (b::r) x.2
def HT.wf:(h:HT)→h.D→Prop
 |.one _ t,x=>t.wf x
 |.agg l,x=>AgX.wf l x
def TuX.wf:(l:List HT)→TuX l→Prop
 |[],_=>True
 |[a],x=>a.wf x
 |a::b::r,x=>a.wf x.1∧TuX.wf (b::r) x.2
def D8:List CT→RT
 |[]=>.one .bool
 |[a]=>.one a
 |a::b::r=>.cons a (D8 (b::r))
def Ty.cts:Ty→List CT
 |.int k=>[.int k]
 |.bool=>[.bool]
 |.str=>[.str]
 |.sl t=>[.sl (D8 t.cts)]
 |.unit=>[]
 |.pair a b=>a.cts++b.cts
def Ty.good:Ty→Bool
 |.sl t=>Nat.blt 0 t.w&&t.good
 |.pair a b=>a.good&&b.good
 |_=>true
def HC:Ty×Bool→HT
 |(ty,true)=>.agg (ty.cts.map fun t=>(.frz,t))
 |(ty,false)=>match ty.cts with|[c]=>.one .frz c|_=>.agg []
def NB:Ty×Bool→Bool
 |(ty,true)=>ty.good
 |(ty,false)=>ty.good&&ty.cts.length == 1
def DL:List CT→Type
 |[]=>Unit
 |a::r=>a.D×DL r
def DL.wf:(l:List CT)→DL l→Prop
 |[],_=>True
 |a::r,x=>a.wf x.1∧DL.wf r x.2
def DL.enc:(l:List CT)→DL l→List PV
 |[],_=>[]
 |a::r,x=>CT.enc a x.1::DL.enc r x.2
def DL.encF:(l:List CT)→DL l→List PV
 |[],_=>[]
 |a::r,x=>(CT.dv .frz a x.1).enc::DL.encF r x.2
def DL.app:(l m:List CT)→DL l→DL m→DL (l++m)
 |[],_,_,y=>y
 |_::l,m,x,y=>(x.1,DL.app l m x.2 y)
theorem DL.app_enc:∀ (l m:List CT) (x:DL l) (y:DL m),DL.enc (l++m) (DL.app l m x y)=DL.enc l x++DL.enc m y
 |[],_,_,_=>rfl
 | a::l,m,x,y=>by
   show CT.enc a x.1::DL.enc (l++m) (DL.app l m x.2 y)=CT.enc a x.1::(DL.enc l x.2++DL.enc m y)
   rw[DL.app_enc l m x.2 y]
theorem DL.app_encF:∀ (l m:List CT) (x:DL l) (y:DL m),DL.encF (l++m) (DL.app l m x y)=DL.encF l x++DL.encF m y
 |[],_,_,_=>rfl
 | a::l,m,x,y=>by
   show (CT.dv .frz a x.1).enc::DL.encF (l++m) (DL.app l m x.2 y)=(CT.dv .frz a x.1).enc::(DL.encF l x.2++DL.encF m y)
   rw[DL.app_encF l m x.2 y]
theorem DL.app_wf:∀ (l m:List CT) (x:DL l) (y:DL m),DL.wf l x→DL.wf m y→DL.wf (l++m) (DL.app l m x y)
 |[],_,_,_,_,h=>h
 |_::l,m,x,y,h,h'=>⟨h.1,DL.app_wf l m x.2 y h.2 h'⟩
theorem DL.len:∀ (l:List CT) (x:DL l),(DL.enc l x).length=l.length
 |[],_=>rfl
 |_::l,x=>by show _+1=_+1;rw[DL.len l x.2]
theorem DL.lenF:∀ (l:List CT) (x:DL l),(DL.encF l x).length=l.length
 |[],_=>rfl
 |_::l,x=>by show _+1=_+1;rw[DL.lenF l x.2]
def DL.rt:(l:List CT)→DL l→(D8 l).D
 |[],_=>false
 |[_],x=>x.1
 |_::b::r,x=>(x.1,DL.rt (b::r) x.2)
theorem DL.rt_enc:∀ (l:List CT) (x:DL l),l≠[]→RT.enc (D8 l) (DL.rt l x)=DL.enc l x
 |[],_,h=>absurd rfl h
 |[_],_,_=>rfl
 | a::b::r,x,_=>by
   show CT.enc a x.1::RT.enc (D8 (b::r)) (DL.rt (b::r) x.2)=CT.enc a x.1::DL.enc (b::r) x.2
   rw[DL.rt_enc (b::r) x.2 (by simp)]
theorem DL.rt_wf:∀ (l:List CT) (x:DL l),l≠[]→DL.wf l x→RT.wf (D8 l) (DL.rt l x)
 |[],_,h,_=>absurd rfl h
 |[_],_,_,h=>h.1
 |a::b::r,x,_,h=>⟨h.1,DL.rt_wf (b::r) x.2 (by simp) h.2⟩
def DL.ag:(l:List CT)→DL l→AgX (l.map fun t=>(Ql.frz,t))
 |[],_=>()
 |[_],x=>x.1
 |_::b::r,x=>(x.1,DL.ag (b::r) x.2)
theorem DL.ag_enc:∀ (l:List CT) (x:DL l),DV.encL (J1 (l.map fun t=>(Ql.frz,t)) (DL.ag l x))=DL.encF l x
 |[],_=>rfl
 |[_],_=>rfl
 | a::b::r,x=>by
   show (CT.dv .frz a x.1).enc::DV.encL (J1 ((b::r).map fun t=>(Ql.frz,t)) (DL.ag (b::r) x.2))=(CT.dv .frz a x.1).enc::DL.encF (b::r) x.2
   rw[DL.ag_enc (b::r) x.2]
theorem DL.ag_wf:∀ (l:List CT) (x:DL l),DL.wf l x→AgX.wf (l.map fun t=>(Ql.frz,t)) (DL.ag l x)
 |[],_,_=>trivial
 |[_],_,h=>h.1
 |a::b::r,x,h=>⟨h.1,DL.ag_wf (b::r) x.2 h.2⟩
theorem Gq:∀ (t:Ty),t.cts.length=t.w
 |.int _|.bool|.str|.sl _|.unit=>rfl
 |.pair a b=>by simp only[Ty.cts,Ty.w,BP,Gq a,Gq b]
def ωro(σ:Ac):Nat→W:=fun l=>if l<σ.length then .frz else .none
theorem ωro_frz{σ:Ac}{l:Nat}{b:Blk}(h:σ[l]?=some b):ωro σ l= .frz:=by
 unfold ωro;rw[Ab (Bl h)]
theorem MD:∀ (a b:List PV) (i:Nat),i<a.length→Aa (a++b) i=Aa a i
 |[],_,_,h=>by cases h
 |_::_,_,0,_=>rfl
 |_::a,b,i+1,h=>MD a b i (by simpa using h)
theorem Mz:∀ (a b:List PV) (i:Nat),Aa (a++b) (a.length+i)=Aa b i
 |[],_,_=>by simp
 | _::a,b,i=>by
   have:=Mz a b i
   simp only[BT,AO,QY]
   exact this
theorem O2:∀ (a b:List V) (i:Nat),i<a.length→get (a++b) i=get a i
 |[],_,_,h=>by cases h
 |_::_,_,0,_=>rfl
 |_::a,b,i+1,h=>O2 a b i (by simpa using h)
theorem OY:∀ (a b:List V) (i:Nat),get (a++b) (a.length+i)=get b i
 |[],_,_=>by simp
 | _::a,b,i=>by
   have:=OY a b i
   simp only[BT,AO,QY]
   exact this
theorem OZ:∀ (l:List V) (o n i:Nat),i<n→get ((l.drop o).take n) i=get l (o+i)
 |[],o,n,i,_=>by simp[get]
 |c::r,0,0,i,h=>by cases h
 |c::r,0,n+1,0,_=>rfl
 | c::r,0,n+1,i+1,h=>by
   have:=OZ r 0 n i (by omega)
   simp only[AR] at this
   simp only[Li,QP,get,AR]
   simpa using this
 | c::r,o+1,n,i,h=>by
   have:=OZ r o n i h
   rw[List.drop_succ_cons,this,QY]
   rfl
theorem Tn{w:Nat}:∀ (es:List (List PV)) (i j:Nat),(∀ e∈es,e.length=w)→j<w→i<es.length→Aa es.flatten (i*w+j)=Aa (Ar es i) j
 |[],i,_,_,_,h=>by cases h
 | e::r,0,j,hw,hj,_=>by
   have he:=hw e (QW ..)
   rw[Hp,AR,Et,MD _ _ _ (by omega)]
   rfl
 | e::r,i+1,j,hw,hj,h=>by
   have he:=hw e (QW ..)
   rw[Et,show (i+1)*w+j=e.length+(i*w+j) by rw[he,It];omega,Mz]
   exact Tn r i j (fun e h=>hw e (List.mem_cons_of_mem _ h)) hj (by simpa using h)
theorem TD {α:Type}(f:α→List PV):∀ (l:List α) (i:Nat) (h:i<l.length),Ar (l.map f) i=f l[i]
 |[],_,h=>by cases h
 |_::_,0,_=>rfl
 |_::l,i+1,h=>TD f l i (by simpa using h)
theorem K8{σ:Ac}:∀ (ty:Ty) {cs:List V},ty.good=true→Sh σ ty cs→∃ x:DL ty.cts,DL.wf ty.cts x ∧
 (∀ i,RC σ (ωro σ) .fz (Aa (DL.enc ty.cts x) i) (get cs i))∧∀ i hd p,RC σ (ωro σ) (.at hd p) (Aa (DL.encF ty.cts x) i) (get cs i)
 | .int k,cs,_,⟨n,h,hw⟩=>by
   subst h;exact⟨(n,()),⟨hw,trivial⟩,fun i=>by cases i<;>first|exact .v _ _ rfl|exact .undef _ _,fun i hd p=>by cases i<;>first|exact .v _ _ rfl|exact .undef _ _⟩
 | .bool,cs,_,⟨b,h⟩=>by
   subst h;exact⟨(b,()),⟨trivial,trivial⟩,fun i=>by cases i<;>first|exact .v _ _ rfl|exact .undef _ _,fun i hd p=>by cases i<;>first|exact .v _ _ rfl|exact .undef _ _⟩
 | .str,cs,_,⟨s,h,hl⟩=>by
   subst h;exact⟨(s,()),⟨hl,trivial⟩,fun i=>by cases i<;>first|exact .v _ _ rfl|exact .undef _ _,fun i hd p=>by cases i<;>first|exact .v _ _ rfl|exact .undef _ _⟩
 | .unit,cs,_,h=>by
   have h:cs=[]:=h;subst h;exact⟨(),trivial,fun i=>.undef _ _,fun i hd p=>.undef _ _⟩
 | .pair a b,cs,hg,⟨xs,ys,h,h1,h2⟩=>by
   simp only[Ty.good,Aj] at hg;obtain⟨x,x1,x2,x3⟩:=K8 a hg.1 h1;obtain⟨y,y1,y2,y3⟩:=K8 b hg.2 h2;have hl:=h1.len;subst h;refine⟨DL.app _ _ x y,DL.app_wf _ _ x y x1 y1,fun i=>?_,fun i hd p=>?_⟩
   · simp only[Ty.cts];rw[DL.app_enc];by_cases hi:i<a.w
     · rw[MD _ _ _ (by rw[DL.len,Gq];exact hi),O2 _ _ _ (by rw[hl];exact hi)];exact x2 i
     · obtain⟨j,rfl⟩:=Nat.exists_eq_add_of_le (Nat.le_of_not_lt hi);have e1:=Mz (DL.enc a.cts x) (DL.enc b.cts y) j;have e2:=OY xs ys j;rw[DL.len,Gq] at e1;rw[hl] at e2;rw[e1,e2];exact y2 j
   · simp only[Ty.cts];rw[DL.app_encF];by_cases hi:i<a.w
     · rw[MD _ _ _ (by rw[DL.lenF,Gq];exact hi),O2 _ _ _ (by rw[hl];exact hi)];exact x3 i hd p
     · obtain⟨j,rfl⟩:=Nat.exists_eq_add_of_le (Nat.le_of_not_lt hi);have e1:=Mz (DL.encF a.cts x) (DL.encF b.cts y) j;have e2:=OY xs ys j;rw[DL.lenF,Gq] at e1;rw[hl] at e2;rw[e1,e2];exact y3 j hd p
 | .sl t,cs,hg,h=>by
   simp only[Ty.good,Aj] at hg;have hw0:0<t.w:=BH hg.1
   have hne:t.cts≠[]:=by intro e;have:=Gq t;rw[e] at this;simp only[AA] at this;omega
   rcases h with h|⟨l,n,bs,h,hb,hbl,hn,he⟩
   · subst h;refine⟨(([]:List (D8 t.cts).D),()),⟨⟨Fy _,fun x hx=>by cases hx⟩,trivial⟩,fun i=>?_,fun i hd p=>?_⟩
     · cases i<;>first|exact .nil _ _|exact .undef _ _
     · cases i<;>first|exact .nil _ _|exact .undef _ _
   · subst h
     have ex:∀ i,∃ x:DL t.cts,i<n→DL.wf t.cts x∧(∀ k,RC σ (ωro σ) .fz (Aa (DL.enc t.cts x) k) (get ((bs.drop (i*t.w)).take t.w) k)):=by
      intro i;by_cases hi:i<n
      · obtain⟨x,h1,h2,_⟩:=K8 t hg.2 (he i hi);exact⟨x,fun _=>⟨h1,h2⟩⟩
      · have h0:∀ l:List CT,Nonempty (DL l):=by
         intro l
         induction l with
         |nil=>exact⟨()⟩
         |cons a r ih=>obtain⟨y⟩:=ih;exact⟨(a.dflt,y)⟩
        obtain⟨y⟩:=h0 t.cts;exact⟨y,fun h=>absurd h hi⟩
     let f:Nat→DL t.cts:=fun i=>Classical.choose (ex i)
     have hf:∀ i,i<n→DL.wf t.cts (f i)∧∀ k,RC σ (ωro σ) .fz (Aa (DL.enc t.cts (f i)) k) (get ((bs.drop (i*t.w)).take t.w) k):=fun i hi=>Classical.choose_spec (ex i) hi
     let L:List (D8 t.cts).D:=(List.range n).map fun i=>DL.rt t.cts (f i)
     have hL:L.length=n:=by simp[L]
     have hLw:∀ e∈L.map (RT.enc (D8 t.cts)),e.length=t.w:=by
      intro e he;obtain⟨y,hy,rfl⟩:=List.mem_map.mp he;obtain⟨i,_,rfl⟩:=List.mem_map.mp hy;rw[DL.rt_enc _ _ hne,DL.len,Gq]
     have hcell:∀ k,k<L.length*t.w→RC σ (ωro σ) .fz (Aa (L.map (RT.enc (D8 t.cts))).flatten k) (get bs (0+k)):=by
      intro k hk
      have hdm:k / t.w*t.w+k % t.w=k:=by rw[Of];exact N5 k t.w
      have hmod:=Gs k hw0
      have hdiv:k / t.w<n:=by rw[hL] at hk;exact(NT hw0).2 hk
      have e1:=Tn (L.map (RT.enc (D8 t.cts))) (k / t.w) (k % t.w) hLw hmod (by rw[A3,hL];exact hdiv);rw[hdm] at e1;rw[e1,TD _ _ _ (by rw[hL];exact hdiv),AR];have e2:=OZ bs (k / t.w*t.w) t.w (k % t.w) hmod;rw[hdm] at e2
      have e3:L[k / t.w]'(by rw[hL];exact hdiv)=DL.rt t.cts (f (k / t.w)):=by simp[L]
      rw[e3,DL.rt_enc _ _ hne,← e2];exact(hf _ hdiv).2 _
     have hwf:∀ x∈L,RT.wf (D8 t.cts) x:=by
      intro x hx;obtain⟨i,hi,rfl⟩:=List.mem_map.mp hx;exact DL.rt_wf _ _ hne (hf i (List.mem_range.mp hi)).1
     have hle:0+(L.map (RT.enc (D8 t.cts))).length*t.w≤bs.length:=by rw[A3,hL,hbl];omega
     refine⟨(L,()),⟨⟨by rw[hL];exact hn,hwf⟩,trivial⟩,fun i=>?_,fun i hd p=>?_⟩
     · cases i with
       |succ i=>exact .undef _ _
       |zero=>exact .sl _ _ _ _ _ _ _ hb (by simp) (ωro_frz hb) (fun e=>by cases e) (by rw[A3,hL]) hLw hle fun k hk=>hcell k (by rw[A3] at hk;exact hk)
     · cases i with
       |succ i=>exact .undef _ _
       |zero=>exact .sl _ _ _ _ _ _ _ hb (by simp) (ωro_frz hb) (fun _ e=>by rcases e with e|⟨_,_,e⟩<;>cases e) (by rw[A3,hL]) hLw hle fun k hk=>hcell k (by rw[A3] at hk;exact hk)
structure ArgD (σ:Ac) (v:PV) (u:V):Prop where
 rc:∀ hd p c,RC σ (ωro σ) (.at hd p) (v.fcell c) (u.fcell c)
 sh:Av v u
 nx:∀ c i pb tp,(v.fcell c).q≠some (.bor (.x i) pb tp)
theorem c9{v:V}(h:v.cell=true):(∀ us,v≠.agg us)∧∀ us,v≠.tup us:=by
 constructor<;>rintro us rfl<;>cases h
theorem RA:∀ (l:List CT) (x:DL l) (i:Nat) (a:Hd) (pb:List Nat) (tp:Bool),(Aa (DL.encF l x) i).q≠some (.bor a pb tp)
 |[],_,_,_,_,_=>by simp[DL.encF,Aa,PV.q]
 |c::r,x,0,a,pb,tp=>by cases c<;>simp[DL.encF,Aa,CT.dv,DV.enc,PV.q]
 |_::r,x,i+1,a,pb,tp=>RA r x.2 i a pb tp
theorem TK{σ:Ac}{a:Ty×Bool}{u:V}(hg:NB a=true)(h:ArgOk σ a u):∃ x:(HC a).D,(HC a).wf x∧ArgD σ ((HC a).dv x).enc u:=by
 obtain⟨ty,b⟩:=a
 cases b with
 | true=>
   obtain⟨cs,rfl,hs,hc⟩:=h;obtain⟨x,h1,_,h3⟩:=K8 ty hg hs;have hle:=hs.len;refine⟨DL.ag ty.cts x,DL.ag_wf _ _ h1,?_⟩
   have he:((HC (ty,true)).dv (DL.ag ty.cts x)).enc= .agg (DL.encF ty.cts x):=by
    show PV.agg _=PV.agg _;rw[DL.ag_enc]
   rw[he];refine⟨fun hd p c=>?_,⟨cs,rfl,by rw[hle,DL.lenF,Gq]⟩,fun c i pb tp=>?_⟩
   · match c with
     |[]=>exact .undef _ _
     |[c]=>exact h3 c hd p
     |_::_::_=>exact .undef _ _
   · match c with
     |[]=>simp[PV.fcell,PV.q]
     |[c]=>exact RA _ _ _ _ _ _
     |_::_::_=>simp[PV.fcell,PV.q]
 | false =>
   obtain⟨hs,hc⟩:=h;simp only[NB,Aj,AH] at hg;obtain⟨x,h1,_,h3⟩:=K8 ty hg.1 hs
   have key:∀ (l:List CT) (x:DL l),l.length=1→DL.wf l x→(∀ i hd p,RC σ (ωro σ) (.at hd p) (Aa (DL.encF l x) i) (get [u] i)) →
    ∃ y:(match l with|[c]=>HT.one .frz c|_=>HT.agg []).D,(match l with|[c]=>HT.one .frz c|_=>HT.agg []).wf y∧ArgD σ ((match l with|[c]=>HT.one .frz c|_=>HT.agg []).dv y).enc u:=by
    intro l x hl hwf h3
    match l,x,hl,hwf,h3 with
    | [c],x,_,hwf,h3=>
      have hsc:=c9 hc
      have hnf:∀ p,p≠[0]→((CT.dv .frz c x.1).enc).fcell p= .fl .undef:=by
       intro p hp;cases c<;>(match p with|[]=>rfl|[0]=>exact absurd rfl hp|(_+1)::_=>rfl|0::_::_=>rfl)
      have hf0:((CT.dv .frz c x.1).enc).fcell [0]=(CT.dv .frz c x.1).enc:=by cases c<;>rfl
      have hu0:u.fcell [0]=u:=by cases u<;>first|rfl|exact absurd rfl (hsc.1 _)|exact absurd rfl (hsc.2 _)
      refine⟨x.1,hwf.1,⟨fun hd p q=>?_,?_,fun q i pb tp=>?_⟩⟩
      · by_cases hq:q=[0]
        · subst hq;show RC σ (ωro σ) (.at hd p) (((CT.dv .frz c x.1).enc).fcell [0]) (u.fcell [0]);rw[hf0,hu0];exact h3 0 hd p
        · show RC σ (ωro σ) (.at hd p) (((CT.dv .frz c x.1).enc).fcell q) (u.fcell q);rw[hnf q hq];exact .undef _ _
      · show Av ((CT.dv .frz c x.1).enc) u;cases c<;>exact hsc
      · show (((CT.dv .frz c x.1).enc).fcell q).q≠_;by_cases hq:q=[0]
        · subst hq;rw[hf0];exact RA [c] x 0 _ _ _
        · rw[hnf q hq];simp[PV.q]
   exact key ty.cts x hg.2 h1 h3
theorem Pz{σ:Ac}:∀ {tys:List (Ty×Bool)} {us:List V},tys.all NB=true→JO σ tys us→∃ x:TuX (tys.map HC),TuX.wf _ x∧us.length=tys.length ∧
 ∀ t,ArgD σ (Aa (DV.encL (C9 (tys.map HC) x)) t) (get us t)
 |[],[],_,_=>⟨(),trivial,rfl,fun t=>⟨fun hd p c=>by
  have:(PV.fl V.undef).fcell c= .fl .undef:=by match c with|[]=>rfl|[0]=>rfl|(_+1)::_=>rfl|0::_::_=>rfl
  show RC σ (ωro σ) (.at hd p) ((PV.fl V.undef).fcell c) _
  rw[this];exact .undef _ _,trivial,fun c i pb tp=>by
  have:(PV.fl V.undef).fcell c= .fl .undef:=by match c with|[]=>rfl|[0]=>rfl|(_+1)::_=>rfl|0::_::_=>rfl
  show ((PV.fl V.undef).fcell c).q≠_
  rw[this];simp[PV.q]⟩⟩
 | [a],[u],hg,h=>by
   simp only[DD,List.all_nil,JX] at hg;obtain⟨x,h1,h2⟩:=TK hg h.1;obtain⟨_,_,_,h4⟩:=Pz (σ:=σ) (tys:=[]) (us:=[]) rfl trivial;refine⟨x,h1,rfl,fun t=>?_⟩
   cases t with
   |zero=>exact h2
   |succ t=>exact h4 t
 | a::b::r,u::us,hg,h=>by
   rw[DD,Aj] at hg;obtain⟨x,h1,h2⟩:=TK hg.1 h.1;obtain⟨y,h3,h4,h5⟩:=Pz (tys:=b::r) (us:=us) hg.2 h.2;refine⟨(x,y),⟨h1,h3⟩,by simp[h4],fun t=>?_⟩
   cases t with
   |zero=>exact h2
   |succ t=>exact h5 t
 |[_],_::_::_,_,h=>h.2.elim
 |[_],[],_,h=>h.elim
 |_::_::_,[],_,h=>h.elim
 |[],_::_,_,h=>h.elim
theorem gu{σ:Ac}{as:List PV}{us:List V}(hl:as.length=us.length)(h:∀ t,ArgD σ (Aa as t) (get us t)):RS σ (ωro σ) (ωro σ) (fun _=>0) ⟨as,[],[]⟩ ⟨us,[],σ⟩ X0:=by
 have no:∀ l hd p,ωro σ l≠.own hd p:=by intro l hd p e;unfold ωro at e;split at e<;>cases e
 have nop:∀ l i,ωro σ l≠.ptr i:=by intro l i e;unfold ωro at e;split at e<;>cases e
 have hund:∀ c,(PV.fl V.undef).fcell c= .fl .undef:=by
  intro c;match c with|[]=>rfl|[0]=>rfl|(_+1)::_=>rfl|0::_::_=>rfl
 have cat:∀ (c:List Nat) (l:List V),(AB [] l c).1= .fl .undef:=by
  intro c l;match c with|[]=>rfl|[_]=>rfl|_::_::_=>rfl
 refine⟨⟨fun hd p=>?_,fun l l' hd p e=>absurd e (no l hd p),fun l l' i e=>absurd e (nop l i),fun l e=>?_,fun l e=>?_⟩,fun t=>(h t).sh,fun i=>trivial,hl,rfl,fun i=>rfl,fun i c=>rfl,fun i c=>rfl,fun i hi=>(by cases hi),fun l i e=>absurd e (nop l i),fun l i p e=>absurd e (no l _ p),⟨AK _,fun l _ _=>⟨rfl,rfl⟩,fun l hlt e=>(by rw[e];simp),fun l i e=>e⟩,fun hd p i pb tp=>?_⟩
 · cases hd with
   |s t=>exact(h t).rc _ _ _
   |b i=>show RC σ (ωro σ) _ (AB [] (Ax [] i) p).1 _;rw[cat];exact .undef _ _
   |h i=>show RC σ (ωro σ) _ (AB [] _ p).1 _;rw[cat];exact .undef _ _
   |x i=>show RC σ (ωro σ) _ ((PV.fl V.undef).fcell p) _;rw[hund];exact .undef _ _
 · rcases e with⟨hd,p,e⟩|⟨i,e⟩
   · exact absurd e (no l hd p)
   · exact absurd e (nop l i)
 · unfold ωro at e;split at e
   · assumption
   · cases e
 · cases hd with
   |s t=>exact(h t).nx p i pb tp
   |b j=>show (AB [] (Ax [] j) p).1.q≠_;rw[cat];simp[PV.q]
   |h j=>show (AB [] _ p).1.q≠_;rw[cat];simp[PV.q]
   |x j=>show ((PV.fl V.undef).fcell p).q≠_;rw[hund];simp[PV.q]
theorem fi {f:DFun} {tys:List (Ty×Bool)} {hs:List HT} {s:A7} (hsp:Hg s (Ic f.er)) (hhs:tys.map HC=hs) (hg:tys.all NB=true) (ho:AllD f.body.obs)
 (hst:J2 f hs (.one (.one .own .bool))=true) (hc:∀ x,JZ f hs (.one (.one .own .bool)) x=true)
 (law:∀ x:TuX hs,TuX.wf hs x→Fa f hs (.one (.one .own .bool)) x∧Fc f hs (.one (.one .own .bool)) x=true) (σ:Ac) (us:List V) (hro:CE σ) (ha:JO σ tys us):s us σ fun r _=>r= .bool true:=by
 subst hhs
 obtain⟨x,h1,h2,h3⟩:=Pz hg ha
 obtain⟨l1,l2⟩:=law x h1
 have hlen:(DV.encL (C9 (tys.map HC) x)).length=us.length:=by rw[Dy,Nn,A3,h2]
 refine hsp σ (ωro σ) (fun _=>0) _ us [] (fun r _=>r= .fl (.bool true)) _ (gu hlen h3) (fun l hd p e=>?_) ?_ fun u h' r H' ω' ρ' hQ R' _=>?_
 · exfalso;unfold ωro at e;split at e<;>cases e
 · refine TE ho hst x (hc x) l1 fun H=>?_
   rw[l2];rfl
 · subst hQ
   have r:=R'.core.rc (.x 0) [0];have hs:=R'.shx 0;have r:RC h' ω' (.at (.x 0) [0]) (.fl (.bool true)) (u.fcell [0]):=r
   have hu:u.fcell [0]=u:=by
    have hs:Av (.fl (.bool true)) u:=hs
    cases u<;>first|rfl|exact absurd rfl (hs.1 _)|exact absurd rfl (hs.2 _)
   rw[hu] at r;cases r;rfl
def rk(pu:Bool)(res:List ARes)(h0:Ac)(Q:V→Ac→Prop):Ds:=OH ⟨0,0,0,pu,res,.skip⟩ h0 Q
@[congr] theorem gZ {c:ACode} {k:Ds} {st st':St} (h:st=st'):CG c k st=CG c k st':=by rw[h]
@[congr] theorem gV {o:List AOper} {k:St→Prop} {st st':St} (h:st=st'):BW o k st=BW o k st':=by rw[h]
@[congr] theorem gY {o:AOp} {d:Option Nat} {k:St→Prop} {st st':St} (h:st=st'):AF o d k st=AF o d k st':=by rw[h]
@[congr] theorem gW {n:St→Prop} {k:Ds} {e e':AExit} {st st':St} (he:e=e') (h:st=st'):IM n k e st=IM n k e' st':=by rw[he,h]
@[congr] theorem gS {i:Nat} {k:Ds} {e e':AExit} {st st':St} (he:e=e') (h:st=st'):JM i k e st=JM i k e' st':=by rw[he,h]
@[congr] theorem hF {pu:Bool} {res:List ARes} {h0:Ac} {Q:V→Ac→Prop} {e e':AExit} {st st':St} (he:e=e') (h:st=st'):rk pu res h0 Q e st=rk pu res h0 Q e' st':=by rw[he,h]
def fA:V→Option V
 |.nils=>some (.int .i64 0)
 |.slice _ _ n=>some (.int .i64 n)
 |_=>none
def Uj(hp:Ac)(n:Option Nat):V→Option V
 |.ptr l o=>(rd hp l o (n.getD 1)).bind fun cs=>Cf n cs
 |_=>none
def PJ(bx:List (List V))(hp:Ac)(n:Nat)(a x:V):Option (V×List (List V)×Ac):=match a with
 |.ptr l o=>if x.cells.length=n∧x.cells.all V.cell then (wr hp l o x.cells).bind fun h=>some (.undef,bx,h) else none
 |_=>none
theorem bind_some{α:Type}(o:Option α):(o.bind fun x=>some x)=o:=by cases o<;>rfl
section
variable {α:Type}
def Ka(f:α→Int→α×Int):List α→Int→List α×Int
 |[],m=>([],m)
 |a::r,m=>((f a m).1::(Ka f r (f a m).2).1,(Ka f r (f a m).2).2)
end
def gj:IntKind→Int→Int
 |.i64,m=>m
 |k,m=>k.wrap m
mutual
def CT.mkI:(t:CT)→t.D→Int→t.D×Int
 |.int k,_,m=>(gj k m,IntKind.i64.wrap (m+1))
 |.bool,_,m=>((m.tmod 3 == 0:Bool),IntKind.i64.wrap (m+1))
 |.str,s,m=>(s,m)
 |.ifc,b,m=>(b,m)
 |.sl r,l,m=>Ka (RT.mkI r) l m
def RT.mkI:(r:RT)→r.D→Int→r.D×Int
 |.one t,x,m=>CT.mkI t x m
 |.cons t r,x,m=>(((CT.mkI t x.1 m).1,(RT.mkI r x.2 (CT.mkI t x.1 m).2).1),(RT.mkI r x.2 (CT.mkI t x.1 m).2).2)
end
mutual
def CT.wl:(t:CT)→t.D→Prop
 |.sl r,l=>l.length≤9223372036854775807∧∀ a:r.D,List.Mem a l→RT.wl r a
 |_,_=>True
def RT.wl:(r:RT)→r.D→Prop
 |.one t,x=>CT.wl t x
 |.cons t r,x=>CT.wl t x.1∧RT.wl r x.2
end
section
variable {h h':Ac} {ω:Nat→W} {hd:Hd} {p:List Nat}
abbrev II (ω:Nat→W) (hd:Hd) (p:List Nat):Nat→Prop:=fun l=>∃ q,ω l= .own hd (p++q)
abbrev MS (h:Ac) (ω:Nat→W) (hd:Hd) (p:List Nat) (r:RT) (l:List r.D) (u:V):Prop:=RC h ω (.inn hd p) (.sl .own (l.map r.enc)) u
theorem MS.len{r:RT}{l:List r.D}{u:V}(M:MS h ω hd p r l u):fA u=some (.int .i64 (l.length:Int)):=by
 unfold MS at M;generalize he:l.map r.enc=es at M
 have hl:l.length=es.length:=by rw[← he,A3]
 cases M with
 |nil=>rw[hl];rfl
 |sl _ _ _ l o n b h1 hk hc hne hn hw hle hr=>rw[hl,← hn];rfl
theorem MS.ok1{r:RT}{l:List r.D}{u:V}(M:MS h ω hd p r l u):u.ok1=true∧u.cell=true:=by
 unfold MS at M;generalize l.map r.enc=es at M;cases M<;>exact⟨rfl,rfl⟩
theorem MS.slice{r:RT}{l:List r.D}{u:V}(M:MS h ω hd p r l u)(hl:0<l.length):∃ b,u= .slice b 0 l.length:=by
 unfold MS at M;generalize he:l.map r.enc=es at M
 have hl':l.length=es.length:=by rw[← he,A3]
 cases M with
 |nil=>rw[hl'] at hl;simp at hl
 | sl _ _ _ b o n bk h1 hk hc hne hn hw hle hr=>
   obtain⟨_,rfl,_⟩:=hc;exact⟨b,by rw[hl',hn]⟩
theorem MS.upd {r:RT} {l:List r.D} {b n:Nat} (M:MS h ω hd p r l (.slice b 0 n)) {i off:Nat} (hi:i<l.length) (hoff:off<r.w) {y:r.D} {c:PV} (hy:r.enc y=An (r.enc (l.getD i r.dflt)) off [c])
 {bk:Blk} (h1:h[b]?=some bk) {cs':List V} (h1':h'[b]?=some { bk with cs:=cs' }) (hcl:cs'.length=bk.cs.length) {v:V} (hcs:∀ k,get cs' k=if k=i*r.w+off then v else get bk.cs k)
 (hO:∀ x,x≠b→(∀ q,ω x≠.own hd (p++(i*r.w+off)::q))→h'[x]?=h[x]?) (hc:RC h' ω (.inn hd (p++[i*r.w+off])) c v):MS h' ω hd p r (l.set i y) (.slice b 0 n):=by
 unfold MS at M ⊢
 rw[← KN,hy,← Ej r l i hi]
 generalize he:l.map r.enc=es at M
 have hl':l.length=es.length:=by rw[← he,A3]
 have hwr:∀ e∈es,e.length=r.w:=by rw[← he];intro e h;obtain⟨x,_,rfl⟩:=List.mem_map.1 h;exact Hj r x
 have hi':i<es.length:=by rw[← hl'];exact hi
 cases M with
 | sl _ _ _ _ o _ bk' h1b hk hch hne hn hw hle hr=>
   rw[h1] at h1b;cases h1b
   have hbw:bk.w=r.w:=by rw[← hw _ (CX (l:=es) hi')];exact hwr _ (CX hi')
   have hel:=H7 hw hi';obtain⟨hb1,_,hb3⟩:=hch
   refine RC.sl _ .own _ b 0 n { bk with cs:=cs' } h1' hk ⟨hb1,rfl,hb3⟩ (fun _ _ h=>by have:=congrArg List.length h;rw[CV] at this;simp only[AA] at this;omega) (by rw[CV];exact hn) (Lt hw (by rw[DN];exact hel)) (by rw[CV];simp only[hcl];exact hle) fun k hk'=>?_
   simp only[CV] at hk';rw[Na hw hi' (by rw[hbw];simp only[AO,AA];omega) k hk',AR,hcs];simp only[AO,AA,hbw];by_cases hkk:k=i*r.w+off
   · subst hkk;rw[Ab ⟨by omega,by omega⟩,Ab rfl,N3];exact hc
   · rw[Ad (by omega),Ad hkk];have r0:=hr k hk';rw[AR] at r0;refine r0.inn0 (f:=Ren.id) (T:=fun x=>x=b∨∃ q,ω x= .own hd (p++(i*r.w+off)::q)) ⟨fun x e=>⟨e,hO x (by rintro rfl;rw[hb1] at e;cases e) (fun q e'=>by rw[e] at e';cases e')⟩,fun x a q e hn=>⟨by rw[e];rfl,hO x (fun h=>hn (.inl h)) (fun q' e'=>hn (.inr ⟨q',e'⟩))⟩⟩ (fun x q e hT=>?_) (fun q=>rfl);rcases hT with rfl|⟨q',e'⟩
     · rw[hb1] at e;simp only[W.own.injEq] at e;have:=congrArg List.length e.2;simp at this
     · rw[e] at e';simp only[W.own.injEq,Bh,BT,BQ,List.append_cancel_left_eq,Gv] at e';exact hkk e'.2.1
theorem MS.store {r:RT} {l:List r.D} {b n:Nat} (M:MS h ω hd p r l (.slice b 0 n)) {i off:Nat} (hi:i<l.length) (hoff:off<r.w) {v:V} (hv:v.flat=true) (hvc:v.cells=[v]) {y:r.D} (hy:r.enc y=An (r.enc (l.getD i r.dflt)) off [.fl v])
 (hinj:∀ l l' a q,ω l= .own a q→ω l'= .own a q→l=l') (bx:List (List V)):∃ h',PJ bx h 1 (.ptr b (i*r.w+off)) v=some (.undef,bx,h')∧Only (II ω hd p) h h'∧MS h' ω hd p r (l.set i y) (.slice b 0 n):=by
 have M0:=M
 unfold MS at M0
 generalize he:l.map r.enc=es at M0
 have hl':l.length=es.length:=by rw[← he,A3]
 have hwr:∀ e∈es,e.length=r.w:=by rw[← he];intro e h;obtain⟨x,_,rfl⟩:=List.mem_map.1 h;exact Hj r x
 have hi':i<es.length:=by rw[← hl'];exact hi
 cases M0 with
 | sl _ _ _ _ o _ bk h1 hk hch hne hn hw hle hr=>
   have hbw:bk.w=r.w:=by rw[← hw _ (CX (l:=es) hi')];exact hwr _ (CX hi')
   obtain⟨hb1,_,hb3⟩:=hch
   have hlt:i*r.w+off<bk.cs.length:=by
    have:(i+1)*r.w≤es.length*r.w:=FC _ hi';rw[Co,Hi] at this;rw[hbw] at hle;omega
   have hb:b<h.length:=Bl h1
   have hset:∀ k,(h.set b { bk with cs:=splice bk.cs (i*r.w+off) [v] })[k]?=if k=b then some { bk with cs:=splice bk.cs (i*r.w+off) [v] } else h[k]?:=by
    intro k;rw[Er];by_cases hk:b=k
    · subst hk;simp[hb]
    · rw[Ad hk,Ad (fun h'=>hk h'.symm)]
   have hvcell:[v].all V.cell=true:=by
    cases v<;>first|rfl|(simp[V.flat] at hv)
   refine⟨h.set b { bk with cs:=splice bk.cs (i*r.w+off) [v] },?_,⟨by simp,fun x hx=>?_,fun x bx' hx=>?_⟩,M.upd hi hoff hy h1 (cs':=splice bk.cs (i*r.w+off) [v]) (v:=v) (by rw[hset,Ab rfl]) (Dv _ _ _) (fun k=>?_) (fun x hx _=>by rw[hset,Ad hx]) (.v _ _ hv)⟩
   · have hwr':wr h b (i*r.w+off) [v]=some (h.set b { bk with cs:=splice bk.cs (i*r.w+off) [v] }):=by
      rw[wr,h1];simp only;rw[Ab ⟨hb3,by simp only[AO,AA];omega⟩]
     simp only[PJ,hvc,hvcell,AO,AA,hwr'];rfl
   · rw[hset,Ad];rintro rfl;exact hx ⟨[],by rw[hb1];simp⟩
   · by_cases hxb:x=b
     · subst hxb;rw[h1] at hx;cases hx;exact⟨{ bk with cs:=splice bk.cs (i*r.w+off) [v] },by rw[hset,Ab rfl],rfl,rfl,Dv _ _ _⟩
     · exact⟨bx',by rw[hset,Ad hxb];exact hx,rfl,rfl,rfl⟩
   · rw[KB _ _ _ _ (by simp only[AO,AA];omega)];simp only[AO,AA];by_cases hkk:k=i*r.w+off
     · subst hkk;rw[Ab ⟨by omega,by omega⟩,Ab rfl,N3];rfl
     · rw[Ad (by omega),Ad hkk]
theorem MS.load{r:RT}{l:List r.D}{b n:Nat}(M:MS h ω hd p r l (.slice b 0 n)){i off:Nat}(hi:i<l.length)(hoff:off<r.w){r':RT}{l':List r'.D}(hx:Aa (r.enc (l.getD i r.dflt)) off= .sl .own (l'.map r'.enc)) :
 ∃ u,Uj h none (.ptr b (i*r.w+off))=some u∧MS h ω hd (p++[i*r.w+off]) r' l' u∧∃ bk,h[b]?=some bk∧get bk.cs (i*r.w+off)=u:=by
 have M0:=M
 unfold MS at M0
 rw[← Ej r l i hi] at hx
 generalize he:l.map r.enc=es at M0 hx
 have hl':l.length=es.length:=by rw[← he,A3]
 have hwr:∀ e∈es,e.length=r.w:=by rw[← he];intro e h;obtain⟨x,_,rfl⟩:=List.mem_map.1 h;exact Hj r x
 have hi':i<es.length:=by rw[← hl'];exact hi
 cases M0 with
 | sl _ _ _ _ o _ bk h1 hk hch hne hn hw hle hr=>
   have hbw:bk.w=r.w:=by rw[← hw _ (CX (l:=es) hi')];exact hwr _ (CX hi')
   have hm:(i+1)*r.w≤es.length*r.w:=FC _ hi';rw[Co,Hi] at hm
   have hlt:i*r.w+off<bk.cs.length:=by rw[hbw] at hle;omega
   have r0:=hr (i*r.w+off) (by rw[hbw];omega);rw[AR] at r0;have hf:Aa es.flatten (i*r.w+off)=Aa (Ar es i) off:=EM (w:=r.w) (by rw[← hbw];exact hw) i off hoff;rw[hf,hx] at r0;refine⟨get bk.cs (i*r.w+off),?_,r0,bk,h1,rfl⟩
   have e1:rd h b (i*r.w+off) 1=some ((bk.cs.drop (i*r.w+off)).take 1):=by
    rw[rd,h1];simp only;rw[Ab ⟨hk,by omega⟩]
   show (rd h b (i*r.w+off) 1).bind (Cf none)=_;rw[e1];rw[N4 hlt];simp only[QP,List.take_zero,Hh,Cf,BS,Au hlt];rfl
theorem MS.sub {r:RT} {l:List r.D} {b n:Nat} (M:MS h ω hd p r l (.slice b 0 n)) {i off:Nat} (hi:i<l.length) (hoff:off<r.w) {u:V} {bk:Blk} (h1:h[b]?=some bk) (hu:get bk.cs (i*r.w+off)=u)
 (hO:Only (II ω hd (p++[i*r.w+off])) h h') {r':RT} {l':List r'.D} (hr:MS h' ω hd (p++[i*r.w+off]) r' l' u) {y:r.D} (hy:r.enc y=An (r.enc (l.getD i r.dflt)) off [.sl .own (l'.map r'.enc)]) :
 Only (II ω hd p) h h'∧MS h' ω hd p r (l.set i y) (.slice b 0 n):=by
 have hb1:ω b= .own hd p:=by
  have M0:=M;unfold MS at M0;generalize l.map r.enc=es at M0
  cases M0 with
  |sl _ _ _ _ o _ bk h1 hk hch hne hn hw hle hr=>exact hch.1
 refine⟨hO.mono fun x ⟨q,e⟩=>⟨(i*r.w+off)::q,by rw[e];simp⟩,M.upd hi hoff hy h1 (cs':=bk.cs) (v:=u) ?_ rfl (fun k=>?_) (fun x _ hx=>hO.off x (fun⟨q,e⟩=>hx q (by rw[e];simp))) hr⟩
 · rw[hO.off b]
   · exact h1
   · rintro⟨q,e⟩;rw[hb1] at e;simp only[W.own.injEq] at e;have:=congrArg List.length e.2;simp at this
 · split
   · rename_i hk;rw[hk,hu]
   · rfl
theorem MS.frame{r:RT}{l:List r.D}{u:V}(M:MS h ω hd p r l u){i:Nat}(hi:i<l.length):MS h ω hd p r (l.set i (l.getD i r.dflt)) u:=by
 have:l.set i (l.getD i r.dflt)=l:=by
  rw[D1,Au hi];simp
 rw[this];exact M
theorem Pb{r:RT}{l:List r.D}{i:Nat}(hi:i<l.length)(x:r.D):(l.set i x).getD i r.dflt=x:=by
 rw[D1,List.getElem?_set_self (by simpa using hi)];rfl
theorem MS.st {r:RT} {l:List r.D} {b n i:Nat} {x:r.D} (M:MS h ω hd p r (l.set i x) (.slice b 0 n)) (hi:i<l.length) {off:Nat} (hoff:off<r.w) {v:V} (hv:v.flat=true) (hvc:v.cells=[v]) {y:r.D} (hy:r.enc y=An (r.enc x) off [.fl v])
 (hinj:∀ l l' a q,ω l= .own a q→ω l'= .own a q→l=l') (bx:List (List V)):∃ h',PJ bx h 1 (.ptr b (i*r.w+off)) v=some (.undef,bx,h')∧Only (II ω hd p) h h'∧MS h' ω hd p r (l.set i y) (.slice b 0 n):=by
 obtain⟨h',e1,e2,e3⟩:=M.store (i:=i) (off:=off) (by simpa using hi) hoff hv hvc (y:=y) (by rw[Pb hi];exact hy) hinj bx
 rw[List.set_set] at e3
 exact⟨h',e1,e2,e3⟩
theorem MS.sb{r:RT}{l:List r.D}{b n i:Nat}{x:r.D}(M:MS h ω hd p r (l.set i x) (.slice b 0 n))(hi:i<l.length){off:Nat}(hoff:off<r.w){r':RT}{l':List r'.D}(hx:Aa (r.enc x) off= .sl .own (l'.map r'.enc)) :
 ∃ u,Uj h none (.ptr b (i*r.w+off))=some u∧MS h ω hd (p++[i*r.w+off]) r' l' u ∧
   ∀ (h':Ac) (l'':List r'.D) (y:r.D),Only (II ω hd (p++[i*r.w+off])) h h'→MS h' ω hd (p++[i*r.w+off]) r' l'' u→r.enc y=An (r.enc x) off [.sl .own (l''.map r'.enc)]→Only (II ω hd p) h h'∧MS h' ω hd p r (l.set i y) (.slice b 0 n):=by
 obtain⟨u,e1,e2,bk,e3,e4⟩:=M.load (i:=i) (off:=off) (by simpa using hi) hoff (r':=r') (l':=l') (by rw[Pb hi];exact hx)
 refine⟨u,e1,e2,fun h' l'' y hO hM hy=>?_⟩
 obtain⟨k1,k2⟩:=M.sub (i:=i) (off:=off) (by simpa using hi) hoff e3 e4 hO hM (y:=y) (by rw[Pb hi];exact hy)
 rw[List.set_set] at k2
 exact⟨k1,k2⟩
theorem RC.flat1{H:Ac}{m:Md}{x u:V}(r:RC H ω m (.fl x) u)(hx:x≠.undef):u=x:=by
 cases r with
 |undef=>exact absurd rfl hx
 |v=>rfl
end
def SlC(s:A7)(r:RT):Prop:=∀ (h:Ac) (ω:Nat→W) (hd:Hd) (p:List Nat) (l:List r.D) (u:V) (m:Int) (Q:V→Ac→Prop),CT.wl (.sl r) l→(∀ l l' a q,ω l= .own a q→ω l'= .own a q→l=l')→MS h ω hd p r l u →
 (∀ h',Only (II ω hd p) h h'→MS h' ω hd p r (Ka r.mkI l m).1 u→Q (.int .i64 (Ka r.mkI l m).2) h')→s [u,.int .i64 m] h Q
def gG(r:RT):DMk:=⟨.one (.sl r),false,fun l=>CT.wl (.sl r) l,fun l m=>Ka r.mkI l m,false⟩
theorem SlC.sound{s:A7}{r:RT}(hs:SlC s r):Rm s (gG r).P:=by
 rintro h ω hd P b AJ us u m K Q hinj hu hl hr ⟨x,rfl,hok,hK⟩ hQ;have hu:us=[u]:=hu;subst hu;have h0:=hr 0 (by show 0<1;omega)
 refine hs h ω hd (P++[b]) x u m Q hok hinj h0 fun h' hO hM=>?_
 refine hQ _ _ h' hK rfl (hO.mono fun l ⟨q,e⟩=>⟨0,_,q,by show 0<1;omega,rfl,by rw[e];simp⟩) fun c hc=>?_
 have:c=0:=by have:c<1:=hc;omega
 subst this;exact hM
structure Fn where
 d:DFun
 h:List HT
 q:QT
@[irreducible] def Fn.S(F:Fn):A7:=JJ F.d.er.er
@[irreducible] def Fn.P(F:Fn):BU:=Ic F.d.er
@[irreducible] def Fn.V(F:Fn)(x:TuX F.h):F.q.D:=(shut fun x=>Fc F.d F.h F.q x).1 x
@[irreducible] def Fn.O(F:Fn)(x:TuX F.h):Prop:=(shut fun x=>Fa F.d F.h F.q x).1 x
def Fn.D(F:Fn):E8:=Gz F.h F.q F.O F.V
theorem Fn.v(F:Fn)(x:TuX F.h):F.V x=Fc F.d F.h F.q x:=by unfold Fn.V;exact congrFun (shut _).2 x
theorem Fn.o(F:Fn)(x:TuX F.h):F.O x=Fa F.d F.h F.q x:=by unfold Fn.O;exact congrFun (shut _).2 x
def Fn.A(F:Fn):Prop:=Hg F.S F.P
def Fn.B(F:Fn):Prop:=Iy F.P F.D
theorem B9{F:Fn}(o:AllP F.d.er.body.obs):F.A:=by unfold Fn.A Fn.S Fn.P;exact SW o
theorem Cg{F:Fn}(o:AllD F.d.body.obs)(st:J2 F.d F.h F.q=true)(c:∀ x,JZ F.d F.h F.q x=true):F.B:=by
 unfold Fn.B Fn.P;exact Tw o st c (fun x h=>Eq.mp (F.o x) h) (fun x=>(F.v x).symm)
@[reducible] def oF (i d:Nat) (F:Fn) (args:List Opnd):DOper:=⟨i,some d,.call false F.S F.P F.D args,none,[]⟩
@[reducible] def xF (i d:Nat) (F:Fn) (args:List Opnd) (a:List Nat):DOper:=⟨i,some d,.call false F.S F.P F.D args,none,a⟩
theorem lF{P:Program}(hm:P.follows .mixedOrders=true){F:Fn}{f:FuncId}{fn:Func}{obs:List (FuncId×A7)}(hf:P.funcs[f]?=some fn)(hk:Oz P fn F.d.er.er=true)(ho:OA P fn F.d.er.er=obs)(hob:AllSound P obs):AQ P f F.S:=by
 unfold Fn.S;exact YE hm hf hk ho hob
section
set_option maxRecDepth 8000
def YB:DCode:=(.seq [2,1,0] (.region [oa 0 6 (.mv (.c (.bool false)))]) (.seq [6] (.region [om 0 7 0,om 1 8 1,oa 2 9 (.bin .geq (.t 7) (.t 8)),om 3 10 9,og 4 11 (.mv (.t 0)) 10 true,og 5 12 (.mv (.t 2)) 10 true,og 6 13 (.bin .leq (.t 11) (.t 12)) 10 true,oa 7 14 (.pick (.t 10) (.t 13) (.c (.bool false))),om 8 6 14]) .ret))
def CH:Fn:=⟨⟨3,15,0,true,[.tmp 6],YB⟩,[.one .frz (.int .i64),.one .frz (.int .i64),.one .frz (.int .i64)],.one (.one .own (.bool))⟩
theorem MH:CH.A:=B9 trivial
def Dd:Int×Int×Int→Bool:=CH.V
def HP:Int×Int×Int→Prop:=CH.O
theorem MI:CH.B:=Cg trivial (by kernel_rfl) (fun x=>by kernel_rfl)
def XP:DCode:=(.seq [0] (.region [oa 0 2 (.mv (.c (.bool false)))]) (.seq [2] (.region [om 0 3 0,oa 1 4 (.bin .geq (.t 3) (.c (.int .i64 1))),om 2 5 4,og 3 6 (.mv (.t 0)) 5 true,og 4 7 (.bin .leq (.t 6) (.c (.int .i64 56))) 5 true,oa 5 8 (.pick (.t 5) (.t 7) (.c (.bool false))),om 6 2 8]) .ret))
def Ga:Fn:=⟨⟨1,9,0,true,[.tmp 2],XP⟩,[.one .frz (.int .i64)],.one (.one .own (.bool))⟩
theorem XO:Ga.A:=B9 trivial
def I8:Int→Bool:=Ga.V
def MA:Int→Prop:=Ga.O
theorem XK:Ga.B:=Cg trivial (by kernel_rfl) (fun x=>by kernel_rfl)
end
section
set_option maxRecDepth 8000
def Y6:DCode:=(.seq [1,0] (.region [oi 0 4 0]) (.seq [4] (.region [om 0 5 0,om 1 6 1,oa 2 7 (.bin .shr (.t 5) (.t 6)),oa 3 8 (.bin .and (.t 7) (.c (.int .i64 1))),om 4 4 8]) .ret))
def Gd:Fn:=⟨⟨2,9,0,true,[.tmp 4],Y6⟩,[.one .frz (.int .i64),.one .frz (.int .i64)],.one (.one .own (.int .i64))⟩
theorem Zc:Gd.A:=B9 trivial
def KF:Int×Int→Int:=Gd.V
def O9:Int×Int→Prop:=Gd.O
theorem Y0:Gd.B:=Cg trivial (by kernel_rfl) (fun x=>by kernel_rfl)
end
section
set_option maxRecDepth 8000
def XS:DCode:=(.seq [1,0] (.region [oi 0 4 0]) (.seq [1] (.region [om 0 5 1,on 1 6 0,oa 2 7 (.len (.t 6)),oa 3 8 (.bin .sub (.t 5) (.t 7)),om 4 1 8]) (.seq [1] (.seq [10,1] (.region [om 0 9 1,oa 1 10 (.bin .lss (.t 9) (.c (.int .i64 0)))]) (.cond (.t 10) (.seq [4] (.region [oi 0 4 (-1)]) .ret) .skip)) (.seq [4] (.region [om 0 11 1,om 1 4 11]) .ret))))
def F9:Fn:=⟨⟨2,12,0,true,[.tmp 4],XS⟩,[.one .frz (.sl (.one (.int .i64))),.one .frz (.int .i64)],.one (.one .own (.int .i64))⟩
theorem XT:F9.A:=B9 trivial
def GQ:List (Int)×Int→Int:=F9.V
def My:List (Int)×Int→Prop:=F9.O
theorem XR:F9.B:=Cg trivial (by kernel_rfl) (fun x=>by kernel_rfl)
def Xa:DCode:=(.seq [2,1] (.region [oa 0 2 (.boxB 0 2 (.t 0)),oi 1 4 0]) (.seq [1] (.region [oa 0 5 (.fieldA 1 (.t 2)),oa 1 6 (.loadB 0 none (.t 5)),om 2 7 1,oF 3 8 F9 [(.t 6),(.t 7)],om 4 1 8]) (.seq [1] (.seq [10,1] (.region [om 0 9 1,oa 1 10 (.bin .lss (.t 9) (.c (.int .i64 0)))]) (.cond (.t 10) (.seq [4] (.region [oi 0 4 (-1)]) .ret) .skip)) (.seq [4] (.region [om 0 11 1,om 1 4 11]) .ret))))
def F4:Fn:=⟨⟨2,12,1,true,[.tmp 4],Xa⟩,[.agg [(.frz,.int .i64),(.frz,.sl (.one (.int .i64)))],.one .frz (.int .i64)],.one (.one .own (.int .i64))⟩
theorem WY:F4.A:=B9 ⟨XT,trivial⟩
def Fh:(Int×List (Int))×Int→Int:=F4.V
def Mn:(Int×List (Int))×Int→Prop:=F4.O
theorem Xn:F4.B:=Cg ⟨XR,trivial⟩ (by kernel_rfl) (fun x=>by kernel_rfl)
def XZ:DCode:=(.seq [0] (.region [oa 0 2 (.mv (.c .nils))]) (.seq [3,0] (.region [on 0 5 0,oa 1 6 (.len (.t 5)),⟨2,some 7,.a false (.mkSlice 1 [(.int .i64 0)] (.t 6)) (some (.one (.int .i64))),none,[]⟩,om 3 3 7]) (.seq [3] (.seq [4,3,0] (.region [oi 0 4 0]) (.block 0 (.loop [0,3,4] 1 (.seq [4,3,0] (.seq [11,4,3,0] (.region [om 0 8 4,on 1 9 0,oa 2 10 (.len (.t 9)),oa 3 11 (.bin .lss (.t 8) (.t 10))]) (.cond (.t 11) .skip (.exit 0))) (.seq [4,3,0] (.block 1 (.region [on 0 14 3,om 1 15 4,on 2 16 0,om 3 17 4,oa 4 18 (.indexA 1 (.t 16) (.t 17)),ob 5 19 (.loadH none (.t 18)),oa 6 20 (.indexA 1 (.t 14) (.t 15)),os 7 (.storeH 1 (.t 20) (.t 19))])) (.region [om 0 12 4,oa 1 13 (.bin .add (.t 12) (.c (.int .i64 1))),om 2 4 13])))))) (.seq [2] (.region [om 0 21 3,om 1 2 21]) .ret))))
def Gb:Fn:=⟨⟨1,22,0,false,[.tmp 2],XZ⟩,[.one .frz (.sl (.one (.int .i64)))],.one (.one .own (.sl (.one (.int .i64))))⟩
theorem XQ:Gb.A:=B9 trivial
def ME:List (Int)→List (Int):=Gb.V
def MB:List (Int)→Prop:=Gb.O
theorem XI:Gb.B:=Cg trivial (by kernel_rfl) (fun x=>by kernel_rfl)
def W3:DCode:=(.seq [2,1] (.region [oa 0 1 (.boxB 0 2 (.t 0)),oa 1 2 (.allocB 1 [(.int .i64 0),.nils])]) (.seq [3,2,1] (.region [oa 0 3 (.allocB 2 [(.int .i64 0),.nils])]) (.seq [3,2,1] (.region [oa 0 4 (.fieldA 0 (.t 1)),ob 1 5 (.loadB 0 none (.t 4)),oa 2 6 (.fieldA 0 (.t 3)),os 3 (.storeB 2 1 (.t 6) (.t 5))]) (.seq [3,2] (.region [oa 0 7 (.fieldA 1 (.t 1)),oa 1 8 (.loadB 0 none (.t 7)),oF 2 9 Gb [(.t 8)],oa 3 10 (.fieldA 1 (.t 3)),os 4 (.storeB 2 1 (.t 10) (.t 9))]) (.seq [2] (.region [ob 0 11 (.loadB 2 (some 2) (.t 3)),os 1 (.storeB 1 2 (.t 2) (.t 11))]) .ret)))))
def DK:Fn:=⟨⟨1,12,3,false,[.cell 2 (some 2)],W3⟩,[.agg [(.frz,.int .i64),(.frz,.sl (.one (.int .i64)))]],.one (.agg [(.own,.int .i64),(.own,.sl (.one (.int .i64)))])⟩
theorem OT:DK.A:=B9 ⟨XQ,trivial⟩
def Dc:Int×List (Int)→Int×List (Int):=DK.V
def I3:Int×List (Int)→Prop:=DK.O
theorem OS:DK.B:=Cg ⟨XI,trivial⟩ (by kernel_rfl) (fun x=>by kernel_rfl)
def XH:DCode:=(.seq [1,0] (.region [oa 0 4 (.mv (.c (.bool false)))]) (.seq [1,0] (.seq [10,1,0] (.region [on 0 6 0,oa 1 7 (.len (.t 6)),on 2 8 1,oa 3 9 (.len (.t 8)),oa 4 10 (.bin .neq (.t 7) (.t 9))]) (.cond (.t 10) (.seq [4] (.region [oa 0 4 (.mv (.c (.bool false)))]) .ret) .skip)) (.seq [] (.seq [5,1,0] (.region [oi 0 5 0]) (.block 0 (.loop [0,1,5] 1 (.seq [5,1,0] (.seq [14,5,1,0] (.region [om 0 11 5,on 1 12 0,oa 2 13 (.len (.t 12)),oa 3 14 (.bin .lss (.t 11) (.t 13))]) (.cond (.t 14) .skip (.exit 0))) (.seq [5,1,0] (.block 1 (.seq [25,5,1,0] (.region [on 0 17 0,om 1 18 5,xA 2 19 (.indexA 1 (.t 17) (.t 18)) (rg 2),xA 3 20 (.loadH none (.t 19)) (rg 3),on 4 21 1,om 5 22 5,xA 6 23 (.indexA 1 (.t 21) (.t 22)) [4,5],xA 7 24 (.loadH none (.t 23)) [4,5,6],xA 8 25 (.bin .neq (.t 20) (.t 24)) (rg 8)]) (.cond (.t 25) (.seq [4] (.region [oa 0 4 (.mv (.c (.bool false)))]) .ret) .skip))) (.region [om 0 15 5,oa 1 16 (.bin .add (.t 15) (.c (.int .i64 1))),om 2 5 16])))))) (.seq [4] (.region [oa 0 4 (.mv (.c (.bool true)))]) .ret))))
def F8:Fn:=⟨⟨2,26,0,true,[.tmp 4],XH⟩,[.one .frz (.sl (.one (.int .i64))),.one .frz (.sl (.one (.int .i64)))],.one (.one .own (.bool))⟩
theorem XX:F8.A:=B9 trivial
def MC:List (Int)×List (Int)→Bool:=F8.V
def Mx:List (Int)×List (Int)→Prop:=F8.O
theorem X5:F8.B:=Cg trivial (by kernel_rfl) (fun x=>by kernel_rfl)
def WR:DCode:=(.seq [3,2] (.region [oa 0 2 (.boxB 0 2 (.t 0)),oa 1 3 (.boxB 1 2 (.t 1)),oa 2 4 (.mv (.c (.bool false)))]) (.seq [3,2] (.seq [9,3,2] (.region [oa 0 5 (.fieldA 0 (.t 2)),oa 1 6 (.loadB 0 none (.t 5)),oa 2 7 (.fieldA 0 (.t 3)),oa 3 8 (.loadB 1 none (.t 7)),oa 4 9 (.bin .neq (.t 6) (.t 8))]) (.cond (.t 9) (.seq [4] (.region [oa 0 4 (.mv (.c (.bool false)))]) .ret) .skip)) (.seq [] (.seq [15] (.region [oa 0 10 (.fieldA 1 (.t 2)),oa 1 11 (.loadB 0 none (.t 10)),oa 2 12 (.fieldA 1 (.t 3)),oa 3 13 (.loadB 1 none (.t 12)),oF 4 14 F8 [(.t 11),(.t 13)],oa 5 15 (.un .not (.t 14))]) (.cond (.t 15) (.seq [4] (.region [oa 0 4 (.mv (.c (.bool false)))]) .ret) .skip)) (.seq [4] (.region [oa 0 4 (.mv (.c (.bool true)))]) .ret))))
def F1:Fn:=⟨⟨2,16,2,true,[.tmp 4],WR⟩,[.agg [(.frz,.int .i64),(.frz,.sl (.one (.int .i64)))],.agg [(.frz,.int .i64),(.frz,.sl (.one (.int .i64)))]],.one (.one .own (.bool))⟩
theorem W6:F1.A:=B9 ⟨XX,trivial⟩
def Mw:(Int×List (Int))×(Int×List (Int))→Bool:=F1.V
def Mt:(Int×List (Int))×(Int×List (Int))→Prop:=F1.O
theorem Xj:F1.B:=Cg ⟨X5,trivial⟩ (by kernel_rfl) (fun x=>by kernel_rfl)
end
section
set_option maxRecDepth 8000
def Xm:DCode:=(.seq [1] (.region [oa 0 1 (.boxB 0 2 (.t 0)),oa 1 2 (.mv (.c (.bool false)))]) (.seq [1] (.seq [3,1] (.region [oi 0 3 0]) (.block 0 (.loop [1,3] 1 (.seq [3,1] (.seq [8,3,1] (.region [om 0 4 3,oa 1 5 (.fieldA 1 (.t 1)),oa 2 6 (.loadB 0 none (.t 5)),oa 3 7 (.len (.t 6)),oa 4 8 (.bin .lss (.t 4) (.t 7))]) (.cond (.t 8) .skip (.exit 0))) (.seq [3,1] (.block 1 (.seq [35,3,1] (.region [oa 0 11 (.fieldA 1 (.t 1)),xA 1 12 (.loadB 0 none (.t 11)) (rg 1),om 2 13 3,xA 3 14 (.indexA 1 (.t 12) (.t 13)) (rg 3),xA 4 15 (.loadH none (.t 14)) (rg 4),xF 5 16 CH [(.t 15),(.c (.int .i64 1)),(.c (.int .i64 56))] (rg 5),xA 6 17 (.un .not (.t 16)) (rg 6),xA 7 18 (.mv (.t 17)) (rg 7),⟨8,some 19,.a false (.mv (.t 3)) none,(some (18,false)),[0,1,2,3,4,5,6,7]⟩,⟨9,some 20,.a false (.bin .gtr (.t 19) (.c (.int .i64 0))) none,(some (18,false)),[0,1,2,3,4,5,6,7,8]⟩,⟨10,some 21,.a false (.mv (.t 20)) none,(some (18,false)),[0,1,2,3,4,5,6,7,8,9]⟩,⟨11,some 22,.a false (.fieldA 1 (.t 1)) none,(some (21,true)),[0,1,2,3,4,5,6,7,8,9,10]⟩,⟨12,some 23,.a false (.loadB 0 none (.t 22)) none,(some (21,true)),[0,1,2,3,4,5,6,7,8,9,10,11]⟩,⟨13,some 24,.a false (.mv (.t 3)) none,(some (21,true)),[0,1,2,3,4,5,6,7,8,9,10]⟩,⟨14,some 25,.a false (.bin .sub (.t 24) (.c (.int .i64 1))) none,(some (21,true)),[0,1,2,3,4,5,6,7,8,9,10,13]⟩,⟨15,some 26,.a false (.indexA 1 (.t 23) (.t 25)) none,(some (21,true)),[0,1,2,3,4,5,6,7,8,9,10,11,12,13,14]⟩,⟨16,some 27,.a false (.loadH none (.t 26)) none,(some (21,true)),[0,1,2,3,4,5,6,7,8,9,10,11,12,13,14,15]⟩,⟨17,some 28,.a false (.fieldA 1 (.t 1)) none,(some (21,true)),[0,1,2,3,4,5,6,7,8,9,10]⟩,⟨18,some 29,.a false (.loadB 0 none (.t 28)) none,(some (21,true)),[0,1,2,3,4,5,6,7,8,9,10,17]⟩,⟨19,some 30,.a false (.mv (.t 3)) none,(some (21,true)),[0,1,2,3,4,5,6,7,8,9,10]⟩,⟨20,some 31,.a false (.indexA 1 (.t 29) (.t 30)) none,(some (21,true)),[0,1,2,3,4,5,6,7,8,9,10,17,18,19]⟩,⟨21,some 32,.a false (.loadH none (.t 31)) none,(some (21,true)),[0,1,2,3,4,5,6,7,8,9,10,17,18,19,20]⟩,⟨22,some 33,.a false (.bin .geq (.t 27) (.t 32)) none,(some (21,true)),[0,1,2,3,4,5,6,7,8,9,10,11,12,13,14,15,16,17,18,19,20,21]⟩,⟨23,some 34,.a false (.pick (.t 21) (.t 33) (.c (.bool false))) none,(some (18,false)),[0,1,2,3,4,5,6,7,8,9,10,11,12,13,14,15,16,17,18,19,20,21,22]⟩,xA 24 35 (.pick (.t 18) (.c (.bool true)) (.t 34)) (rg 24)]) (.cond (.t 35) (.seq [2] (.region [oa 0 2 (.mv (.c (.bool false)))]) .ret) .skip))) (.region [om 0 9 3,oa 1 10 (.bin .add (.t 9) (.c (.int .i64 1))),om 2 3 10])))))) (.seq [2] (.region [oa 0 36 (.fieldA 0 (.t 1)),oa 1 37 (.loadB 0 none (.t 36)),oF 2 38 CH [(.t 37),(.c (.int .i64 0)),(.c (.int .i64 15))],om 3 2 38]) .ret)))
def F5:Fn:=⟨⟨1,39,1,true,[.tmp 2],Xm⟩,[.agg [(.frz,.int .i64),(.frz,.sl (.one (.int .i64)))]],.one (.one .own (.bool))⟩
theorem WS:F5.A:=B9 ⟨MH,MH,trivial⟩
def FY:Int×List (Int)→Bool:=F5.V
def Kk:Int×List (Int)→Prop:=F5.O
theorem W4:F5.B:=Cg ⟨MI,MI,trivial⟩ (by kernel_rfl) (fun x=>by kernel_rfl)
def WW:DCode:=(.seq [1] (.region [oa 0 1 (.boxB 0 2 (.t 0)),oa 1 2 (.mv (.c (.bool false)))]) (.seq [1] (.seq [12,1] (.region [oa 0 5 (.fieldA 0 (.t 1)),oa 1 6 (.loadB 0 none (.t 5)),oa 2 7 (.bin .lss (.t 6) (.c (.int .i64 0))),om 3 8 7,og 4 9 (.fieldA 0 (.t 1)) 8 false,og 5 10 (.loadB 0 none (.t 9)) 8 false,og 6 11 (.bin .gtr (.t 10) (.c (.int .i64 15))) 8 false,oa 7 12 (.pick (.t 8) (.c (.bool true)) (.t 11))]) (.cond (.t 12) (.seq [2] (.region [oa 0 2 (.mv (.c (.bool false)))]) .ret) .skip)) (.seq [] (.seq [16,15,14,1] (.region [oa 0 13 (.fieldA 1 (.t 1)),oa 1 14 (.loadB 0 none (.t 13)),oa 2 15 (.len (.t 14)),oi 3 16 0]) (.block 0 (.loop [1,14,15,16] 1 (.seq [17,16,15,14,1] (.region [oa 0 17 (.bin .lss (.t 16) (.t 15))]) (.seq [16,15,14,1] (.cond (.t 17) .skip (.exit 0)) (.seq [16,15,14,1] (.block 1 (.seq [16,15,14,4,3,1] (.region [om 0 18 16,oa 1 19 (.indexA 1 (.t 14) (.t 16)),oa 2 20 (.loadH none (.t 19)),om 3 3 18,om 4 4 20]) (.seq [37,16,15,14,1] (.region [om 0 21 4,oF 1 22 Ga [(.t 21)],oa 2 23 (.un .not (.t 22)),om 3 24 23,og 4 25 (.mv (.t 3)) 24 false,og 5 26 (.bin .gtr (.t 25) (.c (.int .i64 0))) 24 false,og 6 27 (.mv (.t 26)) 24 false,og 7 28 (.fieldA 1 (.t 1)) 27 true,og 8 29 (.loadB 0 none (.t 28)) 27 true,og 9 30 (.mv (.t 3)) 27 true,og 10 31 (.bin .sub (.t 30) (.c (.int .i64 1))) 27 true,og 11 32 (.indexA 1 (.t 29) (.t 31)) 27 true,og 12 33 (.loadH none (.t 32)) 27 true,og 13 34 (.mv (.t 4)) 27 true,og 14 35 (.bin .geq (.t 33) (.t 34)) 27 true,og 15 36 (.pick (.t 27) (.t 35) (.c (.bool false))) 24 false,oa 16 37 (.pick (.t 24) (.c (.bool true)) (.t 36))]) (.cond (.t 37) (.seq [2] (.region [oa 0 2 (.mv (.c (.bool false)))]) .ret) .skip)))) (.region [oa 0 38 (.bin .add (.t 16) (.c (.int .i64 1))),om 1 16 38]))))))) (.seq [2] (.region [oa 0 2 (.mv (.c (.bool true)))]) .ret))))
def FZ:Fn:=⟨⟨1,39,1,true,[.tmp 2],WW⟩,[.agg [(.frz,.int .i64),(.frz,.sl (.one (.int .i64)))]],.one (.one .own (.bool))⟩
theorem WA:FZ.A:=B9 ⟨XO,trivial⟩
def HN:Int×List (Int)→Bool:=FZ.V
def Kl:Int×List (Int)→Prop:=FZ.O
theorem Xl:FZ.B:=Cg ⟨XK,trivial⟩ (by kernel_rfl) (fun x=>by kernel_rfl)
end
open Go.RowKit
theorem HRel.below{ι:Am}{σ:Ac}{w w':World}(H:HRel ι σ w)(B:Below w.heap.size w w'):HRel ι σ w':=by
 have far:∀ (j:Nat) (b:Blk),σ[j]?=some b→b.k≠.dead→w'.heap[(ι j).b]?=w.heap[(ι j).b]?:=fun j b hj hbk=>B.block _ (H.there j b hj hbk)
 refine⟨fun l blk h hd i v hv=>?_,fun l blk h hk=>?_,H.apart,fun l blk h hd=>Gt (H.there l blk h hd) B.size⟩
 · obtain⟨c,x,hx,hr⟩:=H.cells l blk h hd i v hv;exact⟨c,x,by rw[NK (w:=w) (far l blk h hd)];exact hx,hr⟩
 · obtain⟨g1,g2,arr,e,g3,g4⟩:=H.own l blk h hk;exact⟨g1,g2,arr,e,by rw[far l blk h (by rw[hk];decide)];exact g3,g4⟩
theorem Step.below{ι:Am}{σ:Ac}{w w':World}(B:Below w.heap.size w w'):Step ι σ w ι σ w':=
 { Step.refl ι σ w with frame:=fun b hb _=>B.block b hb,size:=B.size,os:=B.os,output:=B.output,tape:=B.tape }
def Bz(xs:List (List UInt8))(sep:List UInt8):List UInt8:=sep.intercalate xs
def Ks:A7:=fun args h Q=>∃ (u:V) (sep:List UInt8) (xs:List (List UInt8)),args=[u,.str sep]∧xs.length≤140737488355328∧(Bz xs sep).length≤140737488355328 ∧
 ((xs=[]∧(u= .nils∨∃ l o,u= .slice l o 0))∨∃ (l o:Nat) (b:Blk),u= .slice l o xs.length∧0<xs.length∧h[l]?=some b∧b.k≠.dead∧∀ (k:Nat) x,xs[k]?=some x→b.cs[o+k]?=some (.str x))∧Q (.str (Bz xs sep)) h
def cg(P:Program)(g:FuncId):Prop:=
 (∀ (bk o c:Nat) (xs:List ByteArray) (sep:ByteArray) (w:World),(∀ (j:Nat) x,xs[j]?=some x→w.cell? ⟨bk,o+j,none⟩=some (.string x))→bk<w.heap.size→xs.length≤140737488355328→xs.length≤c→(Lib.join (xs.map (·.data.toList)) sep.data.toList).length≤140737488355328 →
  Calls P g #[.slice (some ⟨bk,o,none⟩) xs.length c,.string sep] w fun e w'=>e= .returned (.string ⟨(Lib.join (xs.map (·.data.toList)) sep.data.toList).toArray⟩)∧Below w.heap.size w w') ∧
 ∀ (a:Option Addr) (c:Nat) (sep:ByteArray) (w:World),Calls P g #[.slice a 0 c,.string sep] w fun e w'=>e= .returned (.string ⟨#[]⟩)∧w'=w
theorem Zp{P:Program}{g:FuncId}(hs:cg P g):AQ P g Ks:=by
 rintro Φ ι σ w args xs Q hΦ H hargs ⟨u,sep,ss,rfl,hn,hlen,hu,hQ⟩;have hl:=hargs.1
 match xs,hl with
 | [x, y], _=>
   have hy:=Fp (hargs.2 1 _ _ rfl rfl (fun _=>0));have hx:=hargs.2 0 _ _ rfl rfl (fun _=>0);subst hy;rcases hu with⟨rfl,hu⟩|⟨l,o,b,rfl,hpos,hb,hk,hc⟩
   · have key:∃ a c,x= .slice a 0 c:=by
      rcases hu with rfl|⟨l,o,rfl⟩
      · obtain⟨a,rfl⟩:=Jm hx;exact⟨a,0,rfl⟩
      · obtain⟨_,_,⟨c,rfl,_⟩|⟨_,a,rfl⟩⟩:=Dx hx
        · exact⟨_,c,rfl⟩
        · exact⟨a,0,rfl⟩
     obtain⟨a,c,rfl⟩:=key;refine(hs.2 a c ⟨sep.toArray⟩ w).mono ?_;rintro e w' ⟨rfl,rfl⟩;exact⟨_,.str (Bz [] sep),σ,ι,rfl,hQ,hΦ,fun β=>.str _,H,.refl _ _ _⟩
   · have hl:Φ l=none:=(Qn hx).1 l o _ rfl
     have hb':(kill Φ σ)[l]?=some b:=by rw[Jz hl];exact hb
     obtain⟨b1,g1,hc1⟩:=Dx hx;rw[hb'] at g1;cases g1;rcases hc1 with⟨c,rfl,c1,c2⟩|⟨h0,_⟩
     · have hbs:∀ (s:List UInt8),(ByteArray.mk s.toArray).data.toList=s:=fun s=>by simp
       have e1:(ss.map fun s=>ByteArray.mk s.toArray).map (·.data.toList)=ss:=by
        rw[List.map_map];simp[Function.comp_def]
       have hcall:=hs.1 (ι l).b ((ι l).o+o) c (ss.map fun s=>ByteArray.mk s.toArray) ⟨sep.toArray⟩ w (fun j x hx=>by
        rw[Eu] at hx
        cases hj:ss[j]? with
        |none=>rw[hj] at hx;cases hx
        | some s=>
          rw[hj] at hx;cases hx;obtain⟨_,z,q1,q2⟩:=H.cells l b hb' hk (o+j) _ (hc j s hj)
          rw[JL,q1,Fp (q2 (fun _=>0))]) (H.there l b hb' hk) (by simpa using hn) (by simpa using c1) (by rw[e1,hbs];exact hlen)
       rw[A3,e1,hbs] at hcall;refine hcall.mono ?_;rintro e w' ⟨rfl,B⟩;exact⟨_,.str (Bz ss sep),σ,ι,rfl,hQ,hΦ,fun β=>.str _,H.below B,Step.below B⟩
     · omega
def B0:List UInt8:=[97,32,98,32,99,32,100,32,101,32,102,32,103,32,104,32,105,32,106,32,107,32,108,32,109,32,110,32,111,32,112,32,113,32,114,32,115,32,116,32,117,32,118,32,119,32,120,32,121,32,122,32,49,32,50,32,51,32,52,32,53,32,54,32,55,32,56,32,57,32,48,32,101,110,116,101,114,32,101,115,99,32,98,97,99,107,32,116,97,98,32,115,112,97,99,101,32,109,105,110,117,115,32,101,113,117,97,108,32,108,101,102,116,32,114,105,103,104,116,32,117,112,32,100,111,119,110,32,102,49,32,102,50,32,102,51,32,102,52,32,102,53,32,102,54,32,102,55,32,102,56,32,102,57]
def BF:List (List UInt8):=[[97],[98],[99],[100],[101],[102],[103],[104],[105],[106],[107],[108],[109],[110],[111],[112],[113],[114],[115],[116],[117],[118],[119],[120],[121],[122],[49],[50],[51],[52],[53],[54],[55],[56],[57],[48],[101,110,116,101,114],[101,115,99],[98,97,99,107],[116,97,98],[115,112,97,99,101],[109,105,110,117,115],[101,113,117,97,108],[108,101,102,116],[114,105,103,104,116],[117,112],[100,111,119,110],[102,49],[102,50],[102,51],[102,52],[102,53],[102,54],[102,55],[102,56],[102,57]]
def I4:A7:=fun args h Q=>args=[.str B0,.str [32]]∧Q (.slice h.length 0 56) (h++[⟨.own,1,BF.map .str⟩])
def Td(P:Program)(g:FuncId):Prop:=∀ (w:World),Calls P g #[.string ⟨B0.toArray⟩,.string ⟨#[32]⟩] w fun e w'=>∃ T,e= .returned (.slice (some ⟨w.heap.size,0,none⟩) 56 56)∧w'=w.alloc (.cells (BF.map fun s=>Value.string ⟨s.toArray⟩).toArray T)
theorem Y4{P:Program}{g:FuncId}(hs:Td P g):AQ P g I4:=by
 rintro Φ ι σ w args xs Q hΦ H hargs ⟨rfl,hQ⟩;have hl:=hargs.1
 match xs,hl with
 | [x, y],_=>
   have hx:=Fp (hargs.2 0 _ _ rfl rfl (fun _=>0));have hy:=Fp (hargs.2 1 _ _ rfl rfl (fun _=>0));subst hx;subst hy;refine(hs w).mono ?_;rintro e w' ⟨T,rfl,rfl⟩
   have hcl:RelCells ι (kill Φ σ) (BF.map .str) (BF.map fun s=>Value.string ⟨s.toArray⟩).toArray.toList:=by
    refine⟨by simp,fun i v hv=>?_⟩;rw[Eu] at hv
    cases hi:BF[i]? with
    |none=>rw[hi] at hv;cases hv
    | some s=>
      rw[hi] at hv;cases hv;exact⟨rfl,.string ⟨s.toArray⟩,by simp[hi],fun β=>.str s⟩
   have B:BRel ι (kill Φ σ) (fun _=>0) [] w w:=⟨fun i cs h=>by simp at h,fun i cs h=>by simp at h,fun i j cs ds _ h=>by simp at h,fun i cs l blk h=>by simp at h⟩;have S:SRel ι (kill Φ σ) (fun _=>0) [] #[]:=⟨AK _,fun i=>by rw[show get [] i=V.undef from rfl];exact Rel.undef _⟩;obtain⟨g1,_,_,g2⟩:=Ju H B S (BF.map fun s=>Value.string ⟨s.toArray⟩).toArray T 1 (BF.map .str) hcl;rw[← Gh hΦ] at g1 g2;refine⟨_,.slice σ.length 0 56,_,_,rfl,hQ,hΦ.push _,fun β=>?_,g1,g2⟩;have hlen:(kill Φ σ).length=σ.length:=Cm Φ σ;rw[Gh hΦ];have:=Rel.slice (ι:=upd ι (kill Φ σ).length ⟨w.heap.size,0,(BF.map fun s=>Value.string ⟨s.toArray⟩).toArray.size⟩) (σ:=kill Φ σ++[⟨.own,1,BF.map .str⟩]) (β:=β) σ.length 0 56 56 ⟨.own,1,BF.map .str⟩ (by rw[← hlen];simp) (by decide) (by rw[← hlen,Bj];simp[show BF.length=56 from rfl]) (by decide);rw[← hlen,Bj] at this;rw[← hlen];simpa using this
section
set_option maxRecDepth 8000
def pL(hs:List HT)(q:QT)(ok:TuX hs→Prop)(v:TuX hs→q.D):BU:=fun args H Q=>∃ x:TuX hs,DV.encL (C9 hs x)=args∧ok x∧Q (q.dv (v x)).enc H
theorem bJ(hs:List HT)(q:QT)(ok:TuX hs→Prop)(v:TuX hs→q.D):Iy (pL hs q ok v) (Gz hs q ok v):=by
 intro args g w Q h hg hQ;unfold Gz at h
 cases hx:ED hs args with
 |none=>rw[hx] at h;cases h
 | some x=>
   rw[hx] at h;simp only[Ah,Ak] at h;obtain⟨rfl,rfl⟩:=h;exact⟨x,LU hx,hg,hQ []⟩
theorem eG{h h0:Ac}{ω0 ω:Nat→W}{ρ:Nat→Nat}{args:List PV}{us:List V}{H:List (List PV)}(R:RS h0 ω0 ω ρ ⟨args,[],H⟩ ⟨us,[],h⟩ X0)(x:V)(hx:x.flat=true):RS h0 ω0 ω ρ ⟨[],[],H⟩ ⟨[],[],h⟩ (X1 (.fl x) x):=by
 have e:∀ p:List Nat,((PV.fl x).fcell p= .fl .undef)∨((PV.fl x).fcell p= .fl x∧x.fcell p=x):=by
  intro p
  match p with
  |[]=>exact .inl rfl
  |[0]=>right;cases x<;>first|exact⟨rfl,rfl⟩|cases hx
  |[n+1]=>exact .inl rfl
  |_::_::_=>exact .inl (by simp[PV.fcell])
 refine(R.forget).handx ?_ (fun p=>?_) (fun p i pb tp=>?_)
 · cases x<;>first|trivial|(refine⟨fun us h=>?_,fun us h=>?_⟩<;>cases h)|cases hx
 · rcases e p with e|⟨e1,e2⟩
   · rw[e];exact .undef _ _
   · rw[e1,e2];exact .v _ _ hx
 · rcases e p with e|⟨e1,e2⟩
   · rw[e];simp[PV.q]
   · rw[e1];simp[PV.q]
theorem eM(x:V):(PV.fl x).nob:=by
 intro p hb pb tp
 match p with
 |[]=>simp[PV.fcell,PV.q]
 |[0]=>simp[PV.fcell,PV.q]
 |[n+1]=>simp[PV.fcell,PV.q]
 |_::_::_=>simp[PV.fcell,PV.q]
theorem NR{h0:Ac}{ω0 ω:Nat→W}{ρ:Nat→Nat}{st:PS}{us:St}(R:RS h0 ω0 ω ρ st us X0)(t:Nat){v:PV}(hv:Aa st.sl t=v)(h1:∀ cs,v≠.agg cs)(h2:∀ vs,v≠.tup vs)(h3:v≠.fl .undef):RC us.hp ω (.at (.s t) [0]) v (get us.sl t):=by
 have r:RC us.hp ω (.at (.s t) [0]) ((Aa st.sl t).fcell [0]) ((get us.sl t).fcell [0]):=R.core.rc (.s t) [0];have sh:=R.sh t;rw[hv] at r sh
 have e1:v.fcell [0]=v:=by cases v<;>first|rfl|exact absurd rfl (h1 _)|exact absurd rfl (h2 _)
 have e2:(get us.sl t).fcell [0]=get us.sl t:=by
  have s1:(∀ us',get us.sl t≠.agg us')∧∀ us',get us.sl t≠.tup us':=by
   cases v with
   |agg cs=>exact absurd rfl (h1 _)
   |tup vs=>exact absurd rfl (h2 _)
   |fl x=>cases x<;>first|exact absurd rfl h3|exact sh
   |_=>exact sh
  generalize get us.sl t=u at s1
  cases u<;>first|rfl|exact absurd rfl (s1.1 _)|exact absurd rfl (s1.2 _)
 rw[e1,e2] at r;exact r
def IG(l:List (List UInt8)):List (List PV):=l.map fun s=>[.fl (.str s)]
theorem ZF(l:List (List UInt8)):(IG l).flatten=l.map fun s=>.fl (.str s):=by
 induction l with
 |nil=>rfl
 |cons n r ih=>simpa [IG] using ih
theorem aj{l:List (List UInt8)}{k:Nat}(h:k<l.length):Aa (IG l).flatten k= .fl (.str (l[k])):=by
 rw[ZF,CI,Eu,Au h];rfl
def RW:List HT:=[.one .frz (.sl (.one .str)),.one .frz .str]
def RX:QT:=.one (.one .own .str)
@[irreducible] def I6(x:List (List UInt8)×List UInt8):List UInt8:=(shut fun(x:List (List UInt8)×List UInt8)=>Bz x.1 x.2).1 x
@[irreducible] def I5(x:List (List UInt8)×List UInt8):Prop:=(shut fun(x:List (List UInt8)×List UInt8)=>x.1.length≤140737488355328∧(Bz x.1 x.2).length≤140737488355328).1 x
theorem RP (x):I6 x=Bz x.1 x.2:=by unfold I6;exact congrFun (shut _).2 x
theorem RR (x):I5 x=(x.1.length≤140737488355328∧(Bz x.1 x.2).length≤140737488355328):=by unfold I5;exact congrFun (shut _).2 x
def RV:E8:=Gz RW RX I5 I6
@[irreducible] def Kt:BU:=pL RW RX I5 I6
theorem Xu:Iy Kt RV:=by unfold Kt;exact bJ _ _ _ _
theorem XF:Hg Ks Kt:=by
 unfold Kt;rintro h ω0 ρ args us H Q K R hloc ⟨⟨(xs:List (List UInt8)),(sep:List UInt8)⟩,rfl,hok,hQ⟩ hK;have hlen:=R.lsl
 match us,hlen with
 | [u1,u2],_=>
   have c1:RC h ω0 (.at (.s 0) [0]) (.sl .frz (IG xs)) u1:=NR (us:=⟨[u1,u2],[],h⟩) R 0 rfl (by simp) (by simp) (by simp);have c2:RC h ω0 (.at (.s 1) [0]) (.fl (.str sep)) u2:=NR (us:=⟨[u1,u2],[],h⟩) R 1 rfl (by simp) (by simp) (by simp)
   have e2:u2= .str sep:=by cases c2;rfl
   subst e2;have hok:I5 (xs,sep):=hok;have hQ:Q (.fl (.str (I6 (xs,sep)))) H:=hQ;rw[RR] at hok;rw[RP] at hQ;refine⟨u1,sep,xs,rfl,hok.1,hok.2,?_,hK _ _ _ _ _ _ hQ (eG R _ rfl) (eM _)⟩;generalize hes:IG xs=es at c1
   have hxl:es.length=xs.length:=by rw[← hes];simp[IG]
   cases c1 with
   |nil=>exact .inl ⟨DE (by rw[← hxl];rfl),.inl rfl⟩
   | sl _ _ _ l o n b hb hk hc hne hn hw hle hr=>
     subst hes;rcases Lr xs.length with h0|h0
     · exact .inl ⟨DE h0,.inr ⟨l,o,by rw[hn,hxl,h0]⟩⟩
     · refine .inr ⟨l,o,b,by rw[hn,hxl],h0,hb,hk,fun k x hx=>?_⟩
       have hkl:k<xs.length:=by
        rcases A8 k xs.length with h|h
        · exact h
        · rw[AX h] at hx;cases hx
       have hbw:b.w=1:=by
        obtain⟨y,ys,rfl⟩:=List.exists_cons_of_length_pos h0;have:=hw [.fl (.str y)] (by simp[IG]);simpa using this.symm
       rw[hxl,hbw,Dp] at hle hr;have r:=hr k hkl;rw[aj hkl] at r;rw[Au hkl] at hx;cases hx
       have e:get b.cs (o+k)= .str (xs[k]):=by
        generalize get b.cs (o+k)=z at r
        cases r with
        |v=>rfl
       rw[BS,Au (show o+k<b.cs.length by omega)] at e;rw[Au (show o+k<b.cs.length by omega)];simpa using e
def Xd:DCode:=(.seq [2] (.region [⟨0,some 2,.a false (.litSlice 1 56 (BF.map fun _=>.str []) (BF.zipIdx.map fun x=>(x.2,1,.c (.str x.1)))) (some (.one .str)),none,[]⟩]) .ret)
def DJ:DFun:=⟨2,3,0,false,[.tmp 2],Xd⟩
theorem cx(Q:V→Ac→Prop)(h:Ac):JJ DJ.er.er [.str B0,.str [32]] h Q→I4 [.str B0,.str [32]] h Q:=by
 intro hs;refine⟨rfl,?_⟩
 have e:JJ DJ.er.er [.str B0,.str [32]] h Q=(2=2∧Q (.slice h.length 0 56) (h++[⟨.own,1,BF.map .str⟩])):=by kernel_rfl
 exact(e▸hs).2
def EI:List HT:=[.one .frz .str,.one .frz .str]
def EH:QT:=.one (.one .own (.sl (.one .str)))
@[irreducible] def GP(x:List UInt8×List UInt8):List (List UInt8):=(shut fun x=>Fc DJ EI EH x).1 x
@[irreducible] def HM(x:List UInt8×List UInt8):Prop:=(shut fun x=>(x.1=B0∧x.2=[32])∧Fa DJ EI EH x).1 x
theorem Wz (x):GP x=BF:=by unfold GP;exact(congrFun (shut _).2 x).trans (by kernel_rfl)
theorem Xf (x):HM x=((x.1=B0∧x.2=[32])∧True):=by unfold HM;exact(congrFun (shut _).2 x).trans (by kernel_rfl)
def OW:E8:=Gz EI EH HM GP
@[irreducible] def Ko:BU:=fun args H Q=>args=[.fl (.str B0),.fl (.str [32])]∧Ic DJ.er args H Q
theorem W7:Hg I4 Ko:=by
 unfold Ko;rintro h ω0 ρ args us H Q K R hloc ⟨rfl,hp⟩ hK;have hlen:=R.lsl
 match us,hlen with
 | [u1,u2],_=>
   have c1:RC h ω0 (.at (.s 0) [0]) (.fl (.str B0)) u1:=NR (us:=⟨[u1,u2],[],h⟩) R 0 rfl (by simp) (by simp) (by simp);have c2:RC h ω0 (.at (.s 1) [0]) (.fl (.str [32])) u2:=NR (us:=⟨[u1,u2],[],h⟩) R 1 rfl (by simp) (by simp) (by simp)
   have e1:u1= .str B0:=by cases c1;rfl
   have e2:u2= .str [32]:=by cases c2;rfl
   subst e1;subst e2;exact cx K h (SW (f:=DJ.er) trivial h ω0 ρ _ _ H Q K R hloc hp hK)
theorem Xk:Iy Ko OW:=by
 intro args g w Q h hg hQ;have h0:=h;unfold OW Gz at h
 cases hx:ED EI args with
 |none=>rw[hx] at h;cases h
 | some x=>
   rw[hx] at h;simp only[Ah,Ak] at h;obtain⟨rfl,rfl⟩:=h;have hg':HM x:=hg
   have ho:HM x=((x.1=B0∧x.2=[32])∧Fa DJ EI EH x):=by unfold HM;exact congrFun (shut _).2 x
   have hv:Fc DJ EI EH x=GP x:=by unfold GP;exact(congrFun (shut _).2 x).symm
   rw[ho] at hg';have hd:=Tw (f:=DJ) (hs:=EI) (q:=EH) trivial (by kernel_rfl) (fun x=>by kernel_rfl) (ok:=Fa DJ EI EH) (v:=Fc DJ EI EH) (fun _ h=>h) (fun _=>rfl);unfold Ko;refine⟨?_,hd args (.p (Fa DJ EI EH x)) (EH.dv (Fc DJ EI EH x)) Q (by unfold Gz;rw[hx]) hg'.2 fun H=>by rw[hv];exact hQ H⟩;obtain⟨⟨a,b⟩,_⟩:=hg';rw[← LU hx];obtain⟨x1,x2⟩:=x;have a:x1=B0:=a;have b:x2=[32]:=b;subst a;subst b;rfl
end
section
set_option maxRecDepth 8000
def Ww:DCode:=(.seq [1,0] (.region [oa 0 4 (.mv (.c .nils))]) (.seq [5,1,0] (.region [⟨0,some 8,.a false (.litSlice 1 0 [] []) (some (.one (.str))),none,[]⟩,om 1 5 8]) (.seq [6,5,1,0] (.region [oi 0 6 0]) (.seq [5] (.seq [7,6,5,1,0] (.region [oi 0 7 0]) (.block 0 (.loop [0,1,5,6,7] 1 (.seq [7,6,5,1,0] (.seq [12,7,6,5,1,0] (.region [om 0 9 7,om 1 10 0,oa 2 11 (.lenT (.t 10)),oa 3 12 (.bin .leq (.t 9) (.t 11))]) (.cond (.t 12) .skip (.exit 0))) (.seq [7,6,5,1,0] (.block 1 (.seq [25,7,6,5,1,0] (.region [om 0 15 7,om 1 16 0,oa 2 17 (.lenT (.t 16)),oa 3 18 (.bin .eql (.t 15) (.t 17)),om 4 19 18,og 5 20 (.mv (.t 0)) 19 false,og 6 21 (.mv (.t 7)) 19 false,og 7 22 (.index (.t 20) (.t 21)) 19 false,og 8 23 (.mv (.t 1)) 19 false,og 9 24 (.bin .eql (.t 22) (.t 23)) 19 false,oa 10 25 (.pick (.t 19) (.c (.bool true)) (.t 24))]) (.cond (.t 25) (.seq [7,5,1,0] (.region [om 0 26 5,om 1 27 0,om 2 28 6,om 3 29 7,oa 4 30 (.substr (.t 27) (some (.t 28)) (some (.t 29))),⟨5,some 31,.a false (.litSlice 1 1 [(.str [])] [(0,1,(.t 30))]) (some (.one (.str))),none,[]⟩,oa 6 32 (.app 1 (.t 26) (.t 31)),om 7 5 32]) (.region [om 0 33 7,oa 1 34 (.bin .add (.t 33) (.c (.int .i64 1))),om 2 6 34])) .skip))) (.region [om 0 13 7,oa 1 14 (.bin .add (.t 13) (.c (.int .i64 1))),om 2 7 14])))))) (.seq [4] (.region [om 0 35 5,om 1 4 35]) .ret)))))
def FX:Fn:=⟨⟨2,36,0,false,[.tmp 4],Ww⟩,[.one .frz (.str),.one .frz (.int .u8)],.one (.one .own (.sl (.one (.str))))⟩
theorem Ws:FX.A:=B9 trivial
def Mr:List UInt8×Int→List (List UInt8):=FX.V
def Mm:List UInt8×Int→Prop:=FX.O
theorem Wt:FX.B:=Cg trivial (by kernel_rfl) (fun x=>by kernel_rfl)
def Xv:DCode:=(.seq [] (.region [oa 0 0 (.mv (.c .nils))]) (.seq [0] (.region [oF 0 1 FX [(.c (.str [97,32,98,32,99,32,100,32,101,32,102,32,103,32,104,32,105,32,106,32,107,32,108,32,109,32,110,32,111,32,112,32,113,32,114,32,115,32,116,32,117,32,118,32,119,32,120,32,121,32,122,32,49,32,50,32,51,32,52,32,53,32,54,32,55,32,56,32,57,32,48,32,101,110,116,101,114,32,101,115,99,32,98,97,99,107,32,116,97,98,32,115,112,97,99,101,32,109,105,110,117,115,32,101,113,117,97,108,32,108,101,102,116,32,114,105,103,104,116,32,117,112,32,100,111,119,110,32,102,49,32,102,50,32,102,51,32,102,52,32,102,53,32,102,54,32,102,55,32,102,56,32,102,57])),(.c (.int .u8 32))],om 1 0 1]) .ret))
def F7:Fn:=⟨⟨0,2,0,false,[.tmp 0],Xv⟩,[],.one (.one .own (.sl (.one (.str))))⟩
theorem XE:F7.A:=B9 ⟨Ws,trivial⟩
def I7:Unit→List (List UInt8):=F7.V
def Mv:Unit→Prop:=F7.O
theorem Xy:F7.B:=Cg ⟨Wt,trivial⟩ (by kernel_rfl) (fun x=>by kernel_rfl)
def WT:DCode:=(.seq [0] (.region [oa 0 2 (.mv (.c (.str [])))]) (.seq [0] (.seq [5,0] (.region [om 0 3 0,oF 1 4 CH [(.t 3),(.c (.int .i64 1)),(.c (.int .i64 56))],oa 2 5 (.un .not (.t 4))]) (.cond (.t 5) (.seq [2] (.region [oa 0 2 (.mv (.c (.str [])))]) .ret) .skip)) (.seq [2] (.region [oF 0 6 F7 [],om 1 7 0,oa 2 8 (.bin .sub (.t 7) (.c (.int .i64 1))),oa 3 9 (.indexA 1 (.t 6) (.t 8)),ob 4 10 (.loadH none (.t 9)),om 5 2 10]) .ret)))
def F2:Fn:=⟨⟨1,11,0,true,[.tmp 2],WT⟩,[.one .frz (.int .i64)],.one (.one .own (.str))⟩
theorem Wx:F2.A:=B9 ⟨MH,XE,trivial⟩
def Cp:Int→List UInt8:=F2.V
def Mq:Int→Prop:=F2.O
theorem W5:F2.B:=Cg ⟨MI,Xy,trivial⟩ (by kernel_rfl) (fun x=>by kernel_rfl)
def Wg:DCode:=(.seq [0] (.region [oa 0 2 (.mv (.c (.str [])))]) (.seq [3,0] (.region [oa 0 3 (.mv (.c (.str [])))]) (.seq [3] (.seq [4,3,0] (.region [oi 0 4 0]) (.block 0 (.loop [0,3,4] 1 (.seq [4,3,0] (.seq [10,4,3,0] (.region [om 0 5 4,oa 1 6 (.bin .lss (.t 5) (.c (.int .i64 4))),om 2 7 6,og 3 8 (.mv (.t 0)) 7 true,⟨4,some 9,.call false CH.S CH.P CH.D [(.t 8),(.c (.int .i64 1)),(.c (.int .i64 15))],(some (7,true)),[]⟩,oa 5 10 (.pick (.t 7) (.t 9) (.c (.bool false)))]) (.cond (.t 10) .skip (.exit 0))) (.seq [4,3,0] (.block 1 (.seq [17,4,3,0] (.region [om 0 13 0,om 1 14 4,oa 2 15 (.bin .shr (.t 13) (.t 14)),oa 3 16 (.bin .and (.t 15) (.c (.int .i64 1))),oa 4 17 (.bin .eql (.t 16) (.c (.int .i64 1)))]) (.cond (.t 17) (.region [om 0 18 3,om 1 19 4,om 2 20 4,oa 3 21 (.bin .add (.t 20) (.c (.int .i64 1))),oa 4 22 (.substr (.c (.str [67,83,65,71])) (some (.t 19)) (some (.t 21))),oa 5 23 (.bin .add (.t 18) (.t 22)),om 6 3 23]) .skip))) (.region [om 0 11 4,oa 1 12 (.bin .add (.t 11) (.c (.int .i64 1))),om 2 4 12])))))) (.seq [2] (.region [om 0 24 3,om 1 2 24]) .ret))))
def FV:Fn:=⟨⟨1,25,0,true,[.tmp 2],Wg⟩,[.one .frz (.int .i64)],.one (.one .own (.str))⟩
theorem Wo:FV.A:=B9 ⟨MH,trivial⟩
def EG:Int→List UInt8:=FV.V
def Ki:Int→Prop:=FV.O
theorem Wn:FV.B:=Cg ⟨MI,trivial⟩ (by kernel_rfl) (fun x=>by kernel_rfl)
def W9:DCode:=(.seq [1,0] (.region [oa 0 4 (.mv (.c (.str [])))]) (.seq [5,1,0] (.region [⟨0,some 7,.a false (.litSlice 1 0 [] []) (some (.one (.int .u8))),none,[]⟩,om 1 5 7]) (.seq [5] (.seq [6,5,1,0] (.region [oi 0 6 0]) (.block 0 (.loop [0,1,5,6] 1 (.seq [6,5,1,0] (.seq [11,6,5,1,0] (.region [om 0 8 6,on 1 9 0,oa 2 10 (.len (.t 9)),oa 3 11 (.bin .lss (.t 8) (.t 10))]) (.cond (.t 11) .skip (.exit 0))) (.seq [6,5,1,0] (.block 1 (.seq [6,5,1,0] (.seq [15,6,5,1,0] (.region [om 0 14 6,oa 1 15 (.bin .gtr (.t 14) (.c (.int .i64 0)))]) (.cond (.t 15) (.region [om 0 16 5,om 1 17 1,oa 2 18 (.app 1 (.t 16) (.t 17)),om 3 5 18]) .skip)) (.region [om 0 19 5,on 1 20 0,om 2 21 6,oa 3 22 (.indexA 1 (.t 20) (.t 21)),oa 4 23 (.loadH none (.t 22)),oa 5 24 (.app 1 (.t 19) (.t 23)),om 6 5 24]))) (.region [om 0 12 6,oa 1 13 (.bin .add (.t 12) (.c (.int .i64 1))),om 2 6 13])))))) (.seq [4] (.region [on 0 25 5,oa 1 26 (.bstr (.t 25)),om 2 4 26]) .ret))))
def F6:Fn:=⟨⟨2,27,0,true,[.tmp 4],W9⟩,[.one .frz (.sl (.one (.str))),.one .frz (.str)],.one (.one .own (.str))⟩
theorem W0:F6.A:=B9 trivial
def Kq:List (List UInt8)×List UInt8→List UInt8:=F6.V
def Ms:List (List UInt8)×List UInt8→Prop:=F6.O
theorem WC:F6.B:=Cg trivial (by kernel_rfl) (fun x=>by kernel_rfl)
def Wc:DCode:=(.seq [1] (.region [oa 0 1 (.boxB 0 2 (.t 0)),oa 1 2 (.mv (.c (.str [])))]) (.seq [1] (.seq [7,1] (.region [oa 0 5 (.loadB 0 (some 2) (.t 1)),oF 1 6 F5 [(.t 5)],oa 2 7 (.un .not (.t 6))]) (.cond (.t 7) (.seq [2] (.region [oa 0 2 (.mv (.c (.str [])))]) .ret) .skip)) (.seq [3,1] (.region [⟨0,some 8,.a false (.litSlice 1 0 [] []) (some (.one (.str))),none,[]⟩,om 1 3 8]) (.seq [3,1] (.seq [4,3,1] (.region [oi 0 4 0]) (.block 0 (.loop [1,3,4] 1 (.seq [4,3,1] (.seq [13,4,3,1] (.region [om 0 9 4,oa 1 10 (.fieldA 1 (.t 1)),oa 2 11 (.loadB 0 none (.t 10)),oa 3 12 (.len (.t 11)),oa 4 13 (.bin .lss (.t 9) (.t 12))]) (.cond (.t 13) .skip (.exit 0))) (.seq [4,3,1] (.block 1 (.region [om 0 16 3,oa 1 17 (.fieldA 1 (.t 1)),oa 2 18 (.loadB 0 none (.t 17)),om 3 19 4,oa 4 20 (.indexA 1 (.t 18) (.t 19)),oa 5 21 (.loadH none (.t 20)),oF 6 22 F2 [(.t 21)],⟨7,some 23,.a false (.litSlice 1 1 [(.str [])] [(0,1,(.t 22))]) (some (.one (.str))),none,[]⟩,oa 8 24 (.app 1 (.t 16) (.t 23)),om 9 3 24])) (.region [om 0 14 4,oa 1 15 (.bin .add (.t 14) (.c (.int .i64 1))),om 2 4 15])))))) (.seq [2] (.region [oa 0 25 (.fieldA 0 (.t 1)),oa 1 26 (.loadB 0 none (.t 25)),oF 2 27 FV [(.t 26)],oa 3 28 (.bin .add (.t 27) (.c (.str [58]))),on 4 29 3,oF 5 30 F6 [(.t 29),(.c (.str [44]))],oa 6 31 (.bin .add (.t 28) (.t 30)),om 7 2 31]) .ret)))))
def FT:Fn:=⟨⟨1,32,1,true,[.tmp 2],Wc⟩,[.agg [(.frz,.int .i64),(.frz,.sl (.one (.int .i64)))]],.one (.one .own (.str))⟩
theorem V8:FT.A:=B9 ⟨WS,Wx,Wo,W0,trivial⟩
def GO:Int×List (Int)→List UInt8:=FT.V
def Kb:Int×List (Int)→Prop:=FT.O
theorem V6:FT.B:=Cg ⟨W4,W5,Wn,WC,trivial⟩ (by kernel_rfl) (fun x=>by kernel_rfl)
def WB:DCode:=(.seq [0] (.region [oa 0 2 (.mv (.c (.str [])))]) (.seq [0] (.seq [8,0] (.region [om 0 3 0,oa 1 4 (.bin .lss (.t 3) (.c (.int .i64 1))),om 2 5 4,og 3 6 (.mv (.t 0)) 5 false,og 4 7 (.bin .gtr (.t 6) (.c (.int .i64 56))) 5 false,oa 5 8 (.pick (.t 5) (.c (.bool true)) (.t 7))]) (.cond (.t 8) (.seq [2] (.region [oa 0 2 (.mv (.c (.str [])))]) .ret) .skip)) (.seq [2] (.region [oc 0 9 I4 Ko OW [(.c (.str [97,32,98,32,99,32,100,32,101,32,102,32,103,32,104,32,105,32,106,32,107,32,108,32,109,32,110,32,111,32,112,32,113,32,114,32,115,32,116,32,117,32,118,32,119,32,120,32,121,32,122,32,49,32,50,32,51,32,52,32,53,32,54,32,55,32,56,32,57,32,48,32,101,110,116,101,114,32,101,115,99,32,98,97,99,107,32,116,97,98,32,115,112,97,99,101,32,109,105,110,117,115,32,101,113,117,97,108,32,108,101,102,116,32,114,105,103,104,116,32,117,112,32,100,111,119,110,32,102,49,32,102,50,32,102,51,32,102,52,32,102,53,32,102,54,32,102,55,32,102,56,32,102,57])),(.c (.str [32]))],om 1 10 0,oa 2 11 (.bin .sub (.t 10) (.c (.int .i64 1))),oa 3 12 (.indexA 1 (.t 9) (.t 11)),ob 4 13 (.loadH none (.t 12)),om 5 2 13]) .ret)))
def F0:Fn:=⟨⟨1,14,0,true,[.tmp 2],WB⟩,[.one .frz (.int .i64)],.one (.one .own (.str))⟩
theorem Xe:F0.A:=B9 ⟨W7,trivial⟩
def Kr:Int→List UInt8:=F0.V
def Mo:Int→Prop:=F0.O
theorem Xo:F0.B:=Cg ⟨Xk,trivial⟩ (by kernel_rfl) (fun x=>by kernel_rfl)
def Wl:DCode:=(.seq [0] (.region [oa 0 2 (.mv (.c (.str [])))]) (.seq [0] (.seq [11,0] (.region [om 0 6 0,oa 1 7 (.bin .lss (.t 6) (.c (.int .i64 1))),om 2 8 7,og 3 9 (.mv (.t 0)) 8 false,og 4 10 (.bin .gtr (.t 9) (.c (.int .i64 15))) 8 false,oa 5 11 (.pick (.t 8) (.c (.bool true)) (.t 10))]) (.cond (.t 11) (.seq [2] (.region [oa 0 2 (.mv (.c (.str [])))]) .ret) .skip)) (.seq [3,0] (.region [oa 0 3 (.mv (.c (.str [])))]) (.seq [3] (.seq [14,13,12,3,0] (.region [⟨0,some 12,.a false (.litSlice 1 4 [(.str []),(.str []),(.str []),(.str [])] [(0,1,(.c (.str [67]))),(1,1,(.c (.str [83]))),(2,1,(.c (.str [65]))),(3,1,(.c (.str [71])))]) (some (.one (.str))),none,[]⟩,oa 1 13 (.len (.t 12)),oi 2 14 0]) (.block 0 (.loop [0,3,12,13,14] 1 (.seq [15,14,13,12,3,0] (.region [oa 0 15 (.bin .lss (.t 14) (.t 13))]) (.seq [14,13,12,3,0] (.cond (.t 15) .skip (.exit 0)) (.seq [14,13,12,3,0] (.block 1 (.seq [14,13,12,5,4,3,0] (.region [om 0 16 14,oa 1 17 (.indexA 1 (.t 12) (.t 14)),oa 2 18 (.loadH none (.t 17)),om 3 4 16,om 4 5 18]) (.seq [22,14,13,12,5,3,0] (.region [om 0 19 0,om 1 20 4,oF 2 21 Gd [(.t 19),(.t 20)],oa 3 22 (.bin .eql (.t 21) (.c (.int .i64 1)))]) (.cond (.t 22) (.region [om 0 23 3,om 1 24 5,oa 2 25 (.bin .add (.t 23) (.t 24)),om 3 3 25]) .skip)))) (.region [oa 0 26 (.bin .add (.t 14) (.c (.int .i64 1))),om 1 14 26]))))))) (.seq [2] (.region [om 0 27 3,om 1 2 27]) .ret)))))
def FW:Fn:=⟨⟨1,28,0,true,[.tmp 2],Wl⟩,[.one .frz (.int .i64)],.one (.one .own (.str))⟩
theorem Wj:FW.A:=B9 ⟨Zc,trivial⟩
def HL:Int→List UInt8:=FW.V
def Kg:Int→Prop:=FW.O
theorem Wp:FW.B:=Cg ⟨Y0,trivial⟩ (by kernel_rfl) (fun x=>by kernel_rfl)
def WQ:DCode:=(.seq [1,0] (.region [oa 0 4 (.mv (.c (.str [])))]) (.seq [4] (.region [on 0 5 0,om 1 6 1,oc 2 7 Ks Kt RV [(.t 5),(.t 6)],om 3 4 7]) .ret))
def F3:Fn:=⟨⟨2,8,0,true,[.tmp 4],WQ⟩,[.one .frz (.sl (.one (.str))),.one .frz (.str)],.one (.one .own (.str))⟩
theorem WH:F3.A:=B9 ⟨XF,trivial⟩
def Km:List (List UInt8)×List UInt8→List UInt8:=F3.V
def Mp:List (List UInt8)×List UInt8→Prop:=F3.O
theorem W1:F3.B:=Cg ⟨Xu,trivial⟩ (by kernel_rfl) (fun x=>by kernel_rfl)
def V5:DCode:=(.seq [1] (.region [oa 0 1 (.boxB 0 2 (.t 0)),oa 1 2 (.mv (.c (.str [])))]) (.seq [1] (.seq [8,1] (.region [oa 0 6 (.loadB 0 (some 2) (.t 1)),oF 1 7 FZ [(.t 6)],oa 2 8 (.un .not (.t 7))]) (.cond (.t 8) (.seq [2] (.region [oa 0 2 (.mv (.c (.str [])))]) .ret) .skip)) (.seq [3,1] (.region [oa 0 3 (.mv (.c .nils))]) (.seq [3,1] (.seq [12,11,10,3,1] (.region [oa 0 9 (.fieldA 1 (.t 1)),oa 1 10 (.loadB 0 none (.t 9)),oa 2 11 (.len (.t 10)),oi 3 12 0]) (.block 0 (.loop [1,3,10,11,12] 1 (.seq [13,12,11,10,3,1] (.region [oa 0 13 (.bin .lss (.t 12) (.t 11))]) (.seq [12,11,10,3,1] (.cond (.t 13) .skip (.exit 0)) (.seq [12,11,10,3,1] (.block 1 (.seq [12,11,10,5,3,1] (.region [oa 0 14 (.indexA 1 (.t 10) (.t 12)),oa 1 15 (.loadH none (.t 14)),om 2 5 15]) (.region [om 0 16 3,om 1 17 5,oF 2 18 F0 [(.t 17)],⟨3,some 19,.a false (.litSlice 1 1 [(.str [])] [(0,1,(.t 18))]) (some (.one (.str))),none,[]⟩,oa 4 20 (.app 1 (.t 16) (.t 19)),om 5 3 20]))) (.region [oa 0 21 (.bin .add (.t 12) (.c (.int .i64 1))),om 1 12 21]))))))) (.seq [2] (.region [oa 0 22 (.fieldA 0 (.t 1)),oa 1 23 (.loadB 0 none (.t 22)),oF 2 24 FW [(.t 23)],oa 3 25 (.bin .add (.t 24) (.c (.str [58]))),on 4 26 3,oF 5 27 F3 [(.t 26),(.c (.str [44]))],oa 6 28 (.bin .add (.t 25) (.t 27)),om 7 2 28]) .ret)))))
def FU:Fn:=⟨⟨1,29,1,true,[.tmp 2],V5⟩,[.agg [(.frz,.int .i64),(.frz,.sl (.one (.int .i64)))]],.one (.one .own (.str))⟩
theorem Wb:FU.A:=B9 ⟨WA,Xe,Wj,WH,trivial⟩
def HK:Int×List (Int)→List UInt8:=FU.V
def Kc:Int×List (Int)→Prop:=FU.O
theorem Wd:FU.B:=Cg ⟨Xl,Xo,Wp,W1,trivial⟩ (by kernel_rfl) (fun x=>by kernel_rfl)
def V0:DCode:=(.seq [1] (.region [oa 0 1 (.boxB 0 2 (.t 0)),oa 1 2 (.mv (.c (.bool false)))]) (.seq [3,1] (.region [oi 0 3 1048576]) (.seq [3,1] (.region [oa 0 7 (.loadB 0 (some 2) (.t 1)),om 1 8 3,oF 2 9 F4 [(.t 7),(.t 8)],om 3 3 9]) (.seq [1] (.seq [11,1] (.region [om 0 10 3,oa 1 11 (.bin .lss (.t 10) (.c (.int .i64 0)))]) (.cond (.t 11) (.seq [2] (.region [oa 0 2 (.mv (.c (.bool true)))]) .ret) .skip)) (.seq [4,1] (.region [oa 0 12 (.loadB 0 (some 2) (.t 1)),oF 1 13 DK [(.t 12)],oF 2 14 FT [(.t 13)],om 3 4 14]) (.seq [5,4,1] (.region [oa 0 15 (.loadB 0 (some 2) (.t 1)),oF 1 16 DK [(.t 15)],oa 2 5 (.allocB 1 [(.int .i64 0),.nils]),os 3 (.storeB 1 2 (.t 5) (.t 16))]) (.seq [6,5,4,1] (.region [oa 0 17 (.loadB 1 (some 2) (.t 5)),oF 1 18 FU [(.t 17)],om 2 6 18]) (.seq [5,1] (.seq [21,5,1] (.region [om 0 19 6,om 1 20 4,oa 2 21 (.bin .neq (.t 19) (.t 20))]) (.cond (.t 21) (.seq [2] (.region [oa 0 2 (.mv (.c (.bool false)))]) .ret) .skip)) (.seq [] (.seq [26] (.region [oa 0 22 (.loadB 1 (some 2) (.t 5)),oa 1 23 (.loadB 0 (some 2) (.t 1)),xF 2 24 DK [(.t 23)] [1],xF 3 25 F1 [(.t 22),(.t 24)] (rg 3),xA 4 26 (.un .not (.t 25)) (rg 4)]) (.cond (.t 26) (.seq [2] (.region [oa 0 2 (.mv (.c (.bool false)))]) .ret) .skip)) (.seq [2] (.region [oa 0 2 (.mv (.c (.bool true)))]) .ret))))))))))
def Eh:Fn:=⟨⟨1,27,2,true,[.tmp 2],V0⟩,[.agg [(.frz,.int .i64),(.frz,.sl (.one (.int .i64)))]],.one (.one .own (.bool))⟩
theorem VZ:Eh.A:=B9 ⟨WY,OT,V8,OT,Wb,OT,W6,trivial⟩
def Mc:Int×List (Int)→Bool:=Eh.V
def Mb:Int×List (Int)→Prop:=Eh.O
end
section
set_option maxRecDepth 100000
def Kf(x:List UInt8×Int)(x0:((List (List UInt8))×(Int×Int))):Bool:=(iLe x0.2.2 (lLen x.1))
def Mi(x:List UInt8×Int)(x0:((List (List UInt8))×(Int×Int))):((List (List UInt8))×(Int×Int)):=((bSel (bOr (iEq x0.2.2 (lLen x.1)) (iEq (sGet x.1 x0.2.2) x.2)) (lApp x0.1 [(lSub x.1 (iNat x0.2.1) (iNat x0.2.2))]) x0.1),(bSel (bOr (iEq x0.2.2 (lLen x.1)) (iEq (sGet x.1 x0.2.2) x.2)) (iAdd .i64 x0.2.2 1) x0.2.1),(iAdd .i64 x0.2.2 1))
def ON(x:List UInt8×Int)(x0:((List (List UInt8))×(Int×Int))):Prop:=(((iLe x0.2.2 (lLen x.1))=true→((((iEq x0.2.2 (lLen x.1))=true→True)∧((iEq x0.2.2 (lLen x.1))=false→(((0:Int)≤x0.2.2)∧(x0.2.2<(((List.length x.1):Int))))))∧(((bOr (iEq x0.2.2 (lLen x.1)) (iEq (sGet x.1 x0.2.2) x.2))=true→(((((0:Int)≤x0.2.1)∧((0:Int)≤x0.2.2))∧(((iNat x0.2.1)≤(iNat x0.2.2))∧((iNat x0.2.2)≤(List.length x.1))))∧(AY (((List.length x0.1)+(List.length [(lSub x.1 (iNat x0.2.1) (iNat x0.2.2))]))*1))))∧((bOr (iEq x0.2.2 (lLen x.1)) (iEq (sGet x.1 x0.2.2) x.2))=false→True))))∧((iLe x0.2.2 (lLen x.1))=false→True))
theorem Wv (x):Mr x=(Bs (Kf x) (Mi x) ([],0,0)).1:=(FX.v x).trans (by kernel_rfl)
theorem Wr (x):Mm x=(LoopOk (Kf x) (Mi x) (ON x) ([],0,0)):=(FX.o x).trans (by kernel_rfl)
theorem Xz (x):I7 x=(Mr ([(97:UInt8),32,98,32,99,32,100,32,101,32,102,32,103,32,104,32,105,32,106,32,107,32,108,32,109,32,110,32,111,32,112,32,113,32,114,32,115,32,116,32,117,32,118,32,119,32,120,32,121,32,122,32,49,32,50,32,51,32,52,32,53,32,54,32,55,32,56,32,57,32,48,32,101,110,116,101,114,32,101,115,99,32,98,97,99,107,32,116,97,98,32,115,112,97,99,101,32,109,105,110,117,115,32,101,113,117,97,108,32,108,101,102,116,32,114,105,103,104,116,32,117,112,32,100,111,119,110,32,102,49,32,102,50,32,102,51,32,102,52,32,102,53,32,102,54,32,102,55,32,102,56,32,102,57],32)):=(F7.v x).trans (by kernel_rfl)
theorem XC (x):Mv x=(Mm ([(97:UInt8),32,98,32,99,32,100,32,101,32,102,32,103,32,104,32,105,32,106,32,107,32,108,32,109,32,110,32,111,32,112,32,113,32,114,32,115,32,116,32,117,32,118,32,119,32,120,32,121,32,122,32,49,32,50,32,51,32,52,32,53,32,54,32,55,32,56,32,57,32,48,32,101,110,116,101,114,32,101,115,99,32,98,97,99,107,32,116,97,98,32,115,112,97,99,101,32,109,105,110,117,115,32,101,113,117,97,108,32,108,101,102,116,32,114,105,103,104,116,32,117,112,32,100,111,119,110,32,102,49,32,102,50,32,102,51,32,102,52,32,102,53,32,102,54,32,102,55,32,102,56,32,102,57],32)):=(F7.o x).trans (by kernel_rfl)
theorem WI (x):Cp x=(bSel (bNot (Dd (x,1,56))) [] (lGet (I7 PUnit.unit) (iNat (iSub .i64 x 1)) [])):=(F2.v x).trans (by kernel_rfl)
theorem WO (x):Mq x=((HP (x,1,56))∧(((bNot (Dd (x,1,56)))=true→True)∧((bNot (Dd (x,1,56)))=false→((Mv PUnit.unit)∧((((0:Int)≤(iSub .i64 x 1))∧((iSub .i64 x 1)<(((List.length (I7 PUnit.unit)):Int))))∧((iNat (iSub .i64 x 1))<(List.length (I7 PUnit.unit)))))))):=(F2.o x).trans (by kernel_rfl)
def HJ(x:Int)(x0:((List UInt8)×Int)):Bool:=(bAnd (iLt x0.2 4) (Dd (x,1,15)))
def Kd(x:Int)(x0:((List UInt8)×Int)):((List UInt8)×Int):=((bSel (iEq (iAnd .i64 (iShr .i64 x x0.2) 1) 1) (sAdd x0.1 (lSub [(67:UInt8),83,65,71] (iNat x0.2) (iNat (iAdd .i64 x0.2 1)))) x0.1),(iAdd .i64 x0.2 1))
def I1(x:Int)(x0:((List UInt8)×Int)):Prop:=((((iLt x0.2 4)=true→(HP (x,1,15)))∧((iLt x0.2 4)=false→True))∧(((bAnd (iLt x0.2 4) (Dd (x,1,15)))=true→(((0:Int)≤x0.2)∧(((iEq (iAnd .i64 (iShr .i64 x x0.2) 1) 1)=true→(((((0:Int)≤x0.2)∧((0:Int)≤(iAdd .i64 x0.2 1)))∧(((iNat x0.2)≤(iNat (iAdd .i64 x0.2 1)))∧((iNat (iAdd .i64 x0.2 1))≤(List.length [(67:UInt8),83,65,71]))))∧(((List.length x0.1)+(List.length (lSub [(67:UInt8),83,65,71] (iNat x0.2) (iNat (iAdd .i64 x0.2 1)))))≤9223372036854775807)))∧((iEq (iAnd .i64 (iShr .i64 x x0.2) 1) 1)=false→True))))∧((bAnd (iLt x0.2 4) (Dd (x,1,15)))=false→True)))
theorem Wh (x):EG x=(Bs (HJ x) (Kd x) ([],0)).1:=(FV.v x).trans (by kernel_rfl)
theorem Wk (x):Ki x=(LoopOk (HJ x) (Kd x) (I1 x) ([],0)):=(FV.o x).trans (by kernel_rfl)
def Kh(x:List (List UInt8)×List UInt8)(x0:((List Int)×Int)):Bool:=(iLt x0.2 (lLen x.1))
def Ml(x:List (List UInt8)×List UInt8)(x0:((List Int)×Int)):((List Int)×Int):=((lApp (bSel (iGt x0.2 0) (lApp x0.1 (sRow x.2)) x0.1) (sRow (lGet x.1 (iNat x0.2) []))),(iAdd .i64 x0.2 1))
def Mj(x:List (List UInt8)×List UInt8)(x0:((List Int)×Int)):Prop:=(((iLt x0.2 (lLen x.1))=true→((((iGt x0.2 0)=true→(AY (((List.length x0.1)+(List.length (sRow x.2)))*1)))∧((iGt x0.2 0)=false→True))∧((((0:Int)≤x0.2)∧(x0.2<(((List.length x.1):Int))))∧(((iNat x0.2)<(List.length x.1))∧(AY (((List.length (bSel (iGt x0.2 0) (lApp x0.1 (sRow x.2)) x0.1))+(List.length (sRow (lGet x.1 (iNat x0.2) []))))*1))))))∧((iLt x0.2 (lLen x.1))=false→True))
theorem WV (x):Kq x=(rowS (Bs (Kh x) (Ml x) ([],0)).1):=(F6.v x).trans (by kernel_rfl)
theorem WM (x):Ms x=(LoopOk (Kh x) (Ml x) (Mj x) ([],0)):=(F6.o x).trans (by kernel_rfl)
def HI(x:Int×List (Int))(x0:((List (List UInt8))×Int)):Bool:=(iLt x0.2 (lLen x.2))
def IZ(x:Int×List (Int))(x0:((List (List UInt8))×Int)):((List (List UInt8))×Int):=((lApp x0.1 [(Cp (lGet x.2 (iNat x0.2) 0))]),(iAdd .i64 x0.2 1))
def Me(x:Int×List (Int))(x0:((List (List UInt8))×Int)):Prop:=(((iLt x0.2 (lLen x.2))=true→((((0:Int)≤x0.2)∧(x0.2<(((List.length x.2):Int))))∧(((iNat x0.2)<(List.length x.2))∧((Mq (lGet x.2 (iNat x0.2) 0))∧(AY (((List.length x0.1)+(List.length [(Cp (lGet x.2 (iNat x0.2) 0))]))*1))))))∧((iLt x0.2 (lLen x.2))=false→True))
theorem Wa (x):GO x=(bSel (bNot (FY x)) [] (sAdd (sAdd (EG x.1) [(58:UInt8)]) (Kq ((Bs (HI x) (IZ x) ([],0)).1,[(44:UInt8)])))):=(FT.v x).trans (by kernel_rfl)
theorem V9 (x):Kb x=((Kk x)∧(((bNot (FY x))=true→True)∧((bNot (FY x))=false→((LoopOk (HI x) (IZ x) (Me x) ([],0))∧((Ki x.1)∧((((List.length (EG x.1))+(List.length [(58:UInt8)]))≤9223372036854775807)∧((Ms ((Bs (HI x) (IZ x) ([],0)).1,[(44:UInt8)]))∧(((List.length (sAdd (EG x.1) [(58:UInt8)]))+(List.length (Kq ((Bs (HI x) (IZ x) ([],0)).1,[(44:UInt8)]))))≤9223372036854775807)))))))):=(FT.o x).trans (by kernel_rfl)
theorem WD (x):Kr x=(bSel (bOr (iLt x 1) (iGt x 56)) [] (lGet (GP ([(97:UInt8),32,98,32,99,32,100,32,101,32,102,32,103,32,104,32,105,32,106,32,107,32,108,32,109,32,110,32,111,32,112,32,113,32,114,32,115,32,116,32,117,32,118,32,119,32,120,32,121,32,122,32,49,32,50,32,51,32,52,32,53,32,54,32,55,32,56,32,57,32,48,32,101,110,116,101,114,32,101,115,99,32,98,97,99,107,32,116,97,98,32,115,112,97,99,101,32,109,105,110,117,115,32,101,113,117,97,108,32,108,101,102,116,32,114,105,103,104,116,32,117,112,32,100,111,119,110,32,102,49,32,102,50,32,102,51,32,102,52,32,102,53,32,102,54,32,102,55,32,102,56,32,102,57],[(32:UInt8)])) (iNat (iSub .i64 x 1)) [])):=(F0.v x).trans (by kernel_rfl)
theorem W2 (x):Mo x=(((bOr (iLt x 1) (iGt x 56))=true→True)∧((bOr (iLt x 1) (iGt x 56))=false→((HM ([(97:UInt8),32,98,32,99,32,100,32,101,32,102,32,103,32,104,32,105,32,106,32,107,32,108,32,109,32,110,32,111,32,112,32,113,32,114,32,115,32,116,32,117,32,118,32,119,32,120,32,121,32,122,32,49,32,50,32,51,32,52,32,53,32,54,32,55,32,56,32,57,32,48,32,101,110,116,101,114,32,101,115,99,32,98,97,99,107,32,116,97,98,32,115,112,97,99,101,32,109,105,110,117,115,32,101,113,117,97,108,32,108,101,102,116,32,114,105,103,104,116,32,117,112,32,100,111,119,110,32,102,49,32,102,50,32,102,51,32,102,52,32,102,53,32,102,54,32,102,55,32,102,56,32,102,57],[(32:UInt8)]))∧((((0:Int)≤(iSub .i64 x 1))∧((iSub .i64 x 1)<(((List.length (GP ([(97:UInt8),32,98,32,99,32,100,32,101,32,102,32,103,32,104,32,105,32,106,32,107,32,108,32,109,32,110,32,111,32,112,32,113,32,114,32,115,32,116,32,117,32,118,32,119,32,120,32,121,32,122,32,49,32,50,32,51,32,52,32,53,32,54,32,55,32,56,32,57,32,48,32,101,110,116,101,114,32,101,115,99,32,98,97,99,107,32,116,97,98,32,115,112,97,99,101,32,109,105,110,117,115,32,101,113,117,97,108,32,108,101,102,116,32,114,105,103,104,116,32,117,112,32,100,111,119,110,32,102,49,32,102,50,32,102,51,32,102,52,32,102,53,32,102,54,32,102,55,32,102,56,32,102,57],[(32:UInt8)]))):Int))))∧((iNat (iSub .i64 x 1))<(List.length (GP ([(97:UInt8),32,98,32,99,32,100,32,101,32,102,32,103,32,104,32,105,32,106,32,107,32,108,32,109,32,110,32,111,32,112,32,113,32,114,32,115,32,116,32,117,32,118,32,119,32,120,32,121,32,122,32,49,32,50,32,51,32,52,32,53,32,54,32,55,32,56,32,57,32,48,32,101,110,116,101,114,32,101,115,99,32,98,97,99,107,32,116,97,98,32,115,112,97,99,101,32,109,105,110,117,115,32,101,113,117,97,108,32,108,101,102,116,32,114,105,103,104,116,32,117,112,32,100,111,119,110,32,102,49,32,102,50,32,102,51,32,102,52,32,102,53,32,102,54,32,102,55,32,102,56,32,102,57],[(32:UInt8)])))))))):=(F0.o x).trans (by kernel_rfl)
def Ke(x0:((List UInt8)×Int)):Bool:=(iLt x0.2 (lLen [[(67:UInt8)],[(83:UInt8)],[(65:UInt8)],[(71:UInt8)]]))
def Mg(x:Int)(x0:((List UInt8)×Int)):((List UInt8)×Int):=((bSel (iEq (KF (x,x0.2)) 1) (sAdd x0.1 (lGet [[(67:UInt8)],[(83:UInt8)],[(65:UInt8)],[(71:UInt8)]] (iNat x0.2) [])) x0.1),(iAdd .i64 x0.2 1))
def Mh(x:Int)(x0:((List UInt8)×Int)):Prop:=(((iLt x0.2 (lLen [[(67:UInt8)],[(83:UInt8)],[(65:UInt8)],[(71:UInt8)]]))=true→((((0:Int)≤x0.2)∧(x0.2<(((List.length [[(67:UInt8)],[(83:UInt8)],[(65:UInt8)],[(71:UInt8)]]):Int))))∧(((iNat x0.2)<(List.length [[(67:UInt8)],[(83:UInt8)],[(65:UInt8)],[(71:UInt8)]]))∧((O9 (x,x0.2))∧(((iEq (KF (x,x0.2)) 1)=true→(((List.length x0.1)+(List.length (lGet [[(67:UInt8)],[(83:UInt8)],[(65:UInt8)],[(71:UInt8)]] (iNat x0.2) [])))≤9223372036854775807))∧((iEq (KF (x,x0.2)) 1)=false→True))))))∧((iLt x0.2 (lLen [[(67:UInt8)],[(83:UInt8)],[(65:UInt8)],[(71:UInt8)]]))=false→True))
theorem Wi (x):HL x=(bSel (bOr (iLt x 1) (iGt x 15)) [] (Bs Ke (Mg x) ([],0)).1):=(FW.v x).trans (by kernel_rfl)
theorem Wm (x):Kg x=(((bOr (iLt x 1) (iGt x 15))=true→True)∧((bOr (iLt x 1) (iGt x 15))=false→(LoopOk Ke (Mg x) (Mh x) ([],0)))):=(FW.o x).trans (by kernel_rfl)
theorem Xg (x):Km x=(I6 x):=(F3.v x).trans (by kernel_rfl)
theorem Xi (x):Mp x=(I5 x):=(F3.o x).trans (by kernel_rfl)
def HH(x:Int×List (Int))(x0:((List (List UInt8))×Int)):Bool:=(iLt x0.2 (lLen x.2))
def I0(x:Int×List (Int))(x0:((List (List UInt8))×Int)):((List (List UInt8))×Int):=((lApp x0.1 [(Kr (lGet x.2 (iNat x0.2) 0))]),(iAdd .i64 x0.2 1))
def Mf(x:Int×List (Int))(x0:((List (List UInt8))×Int)):Prop:=(((iLt x0.2 (lLen x.2))=true→((((0:Int)≤x0.2)∧(x0.2<(((List.length x.2):Int))))∧(((iNat x0.2)<(List.length x.2))∧((Mo (lGet x.2 (iNat x0.2) 0))∧(AY (((List.length x0.1)+(List.length [(Kr (lGet x.2 (iNat x0.2) 0))]))*1))))))∧((iLt x0.2 (lLen x.2))=false→True))
theorem V7 (x):HK x=(bSel (bNot (HN x)) [] (sAdd (sAdd (HL x.1) [(58:UInt8)]) (Km ((Bs (HH x) (I0 x) ([],0)).1,[(44:UInt8)])))):=(FU.v x).trans (by kernel_rfl)
theorem V4 (x):Kc x=((Kl x)∧(((bNot (HN x))=true→True)∧((bNot (HN x))=false→((LoopOk (HH x) (I0 x) (Mf x) ([],0))∧((Kg x.1)∧((((List.length (HL x.1))+(List.length [(58:UInt8)]))≤9223372036854775807)∧((Mp ((Bs (HH x) (I0 x) ([],0)).1,[(44:UInt8)]))∧(((List.length (sAdd (HL x.1) [(58:UInt8)]))+(List.length (Km ((Bs (HH x) (I0 x) ([],0)).1,[(44:UInt8)]))))≤9223372036854775807)))))))):=(FU.o x).trans (by kernel_rfl)
theorem VY (x):Mc x=(bOr (iLt (Fh (x,1048576)) 0) (bAnd (bNot (sNe (HK (Dc x)) (GO (Dc x)))) (bNot (bNot (Mw ((Dc x),(Dc x))))))):=(Eh.v x).trans (by kernel_rfl)
theorem V1 (x):Mb x=((Mn (x,1048576))∧(((iLt (Fh (x,1048576)) 0)=true→True)∧((iLt (Fh (x,1048576)) 0)=false→((I3 x)∧((Kb (Dc x))∧((I3 x)∧((Kc (Dc x))∧(((sNe (HK (Dc x)) (GO (Dc x)))=true→True)∧((sNe (HK (Dc x)) (GO (Dc x)))=false→((I3 x)∧(Mt ((Dc x),(Dc x))))))))))))):=(Eh.o x).trans (by kernel_rfl)
attribute [irreducible] Mr Mm I7 Mv Cp Mq EG Ki Kq Ms GO Kb Kr Mo HL Kg Km Mp HK Kc Mc Mb
end
section
set_option maxRecDepth 100000
def I2(x:Int×List (Int))(x0:Int):Bool:=(bAnd (iLt x0 (lLen x.2)) (bNot (bOr (bNot (Dd ((lGet x.2 (iNat x0) 0),1,56))) (bAnd (iGt x0 0) (iGe (lGet x.2 (iNat (iSub .i64 x0 1)) 0) (lGet x.2 (iNat x0) 0))))))
def Kj(x0:Int):Int:=(iAdd .i64 x0 1)
def OQ(x:Int×List (Int))(x0:Int):Prop:=(((iLt x0 (lLen x.2))=true→((((0:Int)≤x0)∧(x0<(((List.length x.2):Int))))∧(((iNat x0)<(List.length x.2))∧((HP ((lGet x.2 (iNat x0) 0),1,56))∧(((bNot (Dd ((lGet x.2 (iNat x0) 0),1,56)))=true→True)∧((bNot (Dd ((lGet x.2 (iNat x0) 0),1,56)))=false→(((iGt x0 0)=true→((((0:Int)≤(iSub .i64 x0 1))∧((iSub .i64 x0 1)<(((List.length x.2):Int))))∧(((iNat (iSub .i64 x0 1))<(List.length x.2))∧((((0:Int)≤x0)∧(x0<(((List.length x.2):Int))))∧((iNat x0)<(List.length x.2))))))∧((iGt x0 0)=false→True))))))))∧((iLt x0 (lLen x.2))=false→True))
theorem W8 (x):FY x=(bAnd (bNot (iLt (Bs (I2 x) Kj 0) (lLen x.2))) (Dd (x.1,0,15))):=(F5.v x).trans (by kernel_rfl)
theorem WK (x):Kk x=((LoopOk (I2 x) Kj (OQ x) 0)∧(((iLt (Bs (I2 x) Kj 0) (lLen x.2))=true→True)∧((iLt (Bs (I2 x) Kj 0) (lLen x.2))=false→(HP (x.1,0,15))))):=(F5.o x).trans (by kernel_rfl)
def Mk(x:Int×List (Int))(x0:Int):Bool:=(bAnd (iLt x0 (lLen x.2)) (bNot (bOr (bNot (I8 (lGet x.2 (iNat x0) 0))) (bAnd (iGt x0 0) (iGe (lGet x.2 (iNat (iSub .i64 x0 1)) 0) (lGet x.2 (iNat x0) 0))))))
def OO(x0:Int):Int:=(iAdd .i64 x0 1)
def OP(x:Int×List (Int))(x0:Int):Prop:=(((iLt x0 (lLen x.2))=true→((((0:Int)≤x0)∧(x0<(((List.length x.2):Int))))∧(((iNat x0)<(List.length x.2))∧((MA (lGet x.2 (iNat x0) 0))∧(((bNot (I8 (lGet x.2 (iNat x0) 0)))=true→True)∧((bNot (I8 (lGet x.2 (iNat x0) 0)))=false→(((iGt x0 0)=true→((((0:Int)≤(iSub .i64 x0 1))∧((iSub .i64 x0 1)<(((List.length x.2):Int))))∧((iNat (iSub .i64 x0 1))<(List.length x.2))))∧((iGt x0 0)=false→True))))))))∧((iLt x0 (lLen x.2))=false→True))
theorem Wy (x):HN x=(bAnd (bNot (bOr (iLt x.1 0) (iGt x.1 15))) (bNot (iLt (Bs (Mk x) OO 0) (lLen x.2)))):=(FZ.v x).trans (by kernel_rfl)
theorem WE (x):Kl x=(((bOr (iLt x.1 0) (iGt x.1 15))=true→True)∧((bOr (iLt x.1 0) (iGt x.1 15))=false→(LoopOk (Mk x) OO (OP x) 0))):=(FZ.o x).trans (by kernel_rfl)
attribute [irreducible] FY Kk HN Kl
end
section
set_option maxRecDepth 100000
theorem Za (x):KF x=(iAnd .i64 (iShr .i64 x.1 x.2) 1):=(Gd.v x).trans (by kernel_rfl)
theorem YZ (x):O9 x=((0:Int)≤x.2):=(Gd.o x).trans (by kernel_rfl)
attribute [irreducible] KF O9
end
section
set_option maxRecDepth 100000
theorem ML (x):Dd x=(bAnd (iGe x.1 x.2.1) (iLe x.1 x.2.2)):=(CH.v x).trans (by kernel_rfl)
theorem MK (x):HP x=True:=(CH.o x).trans (by kernel_rfl)
theorem XL (x):I8 x=(bAnd (iGe x 1) (iLe x 56)):=(Ga.v x).trans (by kernel_rfl)
theorem X4 (x):MA x=True:=(Ga.o x).trans (by kernel_rfl)
attribute [irreducible] Dd HP I8 MA
end
theorem Dg(a:Bool):bNot a=!a:=by simp only[JK]
theorem Cn(a b:Bool):bAnd a b=(a&&b):=by simp only[QV]
theorem E1(a b:Bool):bOr a b=(a||b):=by simp only[VJ]
theorem eB(a b:Bool):bIff a b=(a == b):=by simp only[U2]
theorem Gm{α:Type}(c:Bool)(x y:α):bSel c x y=if c=true then x else y:=by cases c<;>simp[Gx,GB]
theorem QN(a b:Int):iEq a b=decide (a=b):=by
 rw[Ot];by_cases h:a=b<;>simp[h]
theorem Iq(a b:Int):iNe a b=!decide (a=b):=by
 rw[Vw];by_cases h:a=b<;>simp[h]
theorem Bp(a b:Int):iLt a b=decide (a<b):=by simp only[VK]
theorem Gu(a b:Int):iLe a b=decide (a≤b):=by simp only[VI]
theorem GD(a b:Int):iGt a b=decide (b<a):=by simp only[VD]
theorem Gw(a b:Int):iGe a b=decide (b≤a):=by simp only[VF]
theorem fk(a b:List UInt8):sNe a b=!(a == b):=by simp only[VH]
section
variable {α:Type}
theorem A9(l:List α):lLen l=(l.length:Int):=by simp only[Q8]
theorem Hs(l:List α):lN l=l.length:=by simp only[LW]
theorem Cq(l:List α)(j:Nat)(d:α):lGet l j d=l.getD j d:=by simp only[JF]
theorem Fv(l:List α)(j:Nat)(x:α):lSet l j x=l.set j x:=by simp only[Ls]
theorem Fu(l:List α)(a b:Nat):lSub l a b=(l.drop a).take (b-a):=by simp only[Q7]
theorem Eo(l m:List α):lApp l m=l++m:=by simp only[IA]
theorem Gl(n:Int)(x:α):lRep n x=List.replicate n.toNat x:=by simp only[Vg]
theorem BN(a:Int):iNat a=a.toNat:=by simp only[QK]
theorem Qq(a b:List UInt8):sAdd a b=a++b:=by simp only[Vs]
end
def BD(n:Int):Prop:=-9223372036854775808≤n∧n≤9223372036854775807
theorem KS{n:Int}(h:BD n):IntKind.i64.wrap n=n:=by
 obtain⟨h1,h2⟩:=h;show (if decide (n % 18446744073709551616≥9223372036854775808)=true then n % 18446744073709551616-18446744073709551616 else n % 18446744073709551616)=n;simp only[Ca];split<;>omega
theorem Df{a b:Int}(h:BD (a+b)):iAdd .i64 a b=a+b:=by rw[U3];exact KS h
theorem Ei{a b:Int}(h:BD (a-b)):iSub .i64 a b=a-b:=by rw[UT];exact KS h
theorem G2{a b:Int}(h:BD (a*b)):iMul .i64 a b=a*b:=by rw[Vh];exact KS h
theorem ak{a:Int}(h:BD a):iConv .i64 a=a:=by rw[UI];exact KS h
theorem G1{a b:Int}(ha:0≤a)(h:BD (a / b)):iQuo .i64 a b=a / b:=by
 rw[U1];rw[Int.tdiv_eq_ediv_of_nonneg ha];exact KS h
theorem G5{a b:Int}(ha:0≤a):iRem a b=a % b:=by rw[Vj];exact Int.tmod_eq_emod_of_nonneg ha
section
variable {X:Type} {c:X→Bool} {f:X→X} {p:X→Prop}
theorem TV(I:X→Prop)(m:X→Nat)(h:∀ x,I x→p x∧(c x=true→I (f x)∧m (f x)<m x)){x0:X}(h0:I x0) :
 LoopOk c f p x0∧I (Bs c f x0)∧c (Bs c f x0)=false:=by
 have go:∀ (n:Nat) (x:X),m x<n→I x→∃ y,LoopTo c f p x y∧I y∧c y=false:=by
  intro n
  induction n with
  |zero=>intro x hm;exact absurd hm (Nat.not_lt_zero _)
  | succ n ih=>
    intro x hm hI;obtain⟨h1,h2⟩:=h x hI
    cases hc:c x with
    |false=>exact⟨x,.stop h1 hc,hI,hc⟩
    | true=>
      obtain⟨h3,h4⟩:=h2 hc;obtain⟨y,h5,h6,h7⟩:=ih (f x) (by omega) h3;exact⟨y,.go h1 hc h5,h6,h7⟩
 obtain⟨y,h1,h2,h3⟩:=go _ x0 (Nat.lt_succ_self _) h0
 rw[h1.val]
 exact⟨⟨y,h1⟩,h2,h3⟩
theorem H5(n:Nat)(st:Nat→X){x0:X}(h0:st 0=x0)(hs:∀ k,k<n→p (st k)∧c (st k)=true∧f (st k)=st (k+1))(he:p (st n)∧c (st n)=false):LoopOk c f p x0∧Bs c f x0=st n:=by
 have go:∀ k,k≤n→LoopTo c f p (st (n-k)) (st n):=by
  intro k
  induction k with
  |zero=>intro _;exact .stop he.1 he.2
  | succ k ih=>
    intro hk;obtain⟨h1,h2,h3⟩:=hs (n-(k+1)) (by omega);refine .go h1 h2 ?_;rw[h3,show n-(k+1)+1=n-k by omega];exact ih (by omega)
 have:=go n (AK _);rw[N3,h0] at this;exact⟨⟨_,this⟩,this.val⟩
end
def CA(t:Nat→Bool):Nat→Nat→Nat
 |0,i=>i
 |k+1,i=>if t i then i else CA t k (i+1)
theorem Je(t:Nat→Bool):∀ k i,i≤CA t k i∧CA t k i≤i+k
 |0,i=>⟨AK _,AK _⟩
 | k+1,i=>by
   unfold CA
   split
   · omega
   · have:=Je t k (i+1);omega
theorem MV(t:Nat→Bool):∀ k i,CA t k i<i+k→t (CA t k i)=true
 |0,i,h=>by unfold CA at h;omega
 | k + 1,i,h=>by
   unfold CA at h ⊢
   split
   · rename_i ht;exact ht
   · rename_i ht
     rw[Ad ht] at h
     exact MV t k (i+1) (by omega)
theorem Pf(t:Nat→Bool):∀ k i j,i≤j→j<CA t k i→t j=false
 |0,i,j,h,h'=>by unfold CA at h';omega
 | k + 1,i,j,h,h'=>by
   unfold CA at h'
   split at h'
   · omega
   · rename_i ht
     by_cases hj:j=i
     · subst hj;simpa using ht
     · exact Pf t k (i+1) j (by omega) h'
theorem Pr{c:Int→Bool}{f:Int→Int}{p:Int→Prop}(n:Nat)(t:Nat→Bool)(hn:(n:Int)≤9223372036854775806)(hc:∀ i:Nat,i≤n→c i=(decide (i<n)&&!t i))(hf:∀ i:Nat,i<n→f i=iAdd .i64 i 1)(hp:∀ i:Nat,i≤n→p i) :
 LoopOk c f p 0∧Bs c f 0=(CA t n 0:Nat):=by
 have hle:=Je t n 0
 refine H5 (CA t n 0) (fun k=>(k:Int)) rfl (fun k hk=>?_) ⟨hp _ (by omega),?_⟩
 · have hk':k<n:=by omega
   refine⟨hp k (by omega),?_,?_⟩
   · rw[hc k (by omega),Pf t n 0 k (by omega) hk];simp[hk']
   · rw[hf k hk',Df (by unfold BD;omega)];omega
 · rw[hc _ (by omega)]
   by_cases h:CA t n 0<n
   · rw[MV t n 0 (by omega)];simp
   · simp[h]
theorem O7{t:Nat→Bool}{n:Nat}:CA t n 0=n↔∀ i,i<n→t i=false:=by
 constructor
 · intro h i hi;exact Pf t n 0 i (by omega) (by omega)
 · intro h;have hle:=Je t n 0;rcases A8 (CA t n 0) n with h1|h1
   · have:=MV t n 0 (by omega);rw[h _ h1] at this;cases this
   · omega
section
variable {α:Type}
theorem cr(x:List α)(k:Nat)(hk:k<x.length)(d:α)(l:List α)(hl:l.length=x.length)(h:l.take k=x.take k):(l.set k (x.getD k d)).take (k+1)=x.take (k+1):=by
 rw[N6,N6,List.take_set]
 have:(l.take k).set k (x.getD k d)=l.take k:=by
  apply List.set_eq_of_length_le;rw[D4];exact Nat.min_le_left _ _
 rw[this,h];congr 1;rw[List.getElem?_set_self (by omega),D1,Au hk];simp
end
theorem UC{α:Type}{c:Int→Bool}{f:Int→Int}{p:Int→Prop}(a b:List α)(d:α)(ne:Nat→Bool)(hl:a.length=b.length)(hne:∀ i,i<a.length→(ne i=false↔a.getD i d=b.getD i d))(hn:(a.length:Int)≤9223372036854775806)(hc:∀ i:Nat,i≤a.length→c i=(decide (i<a.length)&&!ne i))(hf:∀ i:Nat,i<a.length→f i=iAdd .i64 i 1)(hp:∀ i:Nat,i≤a.length→p i) :
 LoopOk c f p 0∧(Bs c f 0<(a.length:Int)↔a≠b):=by
 obtain⟨h1,h2⟩:=Pr a.length ne hn hc hf hp
 refine⟨h1,?_⟩
 rw[h2]
 have hle:=Je ne a.length 0
 constructor
 · intro h hab
   subst hab;have:=MV ne a.length 0 (by omega);rw[(hne _ (by omega)).2 rfl] at this;cases this
 · intro h
   rcases A8 (CA ne a.length 0) a.length with h3|h3
   · omega
   · exfalso;apply h
     have h4:CA ne a.length 0=a.length:=by omega
     rw[O7] at h4
     refine QH hl fun i hi hi'=>?_
     have:=(hne i hi).1 (h4 i hi);rw[D1,D1,Au hi,Au hi'] at this;simpa using this
theorem ga{α:Type}{c:Int→Bool}{f:Int→Int}{p:Int→Prop}(a b:List α)(d:α)(ne:Nat→Bool)(hl:a.length=b.length)(hne:∀ i,i<a.length→(ne i=false↔a.getD i d=b.getD i d))(hn:(a.length:Int)≤9223372036854775806)(hc:∀ i:Nat,i≤a.length→c i=(decide (i<a.length)&&!ne i))(hf:∀ i:Nat,i<a.length→f i=iAdd .i64 i 1)(hp:∀ i:Nat,i≤a.length→p i):LoopOk c f p 0:=(UC a b d ne hl hne hn hc hf hp).1
theorem gN{α:Type}{c:Int→Bool}{f:Int→Int}(a b:List α)(d:α)(ne:Nat→Bool)(hl:a.length=b.length)(hne:∀ i,i<a.length→(ne i=false↔a.getD i d=b.getD i d))(hn:(a.length:Int)≤9223372036854775806)(hc:∀ i:Nat,i≤a.length→c i=(decide (i<a.length)&&!ne i))(hf:∀ i:Nat,i<a.length→f i=iAdd .i64 i 1):Bs c f 0<(a.length:Int)↔a≠b:=(UC (p:=fun _=>True) a b d ne hl hne hn hc hf (fun _ _=>trivial)).2
theorem SC {α:Type} {c:List α×Int→Bool} {f:List α×Int→List α×Int} {p:List α×Int→Prop} (x:List α) (z d:α) (hn:x.length≤1048576)
 (hc:∀ st,c st=iLt st.2 (lLen x)) (hf:∀ (l:List α) (i:Nat),i<x.length→f (l,(i:Int))=(l.set i (x.getD i d),iAdd .i64 i 1))
 (hp:∀ (l:List α) (i:Nat),l.length=x.length→i≤x.length→p (l,i)) :
 LoopOk c f p (lRep (lLen x) z,0)∧(Bs c f (lRep (lLen x) z,0)).1=x:=by
 have h:=TV (c:=c) (f:=f) (p:=p) (fun st=>st.1.length=x.length∧∃ i:Nat,st.2=i∧i≤x.length∧st.1.take i=x.take i) (fun st=>x.length-st.2.toNat) (fun st hI=>?_) (x0:=(lRep (lLen x) z,0)) ⟨by simp[Gl,A9],0,rfl,Fy _,by simp⟩
 · obtain⟨h1,⟨h2,i,h3,h4,h5⟩,h6⟩:=h
   refine⟨h1,?_⟩;rw[hc,h3,Bp,A9,Di] at h6
   have:i=x.length:=by omega
   subst this;rw[Iz,← h2,Iz] at h5;exact h5
 · obtain⟨l,j⟩:=st
   obtain⟨h2,i,h3,h4,h5⟩:=hI;simp only at h2 h3 h5;subst h3;refine⟨hp l i h2 h4,fun hcc=>?_⟩;rw[hc,Bp,A9,Ca] at hcc;simp only at hcc
   have hi:i<x.length:=by omega
   rw[hf l i hi];simp only[BC];rw[Df (by unfold BD;omega)];refine⟨⟨by simp[h2],i+1,by omega,by omega,cr x i hi d l h2 h5⟩,by omega⟩
theorem bL {α:Type} {c:List α×Int→Bool} {f:List α×Int→List α×Int} {p:List α×Int→Prop} (x:List α) (z d:α) (hn:x.length≤1048576)
 (hc:∀ st,c st=iLt st.2 (lLen x)) (hf:∀ (l:List α) (i:Nat),i<x.length→f (l,(i:Int))=(l.set i (x.getD i d),iAdd .i64 i 1))
 (hp:∀ (l:List α) (i:Nat),l.length=x.length→i≤x.length→p (l,i)):LoopOk c f p (lRep (lLen x) z,0):=(SC x z d hn hc hf hp).1
theorem eD {α:Type} {c:List α×Int→Bool} {f:List α×Int→List α×Int} (x:List α) (z d:α) (hn:x.length≤1048576)
 (hc:∀ st,c st=iLt st.2 (lLen x)) (hf:∀ (l:List α) (i:Nat),i<x.length→f (l,(i:Int))=(l.set i (x.getD i d),iAdd .i64 i 1)):(Bs c f (lRep (lLen x) z,0)).1=x:=(SC (p:=fun _=>True) x z d hn hc hf (fun _ _ _ _=>trivial)).2
theorem cQ{α:Type}(x:List α)(i:Nat)(d:α)(h:i<x.length):x.getD i d∈x:=by
 rw[D1,Au h];exact CX h
theorem bD{n:Int}{w:Nat}(h0:0≤n)(h:n≤1048576)(hw:w≤1000):AY (n.toNat*w):=by
 show n.toNat*w≤2^40
 have h1:n.toNat≤1048576:=by omega
 have:=Nat.mul_le_mul h1 hw;omega
theorem UO(a b c:Int):Dd (a,b,c)=(decide (b≤a)&&decide (a≤c)):=by rw[ML];simp only[Cn,Gw,Gu]
theorem Lb (x):HP x:=by rw[MK];trivial
theorem aC(n:Int):I8 n=(decide (1≤n)&&decide (n≤56)):=by rw[XL];simp only[Cn,Gw,Gu]
theorem Ng (x):MA x:=by rw[X4];trivial
section
set_option maxRecDepth 100000
theorem XN (x):GQ x=(bSel (iLt (iSub .i64 x.2 (lLen x.1)) 0) (-1) (iSub .i64 x.2 (lLen x.1))):=(F9.v x).trans (by kernel_rfl)
theorem XG (x):My x=True:=(F9.o x).trans (by kernel_rfl)
theorem WX (x):Fh x=(bSel (iLt (GQ (x.1.2,x.2)) 0) (-1) (GQ (x.1.2,x.2))):=(F4.v x).trans (by kernel_rfl)
theorem Xb (x):Mn x=(My (x.1.2,x.2)):=(F4.o x).trans (by kernel_rfl)
theorem XY (x):ME x=(Bs (fun(x0:((List Int)×Int))=>(iLt x0.2 (lLen x))) (fun(x0:((List Int)×Int))=>((lSet x0.1 (iNat x0.2) (lGet x (iNat x0.2) 0)),(iAdd .i64 x0.2 1))) ((lRep (lLen x) 0),0)).1:=(Gb.v x).trans (by kernel_rfl)
theorem XV (x):MB x=((((0:Int)≤(lLen x))∧(AY ((Int.toNat (lLen x))*1)))∧(LoopOk (fun(x0:((List Int)×Int))=>(iLt x0.2 (lLen x))) (fun(x0:((List Int)×Int))=>((lSet x0.1 (iNat x0.2) (lGet x (iNat x0.2) 0)),(iAdd .i64 x0.2 1))) (fun(x0:((List Int)×Int))=>(((iLt x0.2 (lLen x))=true→((((0:Int)≤x0.2)∧(x0.2<(((List.length x):Int))))∧(((iNat x0.2)<(List.length x))∧((((0:Int)≤x0.2)∧(x0.2<(((List.length x0.1):Int))))∧((iNat x0.2)<(List.length x0.1))))))∧((iLt x0.2 (lLen x))=false→True))) ((lRep (lLen x) 0),0))):=(Gb.o x).trans (by kernel_rfl)
theorem Xc (x):Dc x=(x.1,(ME x.2)):=(DK.v x).trans (by kernel_rfl)
theorem WZ (x):I3 x=(MB x.2):=(DK.o x).trans (by kernel_rfl)
theorem XM (x):MC x=(bAnd (bNot (iNe (lLen x.1) (lLen x.2))) (bNot (iLt (Bs (fun(x0:Int)=>(bAnd (iLt x0 (lLen x.1)) (bNot (iNe (lGet x.1 (iNat x0) 0) (lGet x.2 (iNat x0) 0))))) (fun(x0:Int)=>(iAdd .i64 x0 1)) 0) (lLen x.1)))):=(F8.v x).trans (by kernel_rfl)
theorem X3 (x):Mx x=(((iNe (lLen x.1) (lLen x.2))=true→True)∧((iNe (lLen x.1) (lLen x.2))=false→(LoopOk (fun(x0:Int)=>(bAnd (iLt x0 (lLen x.1)) (bNot (iNe (lGet x.1 (iNat x0) 0) (lGet x.2 (iNat x0) 0))))) (fun(x0:Int)=>(iAdd .i64 x0 1)) (fun(x0:Int)=>(((iLt x0 (lLen x.1))=true→((((0:Int)≤x0)∧(x0<(((List.length x.1):Int))))∧(((iNat x0)<(List.length x.1))∧((((0:Int)≤x0)∧(x0<(((List.length x.2):Int))))∧((iNat x0)<(List.length x.2))))))∧((iLt x0 (lLen x.1))=false→True))) 0))):=(F8.o x).trans (by kernel_rfl)
theorem WL (x):Mw x=(bAnd (bNot (iNe x.1.1 x.2.1)) (bNot (bNot (MC (x.1.2,x.2.2))))):=(F1.v x).trans (by kernel_rfl)
theorem WN (x):Mt x=(((iNe x.1.1 x.2.1)=true→True)∧((iNe x.1.1 x.2.1)=false→(Mx (x.1.2,x.2.2)))):=(F1.o x).trans (by kernel_rfl)
attribute [irreducible] GQ My Fh Mn ME MB Dc I3 MC Mx Mw Mt
end
def NN(x:List (Int)):Prop:=x.length≤1048576
def UJ(x:List (Int)):Prop:=x.length≤9223372036854775807
theorem eA(x:List (Int))(hw:UJ x)(l:Int)(h0:0≤l)(h1:l≤1048576):My (x,l)∧(GQ (x,l)<0∨(0≤GQ (x,l)∧GQ (x,l)≤l∧NN x)):=by
 rw[XG,XN];have hl:x.length≤9223372036854775807:=hw
 have hs:iSub .i64 l (lLen x)=l-x.length:=by rw[A9];exact Ei (by unfold BD;omega)
 refine⟨trivial,?_⟩;simp only[hs,Bp,Gm,Ca];split
 · left;omega
 · right;exact⟨by omega,by omega,(by show x.length≤1048576;omega)⟩
def KJ(x:Int×List (Int)):Prop:=NN x.2∧True
def Po(x:Int×List (Int)):Prop:=UJ x.2∧True
theorem bf(x:Int×List (Int))(hw:Po x)(l:Int)(h0:0≤l)(h1:l≤1048576):Mn (x,l)∧(Fh (x,l)<0∨(0≤Fh (x,l)∧Fh (x,l)≤l∧KJ x)):=by
 rw[Xb,WX];have hx:=hw;unfold Po at hw;obtain⟨k0,g0⟩:=eA x.2 hw.1 l (by omega) (by omega);generalize hz0:GQ (x.2,l)=z0 at g0 ⊢;rcases g0 with g0|⟨g0,g0',g0''⟩
 · have hb:iLt z0 0=true:=by rw[Bp];simpa using g0
   refine⟨?_,?_⟩
   · simp[k0,hb]
   · simp only[hb,Gx];left;omega
 have hb0:iLt z0 0=false:=by rw[Bp];simpa using g0
 simp only[hb0,GB];exact⟨by simp[k0],.inr ⟨by omega,by omega,g0'',trivial⟩⟩
theorem dg(x:List (Int))(h:NN x):MB x∧ME x=x:=by
 rw[XV,XY];have h1:x.length≤1048576:=h;refine⟨⟨⟨by rw[A9];omega,bD (by rw[A9];omega) (by rw[A9];omega) (by omega)⟩,bL x 0 0 h1 (fun _=>rfl) (fun l i hi=>by simp only[Fv,Cq,BN,BC]) (fun l i hl hi=>?_)⟩,eD x 0 0 h1 (fun _=>rfl) (fun l i hi=>by simp only[Fv,Cq,BN,BC])⟩;simp only[Bp,A9,BN,Ca,BC];exact⟨fun hh=>(by omega),fun _=>trivial⟩
theorem aX(x:Int×List (Int))(h:KJ x):I3 x∧Dc x=x:=by
 rw[WZ,Xc];have k0:=dg x.2 (by unfold KJ at h;exact h.1);refine⟨k0.1,?_⟩;simp only[k0.2]
theorem dE(a b:List (Int))(h:NN a):Mx (a,b)∧(MC (a,b)=true↔a=b):=by
 rw[X3,XM];have h1:a.length≤1048576:=h;by_cases hl:a.length=b.length
 · refine⟨⟨fun _=>trivial,fun _=>ga a b 0 (fun i=>iNe (lGet a i 0) (lGet b i 0)) hl (fun i hi=>by simp[Iq,Cq]) (by omega) (fun i hi=>by simp only[Cn,Bp,A9,BN,Dg,BC,Int.ofNat_lt]) (fun i hi=>rfl) (fun i hi=>?_)⟩,?_⟩
   · simp only[Bp,A9,BN,Ca,BC];exact⟨fun hh=>(by omega),fun _=>trivial⟩
   · have hv:=gN (c:=fun i:Int=>bAnd (iLt i (lLen a)) (bNot ((fun i=>iNe (lGet a i 0) (lGet b i 0)) i.toNat))) (f:=fun i=>iAdd .i64 i 1) a b 0 (fun i=>iNe (lGet a i 0) (lGet b i 0)) hl (fun i hi=>by simp[Iq,Cq]) (by omega) (fun i hi=>by simp only[Cn,Bp,A9,Dg,BC,Int.ofNat_lt]) (fun i hi=>rfl)
     have e1:bNot (iNe (lLen a) (lLen b))=true:=by rw[Dg,Iq,A9,A9,hl];simp
     rw[e1,Cn true,Bool.true_and,Dg (iLt _ (lLen a)),Bp _ (lLen a)];simp only[← BN,A9] at hv ⊢;simp only[C0,Di];rw[hv];simp
 · have e1:bNot (iNe (lLen a) (lLen b))=false:=by rw[Dg,Iq,A9,A9];simp;omega
   refine⟨⟨fun _=>trivial,fun h=>?_⟩,?_⟩
   · rw[Dg] at e1;rw[h] at e1;cases e1
   · rw[e1,Cn,Ow];constructor
     · intro h;cases h
     · intro e;subst e;exact absurd rfl hl
theorem aK(a b:Int×List (Int))(h:KJ a):Mt (a,b)∧(Mw (a,b)=true↔a=b):=by
 obtain⟨a0,a1⟩:=a;obtain⟨b0,b1⟩:=b;have k0:=dE a1 b1 (by unfold KJ at h;exact h.1);rw[WN,WL];refine⟨by simp[k0.1,k0.2],?_⟩;simp only[k0.1,k0.2,Dg,Cn,eB,Iq,Aj,Bool.not_not,Ca,Ak,AH]
 try (constructor<;>intro h<;>simp_all)
theorem Ti{α:Type}(x:List α)(d:α){i:Nat}(h:i<x.length):x.take i++[x.getD i d]=x.take (i+1):=by
 rw[N6,D1,Au h];rfl
theorem GY{n:Int}(h0:0≤n)(h1:n<9223372036854775808):iConv .i64 n=n:=ak (by unfold BD;omega)
def Bytes(x:List Int):Prop:=∀ a∈x,0≤a∧a<256
theorem Bytes.get{x:List Int}(h:Bytes x)(i:Nat):∃ n:Nat,n<256∧x.getD i 0=(n:Int):=by
 by_cases hi:i<x.length
 · obtain⟨h0,h1⟩:=h _ (cQ x i 0 hi);exact⟨(x.getD i 0).toNat,by omega,by omega⟩
 · exact⟨0,by omega,by rw[D1,AX (by omega)];rfl⟩
theorem Bytes.of{x:List Int}(h:CT.wf (.sl (.one (.int .u8))) x):Bytes x:=by
 intro a ha;have:=h.2 a ha;simp only[RT.wf,CT.wf] at this
 have h:IntKind.u8.min≤a∧a≤IntKind.u8.max:=by simpa [Lit.wf] using this
 have e1:IntKind.u8.min=0:=by decide
 have e2:IntKind.u8.max=255:=by decide
 rw[e1,e2] at h;omega
def RepOk(x:Int×List Int):Prop:=(0≤x.1∧x.1≤15)∧∀ i,i<x.2.length→(1≤x.2.getD i 0∧x.2.getD i 0≤56)∧(0<i→x.2.getD (i-1) 0<x.2.getD i 0)
theorem RepOk.code{x:Int×List Int}(h:RepOk x)(i:Nat)(hi:i<x.2.length):(i:Int)+1≤x.2.getD i 0:=by
 induction i with
 |zero=>have:=(h.2 0 hi).1;omega
 | succ i ih=>
   have h1:=ih (by omega);have h2:=(h.2 (i+1) hi).2 (by omega);rw[Nat.add_sub_cancel] at h2;omega
theorem RepOk.len{x:Int×List Int}(h:RepOk x):x.2.length≤56:=by
 rcases A8 56 x.2.length with h1|h1
 · have h2:=h.code 56 h1;have h3:=(h.2 56 h1).1;omega
 · exact h1
def Hf(l:List Int)(i:Nat):Bool:=!(decide (1≤l.getD i 0)&&decide (l.getD i 0≤56))||(decide (0<i)&&decide (l.getD i 0≤l.getD (i-1) 0))
theorem SE{m:Int}{l:List Int}:((0≤m∧m≤15)∧∀ i,i<l.length→Hf l i=false)↔RepOk (m,l):=by
 unfold RepOk Hf;refine and_congr Iff.rfl (forall_congr' fun i=>imp_congr Iff.rfl ?_);simp only[Dj,JS,Aj,Ca,LS,Di];omega
theorem Yd(m:Int)(l:List Int)(h:l.length≤1048576):Kk (m,l)∧(FY (m,l)=true↔RepOk (m,l)):=by
 rw[WK,W8]
 obtain⟨a1,a2⟩:=Pr (c:=I2 (m,l)) (f:=Kj) (p:=OQ (m,l)) l.length (Hf l) (by omega) (fun i hi=>by
  simp only[I2,Hf,UO,A9,Cq,BN,Cn,Dg,E1,Bp,GD,Gw,BC];by_cases h0:0<i
  · rw[Ei (by unfold BD;omega)]
    have e:((i:Int)-1).toNat=i-1:=by omega
    rw[e];simp[h0]
  · simp[h0]) (fun i _=>rfl) (fun i hi=>by
  unfold OQ
  repeat' (first|exact trivial|assumption|decide|apply And.intro|(intro hh;(try simp(disch:=first|omega|(unfold BD;omega)) only[A9,Hs,Cq,BN,Fv,Eo,Fu,Gl,List.length_set,BP,AO,AA,List.length_replicate,D4,Fw,BC,Dp,AR,Df,Ei,G2,G1,G5,GY,Lb,Bp,Gu,GD,Gw,QN,Iq,Dg,Cn,E1,Aj,BR,LS,Dj,C0,JS,Ca,Di,Bool.not_not] at hh))|omega|(unfold AY;simp(disch:=first|omega|(unfold BD;omega)) only[A9,Hs,Cq,BN,Fv,Eo,Fu,Gl,List.length_set,BP,AO,AA,List.length_replicate,D4,Fw,BC,Dp,AR,Df,Ei,G2,G1,G5,GY,Lb];omega)|(simp(disch:=first|omega|(unfold BD;omega)) only[A9,Hs,Cq,BN,Fv,Eo,Fu,Gl,List.length_set,BP,AO,AA,List.length_replicate,D4,Fw,BC,Dp,AR,Df,Ei,G2,G1,G5,GY,Lb];done)|(simp(disch:=first|omega|(unfold BD;omega)) only[A9,Hs,Cq,BN,Fv,Eo,Fu,Gl,List.length_set,BP,AO,AA,List.length_replicate,D4,Fw,BC,Dp,AR,Df,Ei,G2,G1,G5,GY,Lb];omega)))
 refine⟨⟨a1,fun _=>trivial,fun _=>Lb _⟩,?_⟩;have hle:=Je (Hf l) l.length 0;rw[← SE,← O7,a2,UO];simp only[Cn,Dg,Bp,A9,Aj,C0,Di,Ca];omega
theorem Yo(m:Int)(l:List Int)(h:l.length≤1048576):Kl (m,l)∧(HN (m,l)=true↔RepOk (m,l)):=by
 rw[WE,Wy]
 obtain⟨a1,a2⟩:=Pr (c:=Mk (m,l)) (f:=OO) (p:=OP (m,l)) l.length (Hf l) (by omega) (fun i hi=>by
  simp only[Mk,Hf,aC,A9,Cq,BN,Cn,Dg,E1,Bp,GD,Gw,BC];by_cases h0:0<i
  · rw[Ei (by unfold BD;omega)]
    have e:((i:Int)-1).toNat=i-1:=by omega
    rw[e];simp[h0]
  · simp[h0]) (fun i _=>rfl) (fun i hi=>by
  unfold OP
  repeat' (first|exact trivial|assumption|decide|apply And.intro|(intro hh;(try simp(disch:=first|omega|(unfold BD;omega)) only[A9,Hs,Cq,BN,Fv,Eo,Fu,Gl,List.length_set,BP,AO,AA,List.length_replicate,D4,Fw,BC,Dp,AR,Df,Ei,G2,G1,G5,GY,Ng,Bp,Gu,GD,Gw,QN,Iq,Dg,Cn,E1,Aj,BR,LS,Dj,C0,JS,Ca,Di,Bool.not_not] at hh))|omega|(unfold AY;simp(disch:=first|omega|(unfold BD;omega)) only[A9,Hs,Cq,BN,Fv,Eo,Fu,Gl,List.length_set,BP,AO,AA,List.length_replicate,D4,Fw,BC,Dp,AR,Df,Ei,G2,G1,G5,GY,Ng];omega)|(simp(disch:=first|omega|(unfold BD;omega)) only[A9,Hs,Cq,BN,Fv,Eo,Fu,Gl,List.length_set,BP,AO,AA,List.length_replicate,D4,Fw,BC,Dp,AR,Df,Ei,G2,G1,G5,GY,Ng];done)|(simp(disch:=first|omega|(unfold BD;omega)) only[A9,Hs,Cq,BN,Fv,Eo,Fu,Gl,List.length_set,BP,AO,AA,List.length_replicate,D4,Fw,BC,Dp,AR,Df,Ei,G2,G1,G5,GY,Ng];omega)))
 refine⟨⟨fun _=>trivial,fun _=>a1⟩,?_⟩;have hle:=Je (Hf l) l.length 0;rw[← SE,← O7,a2];simp only[Cn,Dg,E1,Bp,GD,A9,Aj,C0,Dj,Di,Ca];omega
theorem Yy(x:Int×List Int)(h:x.2.length≤1048576):Kk x∧Kl x∧HN x=FY x∧(FY x=true↔RepOk x):=by
 obtain⟨m,l⟩:=x;obtain⟨a1,a2⟩:=Yd m l h;obtain⟨b1,b2⟩:=Yo m l h;exact⟨a1,b1,by rw[Bool.eq_iff_iff,a2,b2],a2⟩
section
set_option maxRecDepth 20000
theorem KW{n:Nat}(h:n≤1048577000):AY n:=by unfold AY;exact Es h (by decide)
theorem dT(s:List UInt8)(j:Int):sGet s j=((s.getD j.toNat 0).toNat:Int):=by simp only[Vk]
theorem H8(s:List UInt8):sRow s=s.map fun b=>((b.toNat:Nat):Int):=by simp only[Vc]
theorem dh(l:List Int):rowS l=l.map fun n=>UInt8.ofNat n.toNat:=by simp only[Ve]
theorem Z0(s:List UInt8):rowS (sRow s)=s:=by
 rw[H8,dh,List.map_map]
 conv=>rhs;rw[← List.map_id s]
 apply List.map_congr_left;intro b _;simp
theorem TT(a b:List UInt8):sRow (a++b)=sRow a++sRow b:=by rw[H8,H8,H8,D2]
theorem TU(a:List UInt8):(sRow a).length=a.length:=by rw[H8,A3]
def D0:List UInt8→Int→List (List UInt8)
 |[],_=>[[]]
 |b::r,c=>if (b.toNat:Int)=c then []::D0 r c else match D0 r c with|[]=>[[b]]|w::ws=>(b::w)::ws
theorem Ss:∀ (s:List UInt8) (c:Int),(∀ b∈s,(b.toNat:Int)≠c)→D0 s c=[s]
 |[],_,_=>rfl
 | b::r,c,h=>by
   have e:=Ss r c (fun x hx=>h x (by simp[hx]))
   simp[D0,h b (by simp),e]
theorem Tj:∀ (a:List UInt8) (b:UInt8) (r:List UInt8) (c:Int),(∀ x∈a,(x.toNat:Int)≠c)→(b.toNat:Int)=c→D0 (a++b::r) c=a::D0 r c
 |[],b,r,c,_,h=>by simp[D0,h]
 | x::a,b,r,c,ha,h=>by
   have e:=Tj a b r c (fun y hy=>ha y (by simp[hy])) h
   simp[D0,ha x (by simp),e]
theorem Zo{s:List UInt8}{F I:Nat}(h:F≤I)(hI:I<s.length):s.drop F=(s.drop F).take (I-F)++s.getD I 0::s.drop (I+1):=by
 rw[D1,Au hI,Ij]
 conv=>lhs;rw[← List.take_append_drop (I-F) (s.drop F)]
 rw[List.drop_drop,show F+(I-F)=I by omega,N4 hI]
theorem aQ(s:List UInt8)(c:Int)(h:s.length≤1048576):Mm (s,c)∧Mr (s,c)=D0 s c:=by
 rw[Wr,Wv]
 have key:=TV (c:=Kf (s,c)) (f:=Mi (s,c)) (p:=ON (s,c))
  (fun st=>∃ (out:List (List UInt8)) (F I:Nat),st=(out,(F:Int),(I:Int))∧out.length≤I∧((F≤I∧I≤s.length∧(∀ b∈(s.drop F).take (I-F),(b.toNat:Int)≠c)∧D0 s c=out++D0 (s.drop F) c)∨(I=s.length+1∧D0 s c=out)))
  (fun st=>s.length+1-st.2.2.toNat) (fun st hI=>?_) (x0:=([],0,0)) ⟨[],0,0,rfl,by simp,.inl ⟨AK _,Fy _,by simp,rfl⟩⟩
 · obtain⟨k1,⟨out,F,I,e,_,hh⟩,k2⟩:=key;refine⟨k1,?_⟩;rw[e] at k2 ⊢;simp only[Kf,Gu,A9,Di] at k2;rcases hh with⟨_,h1,_⟩|⟨_,h1⟩
   · omega
   · exact h1.symm
 · obtain⟨out,F,I,rfl,hl,hh⟩:=hI;simp only[Kf,Mi,ON,Gu,QN,A9,BN,BC,Fu,Eo,dT,E1,Gm,Ca,Di,AO,AA]
   have ha:iAdd .i64 (I:Int) 1=((I+1:Nat):Int):=by
    rw[Df (by unfold BD;rcases hh with⟨_,h1,_⟩|⟨h1,_⟩<;>omega)];rfl
   rw[ha];rcases hh with⟨hFI,hIl,hfree,hs⟩|⟨hI1,hs⟩
   · refine⟨⟨fun _=>⟨⟨fun _=>trivial,fun hne=>⟨by omega,by omega⟩⟩,fun _=>⟨⟨⟨by omega,by omega⟩,by omega,by omega⟩,KW (by omega)⟩,fun _=>trivial⟩,fun _=>trivial⟩,fun _=>?_⟩;by_cases hlt:I<s.length
     · have hne:decide ((I:Int)=(s.length:Int))=false:=JC (by omega);rw[hne,Bool.false_or];by_cases hc:((s.getD I 0).toNat:Int)=c
       · simp only[hc,decide_true,Az];refine⟨⟨_,I+1,I+1,rfl,by simp;omega,.inl ⟨AK _,by omega,by simp,?_⟩⟩,by simp only[BC];omega⟩;rw[hs]
         conv=>lhs;rw[Zo hFI hlt,Tj _ _ _ _ hfree hc]
         simp
       · simp only[hc,decide_false,Aw,AM];refine⟨⟨_,F,I+1,rfl,by omega,.inl ⟨by omega,by omega,fun b hb=>?_,hs⟩⟩,by simp only[BC];omega⟩
         have e:(s.drop F).take (I+1-F)=(s.drop F).take (I-F)++[s.getD I 0]:=by
          rw[show I+1-F=(I-F)+1 by omega,N6,Ip,show F+(I-F)=I by omega,Au hlt,D1,Au hlt];rfl
         rw[e,CZ,List.mem_singleton] at hb;rcases hb with hb|rfl
         · exact hfree b hb
         · exact hc
     · have e:I=s.length:=by omega
       subst e;simp only[decide_true,Bool.true_or,Az];refine⟨⟨_,s.length+1,s.length+1,rfl,by simp;omega,.inr ⟨rfl,?_⟩⟩,by simp only[BC];omega⟩;have e2:(s.drop F).take (s.length-F)=s.drop F:=Og (by rw[Fw];exact AK _);rw[e2] at hfree ⊢;rw[hs,Ss _ _ hfree]
   · subst hI1;refine⟨⟨fun hh=>by omega,fun _=>trivial⟩,fun hh=>by omega⟩
theorem Y3:D0 B0 32=BF:=by decide
theorem Zi:Mv PUnit.unit∧I7 PUnit.unit=BF:=by
 rw[XC,Xz];have:=aQ B0 32 (by decide);rw[Y3] at this;exact this
theorem O0(k:Int):Mq k∧Mo k∧Kr k=Cp k∧(Cp k).length≤5:=by
 obtain⟨n1,n2⟩:=Zi;have hl:BF.length=56:=rfl
 have hw:∀ w∈BF,w.length≤5:=by decide
 rw[WO,W2,WI,WD,n2,Wz,Xf];simp only[MK,ML,Dg,Cn,E1,Gm,Gw,Gu,Bp,GD,Cq,BN,hl];by_cases h:1≤k∧k≤56
 · have e:iSub .i64 k 1=k-1:=Ei (by unfold BD;omega);rw[e];have d1:decide (1≤k)=true:=G6 h.1;have d2:decide (k≤56)=true:=G6 h.2;have d3:decide (k<1)=false:=JC (by omega);have d4:decide (56<k)=false:=JC (by omega);simp only[d1,d2,d3,d4];refine⟨⟨trivial,fun h=>(by cases h),fun _=>⟨n1,⟨by omega,by omega⟩,by omega⟩⟩,⟨fun h=>(by cases h),fun _=>⟨⟨⟨by first|rfl|trivial,by first|rfl|trivial⟩,trivial⟩,⟨by omega,by omega⟩,by omega⟩⟩,rfl,?_⟩;show (BF.getD (k-1).toNat []).length≤5;rw[D1,Au (show (k-1).toNat<BF.length by omega)];exact hw _ (CX _)
 · have d:(decide (1≤k)&&decide (k≤56))=false:=by
    rw[LS,Di,Di];omega
   have d':(decide (k<1)||decide (56<k))=true:=by
    rw[BR,Ca,Ca];omega
   simp only[d,d'];exact⟨⟨trivial,fun _=>trivial,fun h=>(by cases h)⟩,⟨fun _=>trivial,fun h=>(by cases h)⟩,rfl,by simp⟩
def gQ(m:Int)(k:Nat):Bool:=iEq (iAnd .i64 (iShr .i64 m (k:Int)) 1) 1
def fm(m:Int):Nat→List UInt8
 |0=>[]
 |k+1=>if gQ m k then fm m k++[([67,83,65,71]:List UInt8).getD k 0] else fm m k
theorem Lj(m:Int):∀ k,(fm m k).length≤k
 |0=>AK _
 | k+1=>by
   unfold fm
   split
   · simp;exact Lj m k
   · exact Nat.le_succ_of_le (Lj m k)
theorem b7(m:Int):Ki m∧Kg m∧HL m=EG m∧(EG m=fm m 4∨EG m=[]):=by
 rw[Wk,Wm,Wh,Wi];by_cases h:1≤m∧m≤15
 · have d1:Dd (m,1,15)=true:=by simp only[ML,Cn,Gw,Gu];simp[h.1,h.2]
   have d2:bOr (iLt m 1) (iGt m 15)=false:=by simp only[E1,Bp,GD,Dj,Di];omega
   have hk:∀ k:Nat,k<4→k=0∨k=1∨k=2∨k=3:=fun k hk=>by omega
   have ad:∀ k:Nat,k<4→iAdd .i64 (k:Int) 1=((k+1:Nat):Int):=fun k hk=>by rw[Df (by unfold BD;omega)];rfl
   have sub:∀ k:Nat,k<4→lSub ([67,83,65,71]:List UInt8) k (k+1)=[([67,83,65,71]:List UInt8).getD k 0]:=fun k h4=>by
    rw[Fu];rcases hk k h4 with rfl|rfl|rfl|rfl<;>rfl
   have gt:∀ k:Nat,k<4→lGet ([[67],[83],[65],[71]]:List (List UInt8)) k []=[([67,83,65,71]:List UInt8).getD k 0]:=fun k h4=>by
    rw[Cq];rcases hk k h4 with rfl|rfl|rfl|rfl<;>rfl
   have L1:=H5 (c:=HJ m) (f:=Kd m) (p:=I1 m) 4 (fun k=>(fm m k,(k:Int))) (x0:=([],0)) rfl (fun k h4=>by
    have i4:iLt (k:Int) 4=true:=by rw[Bp];exact G6 (by omega)
    have len:=Lj m k;simp only[HJ,Kd,I1,d1,i4,ad k h4,sub k h4,Cn,BJ,MK,BN,BC,AO,AA];refine⟨⟨⟨fun _=>trivial,fun h=>(by cases h)⟩,fun _=>⟨by omega,fun _=>⟨⟨⟨by omega,by omega⟩,by omega,by omega⟩,by omega⟩,fun _=>trivial⟩,fun h=>(by cases h)⟩,trivial,?_⟩;rw[fm,Gm,Qq]
    rfl) (by
    have i4:iLt ((4:Nat):Int) 4=false:=by rw[Bp];rfl
    simp only[HJ,I1,i4,Cn,Ow]
    exact⟨⟨⟨fun h=>(by cases h),fun _=>trivial⟩,fun h=>(by cases h),fun _=>trivial⟩,trivial⟩)
   have L2:=H5 (c:=Ke) (f:=Mg m) (p:=Mh m) 4 (fun k=>(fm m k,(k:Int))) (x0:=([],0)) rfl (fun k h4=>by
    have i4:iLt (k:Int) (lLen ([[67],[83],[65],[71]]:List (List UInt8)))=true:=by rw[Bp,A9];exact G6 (by simp;omega)
    have len:=Lj m k;simp only[Ke,Mg,Mh,i4,ad k h4,gt k h4,YZ,Za,BN,BC,AO,AA];refine⟨⟨fun _=>⟨⟨by omega,by omega⟩,by omega,by omega,fun _=>by omega,fun _=>trivial⟩,fun h=>(by cases h)⟩,trivial,?_⟩;rw[fm,Gm,Qq]
    rfl) (by
    have i4:iLt ((4:Nat):Int) (lLen ([[67],[83],[65],[71]]:List (List UInt8)))=false:=by rw[Bp,A9];rfl
    simp only[Ke,Mh,i4]
    exact⟨⟨fun h=>(by cases h),fun _=>trivial⟩,trivial⟩)
   rw[L1.2,L2.2,d2];exact⟨L1.1,⟨fun h=>(by cases h),fun _=>L2.1⟩,by rw[Gm];rfl,.inl rfl⟩
 · have d1:Dd (m,1,15)=false:=by
    simp only[ML,Cn,Gw,Gu,LS,Di];omega
   have d2:bOr (iLt m 1) (iGt m 15)=true:=by simp only[E1,Bp,GD,BR,Ca];omega
   have L1:=H5 (c:=HJ m) (f:=Kd m) (p:=I1 m) 0 (fun _=>([],0)) (x0:=([],0)) rfl (fun k h=>by omega) (by
    simp only[HJ,I1,d1,Cn,Bool.and_false,MK]
    exact⟨⟨⟨fun _=>trivial,fun _=>trivial⟩,fun h=>(by cases h),fun _=>trivial⟩,trivial⟩)
   rw[L1.2,d2];exact⟨L1.1,⟨fun _=>trivial,fun h=>(by cases h)⟩,by rw[Gm];rfl,.inr rfl⟩
theorem bK(m:Int):Ki m∧Kg m∧HL m=EG m∧(EG m).length≤4:=by
 obtain⟨a,b,c,d⟩:=b7 m;refine⟨a,b,c,?_⟩;rcases d with d|d<;>rw[d]
 · exact Lj m 4
 · simp
theorem TA(sep x:List UInt8):∀ (l:List (List UInt8)),Bz (l++[x]) sep=if l=[] then x else Bz l sep++sep++x
 |[]=>by simp[Bz,List.intercalate]
 |[a]=>by simp[Bz,List.intercalate]
 | a::b::r=>by
   have:=TA sep x (b::r)
   simp only[Bz,List.intercalate,BT,List.intersperse,Et,reduceCtorEq,AM] at this ⊢
   rw[this]
   simp
theorem P2(sep:List UInt8)(W:Nat):∀ (l:List (List UInt8)),(∀ w∈l,w.length+sep.length≤W)→(Bz l sep).length≤l.length*W
 |[],_=>by simp[Bz,List.intercalate]
 | [a],h=>by
   have:=h a (by simp)
   simp[Bz,List.intercalate];omega
 | a::b::r,h=>by
   have i:=P2 sep W (b::r) (fun w hw=>h w (by simp[hw]))
   have:=h a (by simp)
   simp only[Bz,List.intercalate,List.intersperse,Et,BP,AO] at i ⊢
   rw[Co (r.length+1) 1 W]
   omega
theorem cG(xs:List (List UInt8))(sep:List UInt8)(hl:xs.length≤1048576)(hw:∀ w∈xs,w.length+sep.length≤100):Ms (xs,sep)∧Kq (xs,sep)=Bz xs sep:=by
 rw[WM,WV]
 have tl:∀ k,(Bz (xs.take k) sep).length≤104857600:=fun k=>by
  have h1:=P2 sep 100 (xs.take k) (fun w hw'=>hw w (Iu hw'))
  have h2:(xs.take k).length≤1048576:=by rw[D4];omega
  exact Es h1 (Nat.mul_le_mul h2 (AK _))
 have L:=H5 (c:=Kh (xs,sep)) (f:=Ml (xs,sep)) (p:=Mj (xs,sep)) xs.length (fun k=>(sRow (Bz (xs.take k) sep),(k:Int))) (x0:=([],0)) (by simp[Bz,List.intercalate,H8]) (fun k hk=>by
  have i1:iLt (k:Int) (lLen xs)=true:=by rw[Bp,A9];exact G6 (by omega)
  have ad:iAdd .i64 (k:Int) 1=((k+1:Nat):Int):=by rw[Df (by unfold BD;omega)];rfl
  have gk:lGet xs k []=xs.getD k []:=Cq _ _ _
  have hwk:(xs.getD k []).length+sep.length≤100:=by
   rw[D1,Au hk];exact hw _ (CX _)
  have tk:=tl k
  have sn:Bz (xs.take (k+1)) sep=if xs.take k=[] then xs.getD k [] else Bz (xs.take k) sep++sep++xs.getD k []:=by
   rw[← Ti xs [] hk,TA]
  simp only[Kh,Ml,Mj,i1,ad,gk,Eo,BN,BC,TU,BP];refine⟨⟨fun _=>⟨⟨fun _=>KW (by omega),fun _=>trivial⟩,⟨by omega,by omega⟩,hk,?_⟩,fun h=>(by cases h)⟩,trivial,?_⟩
  · refine KW ?_;rw[Gm];split<;>simp only[BP,TU]<;>omega
  · rw[sn,Gm,GD];rcases Lr k with rfl|h0
    · simp[H8,Bz,List.intercalate]
    · have h1:xs.take k≠[]:=fun e=>by
       have:=congrArg List.length e;rw[D4,AA] at this;omega
      have h2:decide ((0:Int)<(k:Int))=true:=G6 (by omega)
      rw[Ad h1,h2,Ab rfl,TT,TT]) (by
  have i1:iLt (xs.length:Int) (lLen xs)=false:=by rw[Bp,A9];exact JC (by omega)
  simp only[Kh,Mj,i1]
  exact⟨⟨fun h=>(by cases h),fun _=>trivial⟩,trivial⟩)
 rw[L.2,Iz,Z0];exact⟨L.1,rfl⟩
theorem WU(x:Int×List Int)(h:x.2.length≤1048576):Kb x∧Kc x∧HK x=GO x∧GO x=bSel (bNot (FY x)) [] (EG x.1++[58]++Bz (x.2.map Cp) [44]):=by
 obtain⟨m,K⟩:=x;obtain⟨r1,r2,r3,_⟩:=Yy (m,K) h;obtain⟨m1,m2,m3,m4⟩:=bK m;rw[V9,V4,Wa,V7,r3,m3];have h:K.length≤1048576:=h
 have stp:∀ k,k<K.length→(K.take (k+1)).map Cp=(K.take k).map Cp++[Cp (K.getD k 0)]:=fun k hk=>by
  rw[← Ti K 0 hk,D2];rfl
 have L1:=H5 (c:=HI (m,K)) (f:=IZ (m,K)) (p:=Me (m,K)) K.length (fun k=>((K.take k).map Cp,(k:Int))) (x0:=([],0)) (by simp) (fun k hk=>by
  have i1:iLt (k:Int) (lLen K)=true:=by rw[Bp,A9];exact G6 (by omega)
  have ad:iAdd .i64 (k:Int) 1=((k+1:Nat):Int):=by rw[Df (by unfold BD;omega)];rfl
  have gk:lGet K k 0=K.getD k 0:=Cq _ _ _;simp only[HI,IZ,Me,i1,ad,gk,Eo,BN,BC,A3,D4,AO,AA,stp k hk]
  exact⟨⟨fun _=>⟨⟨by omega,by omega⟩,hk,(O0 _).1,KW (by omega)⟩,fun h=>(by cases h)⟩,trivial,trivial⟩) (by
  have i1:iLt (K.length:Int) (lLen K)=false:=by rw[Bp,A9];exact JC (by omega)
  simp only[HI,Me,i1]
  exact⟨⟨fun h=>(by cases h),fun _=>trivial⟩,trivial⟩)
 have L2:=H5 (c:=HH (m,K)) (f:=I0 (m,K)) (p:=Mf (m,K)) K.length (fun k=>((K.take k).map Cp,(k:Int))) (x0:=([],0)) (by simp) (fun k hk=>by
  have i1:iLt (k:Int) (lLen K)=true:=by rw[Bp,A9];exact G6 (by omega)
  have ad:iAdd .i64 (k:Int) 1=((k+1:Nat):Int):=by rw[Df (by unfold BD;omega)];rfl
  have gk:lGet K k 0=K.getD k 0:=Cq _ _ _;obtain⟨_,c2,c3,_⟩:=O0 (K.getD k 0);simp only[HH,I0,Mf,i1,ad,gk,c3,Eo,BN,BC,A3,D4,AO,AA,stp k hk]
  exact⟨⟨fun _=>⟨⟨by omega,by omega⟩,hk,c2,KW (by omega)⟩,fun h=>(by cases h)⟩,trivial,trivial⟩) (by
  have i1:iLt (K.length:Int) (lLen K)=false:=by rw[Bp,A9];exact JC (by omega)
  simp only[HH,Mf,i1]
  exact⟨⟨fun h=>(by cases h),fun _=>trivial⟩,trivial⟩)
 simp only[L1.2,L2.2,Iz]
 have wl:∀ w∈K.map Cp,w.length+([44]:List UInt8).length≤100:=fun w hw=>by
  obtain⟨k,hk,rfl⟩:=List.mem_map.1 hw;have:=(O0 k).2.2.2;simp only[AO,AA];omega
 have ln:(K.map Cp).length≤1048576:=by rw[A3];exact h
 obtain⟨j1,j2⟩:=cG (K.map Cp) [44] ln wl
 have jl:(Bz (K.map Cp) [44]).length≤104857600:=by
  refine Es (P2 [44] 100 _ wl) ?_;exact Nat.mul_le_mul ln (AK _)
 have j3:Mp (K.map Cp,[44]):=by
  rw[Xi,RR];exact⟨Es ln (by decide),Es jl (by decide)⟩
 have j4:Km (K.map Cp,[44])=Bz (K.map Cp) [44]:=by rw[Xg,RP]
 simp only[j2,j4,Qq,BP,AO,AA];refine⟨⟨r1,fun _=>trivial,fun _=>⟨L1.1,m1,by omega,j1,by omega⟩⟩,⟨r2,fun _=>trivial,fun _=>⟨L2.1,m2,by omega,j3,by omega⟩⟩,by first|rfl|trivial,by first|rfl|trivial⟩
theorem Xh(x:Int×List Int)(h:x.2.length≤1048576):Kb x∧Kc x∧HK x=GO x:=let ⟨a,b,c,_⟩:=WU x h;⟨a,b,c⟩
end
theorem V3(x:Int×List Int)(hw:TuX.wf Eh.h x):Mb x∧Mc x=true:=by
 rw[V1,VY];have hwl:Po x:=⟨hw.2.1,trivial⟩;obtain⟨k1,k2⟩:=bf x hwl 1048576 (by omega) (by omega);rcases k2 with k2|⟨k2,_,k3⟩
 · have e:iLt (Fh (x,1048576)) 0=true:=by rw[Bp];simpa using k2
   simp only[e];simp[E1,k1]
 · have e:iLt (Fh (x,1048576)) 0=false:=by rw[Bp];simpa using k2
   obtain⟨t1,t2⟩:=aX x k3;obtain⟨q1,q2⟩:=aK x x k3;have q2:=q2.2 rfl;have hl:x.2.length≤1048576:=k3.1;obtain⟨r1,r2,r3⟩:=Xh x hl;rw[t2,r3];simp only[e,k1,t1,r1,r2,q1,q2];simp[E1,Cn,Dg,fk]
end
end Go.Ag
