/- Part 5 of what FnExactFormatKeymap needs. No conditions. -/
import Derived.WalkKit
import Derived.ProofKit
import Derived.OpenShut
import Derived.Carry
import Derived.ChangeSame
import Derived.Attr
import Derived.KernelRfl
import Derived.Below
import Derived.Lib.Join
import Derived.Lib.Split
import Derived.Lib.Bytealg
import Derived.Lib.ItoaNum
import Derived.Test.YtkjnachjeoeihaaDoorLibD
namespace Go.Ag
set_option linter.unusedSimpArgs false
set_option linter.unusedVariables false
noncomputable section
theorem VN(d:DS)(c:Opnd)(t:Bool):ChgS d (setc d c t):=by
 cases c with
 |t g=>exact Rg d g t
 |c v=>exact ChgS.refl d
theorem WC{d:DS}{s:PS}{c:Opnd}{b:Bool}(hs:ES d s)(h:c.pev s.sl= .fl (.bool b)):ES (setc d c b) s:=by
 cases c with
 |t g=>exact WA hs h
 |c v=>exact hs
theorem FU:∀ (c:DCode) (d:DS),(dev c d).All (ChgS d)
 |.skip,d=>ChgS.refl d
 |.region ops,d=>Ra ops d (ChgS.refl d)
 | .regionU ops,d=>by
   simp only[dev]
   split
   · exact Ra ops d (ChgS.refl d)
   · trivial
 | .seq l a b,d=>by
   refine DT.then_all (FU a d.clean) (fun st h=>?_) (fun st h=>h.rem)
   have h1:ChgS d (H8 d (Pt l st)):=(h.trans (eg l st)).rem
   exact DT.All.imp (fun _ h2=>h1.trans h2) (FU b _)
 | .cond c a b,d=>by
   simp only[dev]
   cases hc:c.dev d.sl with
   | bool t=>
     cases t with
     |lit t=>cases t<;>first|exact FU a d|exact FU b d
     |dyn t=>exact⟨DT.All.imp (fun _ h=>(VN d c true).trans h) (FU a _),DT.All.imp (fun _ h=>(VN d c false).trans h) (FU b _)⟩
   |_=>trivial
 |.block i a,d=>DT.unexit_all i (FU a d)
 |.loop live n a,d=>fI (fun d=>FU a d.clean) d
 |.exit i,d=>ChgS.refl d
 |.ret,d=>ChgS.refl d
theorem Fy:∀ (c:DCode),AllD c.obs→∀ {d d':DS} {s:PS} {e:AExit} {k:DX},ES d s→(dev c d).ok.den→(dev c d).lf=some (e,d')→(∀ s',ES d' s'→k e s')→Ew c.er k s
 | .skip,_,d,d',s,e,k,hs,hok,hl,hk=>by
   simp only[dev,DT.lf,Ah,Ak] at hl
   obtain⟨rfl,rfl⟩:=hl
   exact hk s hs
 | .region ops,ho,d,d',s,e,k,hs,hok,hl,hk=>by
   have he:=WX ops hl
   subst he
   exact Se ops ho rfl hk d s hs hok hl
 | .regionU ops,ho,d,d',s,e,k,hs,hok,hl,hk=>by
   simp only[dev] at hok hl
   split at hok
   · rename_i hp
     rw[Ab hp] at hl
     have he:=WX ops hl
     subst he
     exact⟨hp,Se ops ho rfl hk d s hs hok hl⟩
   · exact hok.elim
 | .seq l a b,ho,d,d',s,e,k,hs,hok,hl,hk=>by
   obtain⟨h1,h2⟩:=ho.app
   obtain⟨hoa,hc⟩:=DT.then_s (FU a d.clean) hok hl
   simp only[DCode.er,Ew]
   rcases hc with⟨st0,m,hla,hm,hch,hob,hlb⟩|⟨he,st0,hla,rfl⟩
   · refine Fy a h1 hs.clean hoa hla fun s' hs'=>?_
     exact Fy b h2 (((hm s' hs').trim l).rem) hob hlb hk
   · refine Fy a h1 hs.clean hoa hla fun s' hs'=>?_
     cases e<;>first|(cases he;done)|exact hk s' hs'.rem
 | .cond c a b,ho,d,d',s,e,k,hs,hok,hl,hk=>by
   obtain⟨h1,h2⟩:=ho.app
   have hv:=c.dev_ev hs
   simp only[dev] at hok hl
   simp only[DCode.er,Ew]
   cases hc:c.dev d.sl with
   | bool t=>
     rw[hc] at hok hl hv
     have hp:=hv.of (by simp)
     simp only[DV.enc] at hp
     rw[hp]
     simp only
     cases t with
     | lit t=>
       cases t with
       |true=>exact Fy a h1 hs hok hl hk
       |false=>exact Fy b h2 hs hok hl hk
     | dyn t=>
       have hok:=(PX.if_den _ _ _).mp hok
       cases t with
       |true=>exact Fy a h1 (WC hs hp) (hok.1 rfl) hl hk
       |false=>exact Fy b h2 (WC hs hp) (hok.2 rfl) hl hk
   |_=>rw[hc] at hok;exact hok.elim
 | .block i a,ho,d,d',s,e,k,hs,hok,hl,hk=>by
   simp only[dev,DT.unexit_ok,DT.unexit_lf] at hok hl
   obtain⟨e0,d0,h0⟩:=DT.ok_lf hok
   rw[h0] at hl
   simp only[BB,Ah,Ak] at hl
   obtain⟨rfl,rfl⟩:=hl
   refine Fy a ho hs hok h0 fun s' hs'=>?_
   have:=hk s' hs'
   cases e0 with
   |normal=>exact this
   |ret=>exact this
   | exit j=>
     simp only[RQ]
     simp only[AExit.un] at this
     split
     · rename_i hj;rw[Ab hj] at this;exact this
     · rename_i hj;rw[Ad hj] at this;exact this
 | .loop live n a,ho,d,d',s,e,k,hs,hok,hl,hk=>by
   simp only[dev] at hok hl
   exact jg (fun d=>FU a d.clean) (fun d s e d' k hs hok hl hk=>Fy a ho hs.clean hok hl hk) hs hok hl hk
 | .exit i,_,d,d',s,e,k,hs,hok,hl,hk=>by
   simp only[dev,DT.lf,Ah,Ak] at hl
   obtain⟨rfl,rfl⟩:=hl
   exact hk s hs
 | .ret,_,d,d',s,e,k,hs,hok,hl,hk=>by
   simp only[dev,DT.lf,Ah,Ak] at hl
   obtain⟨rfl,rfl⟩:=hl
   exact hk s hs
mutual
def DV.flt:DV→Bool
 |.bool _|.int _ _|.str _|.ifc _=>true
 |.agg cs=>DV.fltL cs
 |.tup vs=>DV.fltL vs
 |_=>false
def DV.fltL:List DV→Bool
 |[]=>true
 |v::r=>v.flt&&DV.fltL r
end
mutual
theorem RZ:∀ (v:DV),v.flt=true→v.enc.flt=true
 |.bool _,_|.int _ _,_|.str _,_|.ifc _,_=>rfl
 |.agg cs,h=>Rh cs h
 |.tup cs,h=>Rh cs h
theorem Rh:∀ (l:List DV),DV.fltL l=true→PV.fltL (DV.encL l)=true
 |[],_=>rfl
 | v::r,h=>by
   simp only[DV.fltL,Ai] at h
   simp only[DV.encL,PV.fltL,RZ v h.1,Rh r h.2,BU]
end
theorem QX:∀ (l:List DV),F6 l=true→DV.okL l=true
 |[],_=>rfl
 | v::r,h=>by
   simp only[F6,Ai] at h
   have:v.ok=true:=by cases v<;>first|rfl|(have:=h.1;cases this)
   simp only[DV.okL,this,QX r h.2,BU]
theorem EBx.segm2{a:List DC}{b:List PV}{o n:Nat}(h:EBx a b)(hl:o+n≤a.length)(hk:DV.okL (Bf (Bj a) o n)=true):Go.Ag.segm b o n=DV.encL (Bf (Bj a) o n)∧o+n≤b.length:=by
 rcases h with rfl|h
 · simp only[AW,Nat.le_zero_eq,Nat.add_eq_zero_iff] at hl;obtain⟨rfl,rfl⟩:=hl;refine⟨?_,Ft _⟩;cases b<;>rfl
 · exact⟨h.segm o n hk,by rw[← h.len];exact hl⟩
theorem VG{st st':DS}{s:PS}{r:ARes}{v:DV}(hs:ES st s)(h:Mt st r=some (v,st'))(hv:v.ok=true):∃ s',FX s r=some (v.enc,s')∧ES st' s':=by
 cases r with
 | tmp t=>
   simp only[Mt] at h;split at h
   · rename_i hc;simp only[Ai] at hc;simp only[Ah] at h
     have hk:(AJ (.t t) st).1.ok=true:=by
      have:(AJ (.t t) st).1=v:=by simp only[AJ,h]
      rw[this];exact hv
     obtain⟨m1,m2⟩:=C7 (.t t) hs hk
     have hne:AR st.sl t≠.any:=by intro e;rw[e] at hc;cases hc.2
     have hp:=(hs.sl.get t).of hne;simp only[AJ,h,mvOut] at m1 m2;refine⟨(Dl (Aa s.sl t) t s).2,?_,m2⟩;simp only[FX];rw[Ab (by rw[hp];exact eD _ hc.1),← m1]
   · cases h
 | cell t n=>
   simp only[Mt] at h;have hp:=hs.sl.get t
   cases hv:AR st.sl t with
   | box i o=>
     rw[hv] at h hp;have hp:=hp.of (by simp);simp only at h;split at h
     · rename_i hc;simp only[Ai] at hc;simp only[Bd] at h;obtain⟨⟨g,r⟩,h1,h2⟩:=h;simp only at h2;subst h2;obtain⟨e1,e2⟩:=(hs.bx.get i).segm2 (BR hc.1) (QX _ hc.2)
       have hg:g= .tt:=by
        unfold Jc at h1;simp only[AD] at h1;split at h1
        · simp only[Bd,Ak] at h1;obtain⟨_,_,rfl,_⟩:=h1;rfl
        · cases h1
       subst hg;obtain⟨s',e3,e4⟩:=T0 (p:=.box i o) hs (.inr rfl) h1;refine⟨s',?_,e4⟩;simp only[FX,hp,DV.enc];rw[Ab ⟨e2,by rw[e1];exact Ov _ hc.2⟩];exact e3
     · cases h
   | ptr i o=>
     rw[hv] at h hp;have hp:=hp.of (by simp);simp only at h;split at h
     · rename_i hc;simp only[Ai] at hc;simp only[Bd] at h;obtain⟨⟨g,r⟩,h1,h2⟩:=h;simp only at h2;subst h2;obtain⟨e1,e2⟩:=(hs.hp.get i).segm2 (BR hc.1) (QX _ hc.2)
       have hg:g= .tt∧i<st.hp.length:=by
        unfold HF at h1;simp only[AD] at h1;split at h1
        · rename_i hb;simp only[Ai] at hb;simp only[Bd,Ak] at h1;obtain⟨_,_,rfl,_⟩:=h1;exact⟨rfl,BR hb.1.1⟩
        · cases h1
       obtain⟨rfl,hi⟩:=hg;obtain⟨s',e3,e4⟩:=T8 (p:=.ptr i o) hs (.inr rfl) h1 trivial;refine⟨s',?_,e4⟩;simp only[FX,hp,DV.enc];rw[Ab ⟨by rw[← hs.hp.len];exact hi,e2,by rw[e1];exact Ov _ hc.2⟩];exact e3
     · cases h
   |_=>rw[hv] at h;cases h
theorem U7:∀ {res:List ARes} {st st':DS} {s:PS} {vs:List DV},ES st s→Kl st res=some (vs,st')→DV.okL vs=true→∃ s',FW s res=some (DV.encL vs,s')∧ES st' s'
 | [],st,st',s,vs,hs,h,_=>by
   simp only[Kl,Ah,Ak] at h
   obtain⟨rfl,rfl⟩:=h
   exact⟨s,rfl,hs⟩
 | r :: rs,st,st',s,vs,hs,h,hk=>by
   simp only[Kl] at h
   split at h
   · rename_i v st1 h1
     split at h
     · rename_i vs1 st2 h2
       simp only[Ah,Ak] at h
       obtain⟨rfl,rfl⟩:=h
       simp only[DV.okL,Ai] at hk
       obtain⟨s1,e1,e2⟩:=VG hs h1 hk.1
       obtain⟨s2,e3,e4⟩:=U7 e2 h2 hk.2
       exact⟨s2,by simp only[FW,e1,e3,DV.encL],e4⟩
     · cases h
   · cases h
theorem Wg:∀ {res:List ARes} {st:DS} {s:PS} {v:DV},ES st s→Ej st res=some v→v.ok=true→∃ s',Jn s res=some (v.enc,s'):=by
 have gen:∀ {res:List ARes} {st:DS} {s:PS} {v:DV},ES st s→v.ok=true→(Kl st res).map (fun x=>DV.tup x.1)=some v→∃ s',(FW s res).map (fun(vs,st)=>(PV.tup vs,st))=some (v.enc,s'):=fun hs hv h=>by
  simp only[Bd] at h;obtain⟨⟨vs,st'⟩,h1,rfl⟩:=h;obtain⟨s',e1,_⟩:=U7 hs h1 hv;exact⟨s',by rw[e1];rfl⟩
 intro res st s v hs h hv
 cases res with
 |nil=>exact gen (res:=[]) hs hv h
 | cons r rs=>
   cases rs with
   | nil=>
     simp only[Ej,Bd] at h;obtain⟨⟨v',st'⟩,h1,rfl⟩:=h;obtain⟨s',e1,_⟩:=VG hs h1 hv;exact⟨s',e1⟩
   |cons r2 rs=>exact gen (res:=r::r2::rs) hs hv h
theorem KE {res:List ARes}:∀ {t:DT} {g:PX} {v:DV},t.val res=(g,some v)→v≠.any→g.den →
 t.ok.den∧∃ e st v0,t.lf=some (e,st)∧(∀ i,e≠.exit i)∧Ej st res=some v0∧v0.ok=true∧v.enc=v0.enc
 | .leaf e st,g,v,h,hv,hg=>by
   have gen:(match Ej st res with|some v=>if (v.ok&&!v.hasPtr)=true then (PX.tt,some v) else (PX.ff,none)|none=>(PX.ff,none))=(g,some v)→Ej st res=some v∧v.ok=true:=fun h=>by
    split at h
    · split at h
      · rename_i h1 h2;simp only[Ak,Ah] at h;obtain⟨_,rfl⟩:=h;simp only[Ai] at h2;exact⟨h1,h2.1⟩
      · simp at h
    · simp at h
   cases e with
   |exit i=>simp[DT.val] at h
   |normal=>obtain⟨h1,h2⟩:=gen h;exact⟨trivial,.normal,st,v,rfl,by simp,h1,h2,rfl⟩
   |ret=>obtain⟨h1,h2⟩:=gen h;exact⟨trivial,.ret,st,v,rfl,by simp,h1,h2,rfl⟩
 | .node c a b,g,v,h,hv,hg=>by
   simp only[DT.val] at h
   have hno:∀ {t:DT} {g:PX},t.val res=(g,none)→¬ g.den:=by
    intro t
    induction t with
    | leaf e st=>
      intro g h;cases e<;>simp only[DT.val] at h<;>(repeat' split at h)<;>simp only[Ak,reduceCtorEq,and_false,and_true] at h<;>subst h<;>exact id
    | node c x y ih1 ih2=>
      intro g h hg;simp only[DT.val] at h
      cases h1:x.val res with
      | mk g1 v1=>
        cases h2:y.val res with
        | mk g2 v2=>
          rw[h1,h2] at h
          cases v1 with
          | none=>
            simp only[Ak] at h;obtain⟨rfl,rfl⟩:=h;have:=(PX.if_den _ _ _).mp hg
            cases c with
            |true=>exact ih1 h1 (this.1 rfl)
            |false=>exact ih2 h2 (this.2 rfl)
          |some v1=>cases v2<;>simp at h
    | chk g0 t ih=>
      intro g h hg;simp only[DT.val] at h
      cases h1:t.val res with
      | mk g1 v1=>
        rw[h1] at h;simp only[Ak] at h;obtain⟨rfl,rfl⟩:=h;exact ih h1 ((PX.land_den _ _).mp hg).2
    | bad=>
      intro g h;simp only[DT.val,Ak,and_true] at h;subst h;exact id
   cases h1:a.val res with
   | mk g1 v1=>
     cases h2:b.val res with
     | mk g2 v2=>
       rw[h1,h2] at h
       have fin:∀ (v1 v2:DV),g=PX.if' c g1 g2→a.val res=(g1,some v1)→b.val res=(g2,some v2)→v=B6 c v1 v2→(DT.node c a b).ok.den∧∃ e st v0,(DT.node c a b).lf=some (e,st)∧(∀ i,e≠.exit i)∧Ej st res=some v0∧v0.ok=true∧v.enc=v0.enc:=by
        intro v1 v2 hgg h1 h2 hvv;subst hgg;have hg:=(PX.if_den _ _ _).mp hg;have he:=(Pa c v1 v2).resolve_left (by rw[← hvv];exact hv);rw[← hvv] at he
        have n1:v1≠.any:=by rintro rfl;apply hv;rw[hvv];cases v2<;>rfl
        have n2:v2≠.any:=by rintro rfl;apply hv;rw[hvv];cases v1<;>rfl
        show (PX.if' c a.ok b.ok).den∧∃ e st v0,(DT.node c a b).lf=some (e,st)∧(∀ i,e≠.exit i)∧Ej st res=some v0∧v0.ok=true∧v.enc=v0.enc;rw[PX.if_den]
        cases c with
        | true=>
          obtain⟨k1,e,st,v0,k2,k3,k4,k5,k6⟩:=KE h1 n1 (hg.1 rfl);exact⟨⟨fun _=>k1,fun h=>by cases h⟩,e,st,v0,k2,k3,k4,k5,by rw[he];exact k6⟩
        | false=>
          obtain⟨k1,e,st,v0,k2,k3,k4,k5,k6⟩:=KE h2 n2 (hg.2 rfl);exact⟨⟨fun h=>(by cases h),fun _=>k1⟩,e,st,v0,k2,k3,k4,k5,by rw[he];exact k6⟩
       cases v1 with
       | none=>
         simp only[Ak] at h;obtain⟨rfl,rfl⟩:=h;have hg:=(PX.if_den _ _ _).mp hg;show (PX.if' c a.ok b.ok).den∧_;rw[PX.if_den]
         cases c with
         |true=>exact absurd (hg.1 rfl) (hno h1)
         | false=>
           obtain⟨k1,e,st,v0,k2,k3,k4,k5,k6⟩:=KE h2 hv (hg.2 rfl);exact⟨⟨fun h=>(by cases h),fun _=>k1⟩,e,st,v0,k2,k3,k4,k5,k6⟩
       | some v1=>
         cases v2 with
         | none=>
           simp only[Ak,Ah] at h;obtain⟨rfl,rfl⟩:=h;have hg:=(PX.if_den _ _ _).mp hg;show (PX.if' c a.ok b.ok).den∧_;rw[PX.if_den]
           cases c with
           |false=>exact absurd (hg.2 rfl) (hno h2)
           | true=>
             obtain⟨k1,e,st,v0,k2,k3,k4,k5,k6⟩:=KE h1 hv (hg.1 rfl);exact⟨⟨fun _=>k1,fun h=>by cases h⟩,e,st,v0,k2,k3,k4,k5,k6⟩
         | some v2=>
           simp only[Ak,Ah] at h;exact fin v1 v2 h.1.symm h1 h2 h.2.symm
 | .chk g0 t,g,v,h,hv,hg=>by
   simp only[DT.val] at h
   cases h1:t.val res with
   | mk g1 v1=>
     rw[h1] at h;simp only[Ak] at h;obtain⟨rfl,rfl⟩:=h;have hg:=(PX.land_den _ _).mp hg;obtain⟨k1,k2⟩:=KE h1 hv hg.2;exact⟨(PX.land_den _ _).mpr ⟨hg.1,k1⟩,k2⟩
 |.bad,g,v,h,hv,hg=>by simp[DT.val] at h
theorem EL.append:∀ {a:List DC} {b:List PV} {c:List DC} {d:List PV},EL a b→EL c d→EL (a++c) (b++d)
 |[],[],_,_,_,h=>h
 |_::_,_::_,_,_,h,h'=>⟨h.1,EL.append h.2 h'⟩
theorem Rk:∀ (n:Nat),EL (I7 n) (F9 n)
 |0=>trivial
 |n+1=>⟨.inl rfl,Rk n⟩
theorem QY:∀ (n:Nat),EB (I9 n) (HW n)
 |0=>trivial
 |n+1=>⟨.inl rfl,QY n⟩
theorem dG {f:DFun} (ho:AllD f.body.obs) {args:List DV} {g:PX} {v:DV} (h:MY f args=(g,some v)) (hg:g.den) (hv:v≠.any) (hl:args.length=f.nparams) (hp:f.pure=true→v.flt=true)
 {Q:PV→List (List PV)→Prop} (hQ:∀ H,Q v.enc H):IU f.er (DV.encL args) [] Q:=by
 unfold MY at h
 obtain⟨hok,e,st,v0,h1,h2,h3,h4,h5⟩:=KE h hv hg
 refine⟨by rw[DJ];exact hl,fun _=>rfl,?_⟩
 refine Fy f.body ho (d:=⟨news args++I7 (f.nslots-f.nparams),I9 f.nbox,[]⟩) ⟨(EL.news args).append (Rk _),QY _,trivial⟩ hok h1 fun s' hs'=>?_
 obtain⟨s2,e2⟩:=Wg hs' h3 h4
 rw[← h5] at e2
 have fin:(match Jn s' f.res with|some (v,st)=>if f.pure=true then v.flt=true∧Q v [] else Q v st.hp|none=>False):=by
  rw[e2];simp only;split
  · rename_i hpu;exact⟨RZ v (hp hpu),hQ _⟩
  · exact hQ _
 cases e with
 |normal=>exact fin
 |ret=>exact fin
 |exit i=>exact absurd rfl (h2 i)
def TuX:List HT→Type
 |[]=>Unit
 |[a]=>a.D
 |a::r=>a.D×TuX r
def E0:(l:List HT)→List DV→Option (TuX l)
 |[],[]=>some ()
 |[a],[v]=>a.of v
 | a::b::r,v::vs=>(match a.of v,E0 (b::r) vs with
   |some x,some y=>some (x,y)
   |_,_=>none)
 |_,_=>none
def Di:(l:List HT)→TuX l→List DV
 |[],_=>[]
 |[a],x=>[a.dv x]
 |a::b::r,x=>a.dv x.1::Di (b::r) x.2
inductive QT where
 |one (h:HT)|tup (l:List HT)
def QT.D:QT→Type
 |.one h=>h.D
 |.tup l=>TuX l
def QT.of:(q:QT)→DV→Option q.D
 |.one h,v=>h.of v
 |.tup l,.tup vs=>E0 l vs
 |.tup _,_=>none
def QT.dv:(q:QT)→q.D→DV
 |.one h,x=>h.dv x
 |.tup l,x=>.tup (Di l x)
def QT.ofO(q:QT):Option DV→Option q.D
 |some v=>q.of v
 |none=>none
def WZ:(l:List (Ql×CT))→AgX l
 |[]=>()
 |[a]=>a.2.dflt
 |a::b::r=>(a.2.dflt,WZ (b::r))
def HT.dflt:(h:HT)→h.D
 |.one _ t=>t.dflt
 |.agg l=>WZ l
def WQ:(l:List HT)→TuX l
 |[]=>()
 |[a]=>a.dflt
 |a::b::r=>(a.dflt,WQ (b::r))
def QT.dflt:(q:QT)→q.D
 |.one h=>h.dflt
 |.tup l=>WQ l
def HT.flt:HT→Bool
 |.one _ t=>t.flat
 |.agg l=>l.all fun a=>a.2.flat
def QT.flt:QT→Bool
 |.one h=>h.flt
 |.tup l=>l.all HT.flt
theorem MF:∀ {l:List HT} {vs:List DV} {x:TuX l},E0 l vs=some x→DV.encL (Di l x)=DV.encL vs
 |[],[],_,_=>rfl
 | [a],[v],x,h=>by
   show [(a.dv x).enc]=[v.enc]
   rw[(Mw (t:=a) h).1]
 | a :: b::r,v::vs,x,h=>by
   have h':(match a.of v,E0 (b::r) vs with|some x,some y=>some (x,y)|_,_=>none)=some x:=h
   clear h
   cases h1:a.of v with
   |none=>rw[h1] at h';cases h'
   | some p=>
     cases h2:E0 (b::r) vs with
     |none=>rw[h1,h2] at h';cases h'
     | some q=>
       rw[h1,h2] at h'
       have h':=B0 h'
       subst h'
       show (a.dv p).enc::DV.encL (Di (b::r) q)=v.enc::DV.encL vs
       rw[(Mw h1).1,MF h2]
theorem XC{q:QT}{v:DV}{x:q.D}(h:q.of v=some x):(q.dv x).enc=v.enc∧v≠.any:=by
 cases q with
 |one t=>exact Mw (t:=t) h
 | tup l=>
   cases v<;>try (cases h;done)
   rename_i cs;refine⟨?_,by simp⟩;show PV.tup _=PV.tup _;rw[MF (l:=l) h]
theorem Ou:∀ (l:List HT) (x:TuX l),(Di l x).length=l.length
 |[],_=>rfl
 |[_],_=>rfl
 | a::b::r,x=>by
   show (Di (b::r) x.2).length+1=(b::r).length+1
   rw[Ou (b::r) x.2]
theorem R6{q:Ql}{t:CT}{v:DV}{x:t.D}(hf:t.flat=true)(h:t.ofQ q v=some x):v.flt=true:=by
 cases t<;>first|(cases hf;done)|skip
 all_goals (cases v<;>first|rfl|(cases h;done))
theorem W3:∀ {l:List (Ql×CT)} {vs:List DV} {x:AgX l},l.all (fun a=>a.2.flat)=true→H4 l vs=some x→DV.fltL vs=true
 |[],[],_,_,_=>rfl
 | [a],[v],x,hf,h=>by
   simp only[DU,List.all_nil,HS] at hf
   simp only[DV.fltL,R6 (q:=a.1) hf h,BU]
 | a :: b::r,v::vs,x,hf,h=>by
   have h':(match a.2.ofQ a.1 v,H4 (b::r) vs with|some x,some y=>some (x,y)|_,_=>none)=some x:=h
   clear h
   rw[DU,Ai] at hf
   cases h1:a.2.ofQ a.1 v with
   |none=>rw[h1] at h';cases h'
   | some p=>
     cases h2:H4 (b::r) vs with
     |none=>rw[h1,h2] at h';cases h'
     |some q=>simp only[DV.fltL,R6 hf.1 h1,W3 hf.2 h2,BU]
theorem SD{t:HT}{v:DV}{x:t.D}(hf:t.flt=true)(h:t.of v=some x):v.flt=true:=by
 cases t with
 |one q t=>exact R6 (q:=q) (t:=t) hf h
 | agg l=>
   cases v<;>try (cases h;done)
   exact W3 (l:=l) hf h
theorem Xj:∀ {l:List HT} {vs:List DV} {x:TuX l},l.all HT.flt=true→E0 l vs=some x→DV.fltL vs=true
 |[],[],_,_,_=>rfl
 | [a],[v],x,hf,h=>by
   simp only[DU,List.all_nil,HS] at hf
   simp only[DV.fltL,SD (t:=a) hf h,BU]
 | a :: b::r,v::vs,x,hf,h=>by
   have h':(match a.of v,E0 (b::r) vs with|some x,some y=>some (x,y)|_,_=>none)=some x:=h
   clear h
   rw[DU,Ai] at hf
   cases h1:a.of v with
   |none=>rw[h1] at h';cases h'
   | some p=>
     cases h2:E0 (b::r) vs with
     |none=>rw[h1,h2] at h';cases h'
     |some q=>simp only[DV.fltL,SD hf.1 h1,Xj hf.2 h2,BU]
theorem Xe{q:QT}{v:DV}{x:q.D}(hf:q.flt=true)(h:q.of v=some x):v.flt=true:=by
 cases q with
 |one t=>exact SD (t:=t) hf h
 | tup l=>
   cases v<;>try (cases h;done)
   exact Xj (l:=l) hf h
def F4(hs:List HT)(q:QT)(ok:TuX hs→Prop)(v:TuX hs→q.D):EY:=fun args=>match E0 hs args with
 |some x=>some (.p (ok x),q.dv (v x))
 |none=>none
def DT.valQ(q:QT)(res:List ARes):DT→PX×Option q.D
 |.leaf (.exit _) _=>(.ff,none)
 | .leaf _ st=>(match Ej st res with
   | some v=>if v.ok&&!v.hasPtr then (match q.of v with
     |some y=>(.tt,some y)
     |none=>(.ff,none)) else (.ff,none)
   |none=>(.ff,none))
 | .node c a b=>(match a.valQ q res,b.valQ q res with
   |(g,none),(g',y)=>(PX.if' c g g',y)
   |(g,x),(g',none)=>(PX.if' c g g',x)
   |(g,some x),(g',some y)=>(PX.if' c g g',some (bSel c x y)))
 | .chk g t=>(match t.valQ q res with
   |(g',v)=>(g.land g',v))
 |.bad=>(.ff,none)
theorem LD{q:QT}{res:List ARes}:∀ {t:DT} {g:PX},t.valQ q res=(g,none)→¬ g.den
 | .leaf e st,g,h=>by
   cases e<;>simp only[DT.valQ] at h<;>(repeat' split at h)<;>simp only[Ak,reduceCtorEq,and_false,and_true] at h<;>subst h<;>exact id
 | .node c x y,g,h=>by
   intro hg
   simp only[DT.valQ] at h
   cases h1:x.valQ q res with
   | mk g1 v1=>
     cases h2:y.valQ q res with
     | mk g2 v2=>
       rw[h1,h2] at h
       cases v1 with
       | none=>
         simp only[Ak] at h
         obtain⟨rfl,rfl⟩:=h
         have:=(PX.if_den _ _ _).mp hg
         cases c with
         |true=>exact LD h1 (this.1 rfl)
         |false=>exact LD h2 (this.2 rfl)
       |some v1=>cases v2<;>simp at h
 | .chk g0 t,g,h=>by
   intro hg
   simp only[DT.valQ] at h
   cases h1:t.valQ q res with
   | mk g1 v1=>
     rw[h1] at h
     simp only[Ak] at h
     obtain⟨rfl,rfl⟩:=h
     exact LD h1 ((PX.land_den _ _).mp hg).2
 | .bad,g,h=>by
   simp only[DT.valQ,Ak,and_true] at h
   subst h;exact id
theorem O5{q:QT}{res:List ARes}:∀ {t:DT} {g:PX} {y:q.D},t.valQ q res=(g,some y)→g.den →
 t.ok.den∧∃ e st v0,t.lf=some (e,st)∧(∀ i,e≠.exit i)∧Ej st res=some v0∧v0.ok=true∧q.of v0=some y
 | .leaf e st,g,y,h,hg=>by
   have gen:(match Ej st res with|some v=>if (v.ok&&!v.hasPtr)=true then (match q.of v with|some y=>(PX.tt,some y)|none=>(PX.ff,none)) else (PX.ff,none)|none=>(PX.ff,none))=(g,some y)→∃ v,Ej st res=some v∧v.ok=true∧q.of v=some y:=fun h=>by
    split at h
    · rename_i v hv;split at h
      · rename_i hc;simp only[Ai] at hc;split at h
        · rename_i y' hy;simp only[Ak,Ah] at h;obtain⟨_,rfl⟩:=h;exact⟨v,hv,hc.1,hy⟩
        · simp at h
      · simp at h
    · simp at h
   cases e with
   |exit i=>simp[DT.valQ] at h
   |normal=>obtain⟨v,h1,h2,h3⟩:=gen h;exact⟨trivial,.normal,st,v,rfl,by simp,h1,h2,h3⟩
   |ret=>obtain⟨v,h1,h2,h3⟩:=gen h;exact⟨trivial,.ret,st,v,rfl,by simp,h1,h2,h3⟩
 | .node c a b,g,y,h,hg=>by
   simp only[DT.valQ] at h;show (PX.if' c a.ok b.ok).den∧∃ e st v0,(DT.node c a b).lf=some (e,st)∧(∀ i,e≠.exit i)∧Ej st res=some v0∧v0.ok=true∧q.of v0=some y;rw[PX.if_den]
   cases h1:a.valQ q res with
   | mk g1 v1=>
     cases h2:b.valQ q res with
     | mk g2 v2=>
       rw[h1,h2] at h
       have hgg:g=PX.if' c g1 g2:=by
        cases v1<;>cases v2<;>simp only[Ak] at h<;>exact h.1.symm
       subst hgg;have hg:=(PX.if_den _ _ _).mp hg
       cases c with
       | true=>
         have:v1=some y:=by
          cases v1 with
          |none=>exact absurd (hg.1 rfl) (LD h1)
          |some v1=>cases v2<;>simp only[Ak,DW] at h<;>exact h.2
         subst this;obtain⟨k1,k2⟩:=O5 h1 (hg.1 rfl);exact⟨⟨fun _=>k1,fun h=>by cases h⟩,k2⟩
       | false=>
         have:v2=some y:=by
          cases v2 with
          |none=>exact absurd (hg.2 rfl) (LD h2)
          |some v2=>cases v1<;>simp only[Ak,Da] at h<;>exact h.2
         subst this;obtain⟨k1,k2⟩:=O5 h2 (hg.2 rfl);exact⟨⟨fun h=>(by cases h),fun _=>k1⟩,k2⟩
 | .chk g0 t,g,y,h,hg=>by
   simp only[DT.valQ] at h
   cases h1:t.valQ q res with
   | mk g1 v1=>
     rw[h1] at h;simp only[Ak] at h;obtain⟨rfl,rfl⟩:=h;have hg:=(PX.land_den _ _).mp hg;obtain⟨k1,k2⟩:=O5 h1 hg.2;exact⟨(PX.land_den _ _).mpr ⟨hg.1,k1⟩,k2⟩
 |.bad,g,y,h,hg=>by simp[DT.valQ] at h
def QT.isB:QT→Bool
 |.one (.one _ .bool)=>true
 |_=>false
def M4(f:DFun)(hs:List HT)(q:QT)(x:TuX hs):PX×Option q.D:=
 if q.isB then ((MY f (Di hs x)).1,q.ofO (MY f (Di hs x)).2)
 else (dev f.body ⟨news (Di hs x)++I7 (f.nslots-f.nparams),I9 f.nbox,[]⟩).valQ q f.res
def FG(f:DFun)(hs:List HT)(q:QT)(x:TuX hs):q.D:=(M4 f hs q x).2.getD q.dflt
def FC(f:DFun)(hs:List HT)(q:QT)(x:TuX hs):Prop:=(M4 f hs q x).1.den
def KI(f:DFun)(hs:List HT)(q:QT)(x:TuX hs):Bool:=(M4 f hs q x).2.isSome
def KR(f:DFun)(hs:List HT)(q:QT):Bool:=hs.length == f.nparams&&(!f.pure||q.flt)
theorem Vu {f:DFun} {hs:List HT} {q:QT} (ho:AllD f.body.obs) (hst:KR f hs q=true) (x:TuX hs) (hc:KI f hs q x=true) (hok:FC f hs q x)
 {Q:PV→List (List PV)→Prop} (hQ:∀ H,Q (q.dv (FG f hs q x)).enc H):IU f.er (DV.encL (Di hs x)) [] Q:=by
 simp only[KR,Ai,AB,BS,Cv] at hst
 unfold KI at hc
 unfold FG at hQ
 unfold FC at hok
 unfold M4 at hc hQ hok
 by_cases hb:q.isB=true
 · rw[Ab hb] at hc hQ hok
   cases hd:MY f (Di hs x) with
   | mk g o=>
     rw[hd] at hc hQ hok
     cases o with
     |none=>cases hc
     | some w=>
       obtain⟨y,hy⟩:=Option.isSome_iff_exists.mp hc;rw[hy] at hQ;have hy:q.of w=some y:=hy;obtain⟨h1,h2⟩:=XC hy
       refine dG ho hd hok h2 (by rw[Ou];exact hst.1) (fun hp=>Xe (by simpa [hp] using hst.2) hy) fun H=>?_
       have:=hQ H;rw[HA,h1] at this;exact this
 · rw[Ad hb] at hc hQ hok
   cases hd:(dev f.body ⟨news (Di hs x)++I7 (f.nslots-f.nparams),I9 f.nbox,[]⟩).valQ q f.res with
   | mk g o=>
     rw[hd] at hc hQ hok
     cases o with
     |none=>cases hc
     | some y=>
       simp only[HA] at hQ;obtain⟨k1,e,st,v0,k2,k3,k4,k5,k6⟩:=O5 hd hok;obtain⟨h1,h2⟩:=XC k6;refine⟨by rw[DJ,Ou];exact hst.1,fun _=>rfl,?_⟩
       refine Fy f.body ho (d:=⟨news (Di hs x)++I7 (f.nslots-f.nparams),I9 f.nbox,[]⟩) ⟨(EL.news _).append (Rk _),QY _,trivial⟩ k1 k2 fun s' hs'=>?_
       obtain⟨s2,e2⟩:=Wg hs' k4 k5;rw[← h1] at e2
       have fin:(match Jn s' f.res with|some (v,st)=>if f.pure=true then v.flt=true∧Q v [] else Q v st.hp|none=>False):=by
        rw[e2];simp only;split
        · rename_i hpu;exact⟨by rw[h1];exact RZ _ (Xe (by simpa [hpu] using hst.2) k6),hQ _⟩
        · exact hQ _
       cases e with
       |normal=>exact fin
       |ret=>exact fin
       |exit i=>exact absurd rfl (k3 i)
theorem Vi{f:DFun}{hs:List HT}{q:QT}(ho:AllD f.body.obs)(hst:KR f hs q=true)(hc:∀ x,KI f hs q x=true){ok:TuX hs→Prop}{v:TuX hs→q.D}(hok:∀ x,ok x→FC f hs q x)(hv:∀ x,FG f hs q x=v x) :
 HE (IU f.er) (F4 hs q ok v):=by
 intro args g w Q h hg hQ
 unfold F4 at h
 cases hx:E0 hs args with
 |none=>rw[hx] at h;cases h
 | some x=>
   rw[hx] at h;simp only[Ah,Ak] at h;obtain⟨rfl,rfl⟩:=h;rw[← MF hx]
   exact Vu ho hst x (hc x) (hok x hg) fun H=>by rw[hv];exact hQ H
attribute [irreducible] M4 FG FC KI KR
def AN:List DV→List DC
 |[]=>[]
 |v::r=>⟨false,v⟩::AN r
open Go.RowKit Go.WideShapes Go.ChangeShapes
inductive Ty where
 |int (k:IntKind)
 |bool
 |str
 |sl (t:Ty)
 |unit
 |pair (a b:Ty)
def Ty.w:Ty→Nat
 |.int _|.bool|.str|.sl _=>1
 |.unit=>0
 |.pair a b=>a.w+b.w
def MV(P:Program)(f:TypeId→Option Ty):List Field→Nat→Option Ty
 |[],_=>some .unit
 | g::r,off=>
   match f g.type with
   |some a=>if g.offset=off∧a.w=P.cellsOf g.type then (match MV P f r (off+a.w) with|some b=>some (.pair a b)|none=>none) else none
   |none=>none
def Gb(P:Program):Nat→TypeId→Option Ty
 |0,_=>none
 | d+1,t=>
   match P.underlying t with
   |some (.int k)=>some (.int k)
   |some .bool=>some .bool
   |some .string=>some .str
   |some (.slice e)=>(match Gb P d e with|some te=>if te.w=P.cellsOf e∧0<te.w then some (.sl te) else none|none=>none)
   |some (.struct fs)=>(match MV P (Gb P d) fs.toList 0 with|some ty=>if ty.w=P.cellsOf t then some ty else none|none=>none)
   |_=>none
def Sh(σ:Ac):Ty→List V→Prop
 |.int k,cs=>∃ n,cs=[.int k n]∧(Lit.int k n).wf=true
 |.bool,cs=>∃ b,cs=[.bool b]
 |.str,cs=>∃ s,cs=[.str s]∧s.length≤maxLen
 |.sl t,cs=>cs=[.nils]∨∃ (l n:Nat) (bs:List V),cs=[.slice l 0 n]∧σ[l]?=some ⟨.ro,t.w,bs⟩∧bs.length=n*t.w∧n≤maxLen∧∀ i,i<n→Sh σ t ((bs.drop (i*t.w)).take t.w)
 |.unit,cs=>cs=[]
 |.pair a b,cs=>∃ xs ys,cs=xs++ys∧Sh σ a xs∧Sh σ b ys
theorem Sh.len{σ:Ac}:∀ {ty:Ty} {cs:List V},Sh σ ty cs→cs.length=ty.w
 |.int _,_,⟨_,h,_⟩=>by rw[h];rfl
 |.bool,_,⟨_,h⟩=>by rw[h];rfl
 |.str,_,⟨_,h,_⟩=>by rw[h];rfl
 |.sl _,_,h=>by rcases h with h|⟨_,_,_,h,_⟩<;>rw[h]<;>rfl
 |.unit,_,h=>by rw[h];rfl
 |.pair a b,_,⟨xs,ys,h,h1,h2⟩=>by rw[h,DQ,h1.len,h2.len];rfl
theorem Sh.mono{σ e:Ac}:∀ {ty:Ty} {cs:List V},Sh σ ty cs→Sh (σ++e) ty cs
 |.int _,_,h=>h
 |.bool,_,h=>h
 |.str,_,h=>h
 | .sl _,_,h=>by
   rcases h with h|⟨l,n,bs,h,h1,h2,h3,h4⟩
   · exact .inl h
   · exact .inr ⟨l,n,bs,h,by rw[A8 (Bu h1)];exact h1,h2,h3,fun i hi=>(h4 i hi).mono⟩
 |.unit,_,h=>h
 |.pair _ _,_,⟨xs,ys,h,h1,h2⟩=>⟨xs,ys,h,h1.mono,h2.mono⟩
def CM(σ:Ac):Prop:=∀ (l:Nat) (b:Blk),σ[l]?=some b→b.k= .ro
def MH(ι:Am)(σ:Ac)(W:World)(ty:Ty)(cs:List Value):Prop:=
 ∃ ι' e vs,HRel ι' (σ++e) W∧Keeps ι σ ι' (σ++e)∧CM (σ++e)∧Sh (σ++e) ty vs∧vs.length=cs.length∧∀ (i:Nat) v x,vs[i]?=some v→cs[i]?=some x→v.cell=true∧∀ β,Rel ι' (σ++e) β v x
theorem HRel.lay{ι:Am}{σ:Ac}{W:World}(h:HRel ι σ W)(hro:CM σ){b off c:Nat}{wd:Nat}{bs:List V}(hb:b<W.heap.size)(hc:∀ (i:Nat) v,bs[i]?=some v→v.cell=true∧∃ x,W.cell? ⟨b,off+i,none⟩=some x∧∀ β,Rel ι σ β v x) :
 HRel (upd ι σ.length ⟨b,off,c⟩) (σ++[⟨.ro,wd,bs⟩]) W∧CM (σ++[⟨.ro,wd,bs⟩]):=by
 have K:=LA ι σ ⟨b,off,c⟩ ⟨.ro,wd,bs⟩
 have hall:CM (σ++[⟨.ro,wd,bs⟩]):=by
  intro l blk hl;rcases DK hl with⟨_,hl⟩|⟨_,rfl⟩
  · exact hro l blk hl
  · rfl
 refine⟨⟨fun l blk hl hk i v hv=>?_,fun l blk hl hk=>?_,fun l l' blk blk' hne hl hl' hk hk'=>?_,fun l blk hl hk=>?_⟩,hall⟩
 · rcases DK hl with⟨hlt,hl⟩|⟨rfl,rfl⟩
   · rw[B8 _ _ _ _ (by omega)];obtain⟨a,x,b',c⟩:=h.cells l blk hl hk i v hv;exact⟨a,x,b',fun β=>(c β).cellMono K a⟩
   · rw[Bt];obtain⟨a,x,b',c⟩:=hc i v hv;exact⟨a,x,b',fun β=>(c β).cellMono K a⟩
 · have:=hall l blk hl;rw[hk] at this;cases this
 · have:=hall l blk hl;rw[hk] at this;cases this
 · rcases DK hl with⟨hlt,hl⟩|⟨rfl,rfl⟩
   · rw[B8 _ _ _ _ (by omega)];exact h.there l blk hl hk
   · rw[Bt];exact hb
theorem bA{w:World}{a:Addr}{v:Value}(h:w.cell? a=some v):a.block<w.heap.size:=by
 unfold World.cell? at h;rcases A9 a.block w.heap.size with h1|h1
 · exact h1
 · rw[Array.getElem?_eq_none h1] at h;cases h
theorem Pf{α:Type}{l:List α}{i:Nat}{v:α}(h:l[i]?=some v):i<l.length:=by
 rcases A9 i l.length with h1|h1
 · exact h1
 · rw[AZ h1] at h;cases h
section
variable {H:Type} {enc:TypeId×Value→H} {P:Program} {W:World}
theorem TX(d:Nat)(ih:∀ (t:TypeId)(ty:Ty),Gb P d t=some ty→∀ (fuel:Nat)(cs:List Value) x,DataW.trod enc P W 0 (fun _=>true) true fuel t cs=some x→∀ (ι:Am)(σ:Ac),HRel ι σ W→CM σ→MH ι σ W ty cs) :
 ∀ (fs:List Field) (off:Nat) (ty:Ty),MV P (Gb P d) fs off=some ty→∀ (fuel:Nat) (cs:List Value),(∀ g∈fs,∃ x,DataW.trod enc P W 0 (fun _=>true) true fuel g.type ((cs.drop g.offset).take (P.cellsOf g.type))=some x) →
   off+ty.w=cs.length→∀ (ι:Am) (σ:Ac),HRel ι σ W→CM σ→MH ι σ W ty (cs.drop off)
 | [],off,ty,h,fuel,cs,_,hl,ι,σ,H,hro=>by
   simp only[MV,Ah] at h;subst h;simp only[Ty.w,Dw] at hl
   have:cs.drop off=[]:=by rw[hl];simp
   rw[this];exact⟨ι,[],[],by simpa using H,by simpa using Keeps.refl ι σ,by simpa using hro,rfl,rfl,by simp⟩
 | g :: r, off,ty,h,fuel,cs,hg,hl,ι,σ,H,hro=>by
   simp only[MV] at h;split at h
   · rename_i a ha;split at h
     · rename_i hc;obtain⟨h1,h2⟩:=hc;split at h
       · rename_i b hb;cases h;simp only[Ty.w] at hl;obtain⟨x,hx⟩:=hg g (by simp);rw[h1] at hx;obtain⟨ι1,e1,vs1,H1,K1,R1,S1,L1,C1⟩:=ih g.type a ha fuel _ x hx ι σ H hro;obtain⟨ι2,e2,vs2,H2,K2,R2,S2,L2,C2⟩:=TX d ih r (off+a.w) b hb fuel cs (fun g' hg'=>hg g' (by simp[hg'])) (by omega) ι1 (σ++e1) H1 R1;refine⟨ι2,e1++e2,vs1++vs2,by rw[← Bo];exact H2,by rw[← Bo];exact K1.trans K2,by rw[← Bo];exact R2,⟨vs1,vs2,rfl,by rw[← Bo];exact S1.mono,by rw[← Bo];exact S2⟩,?_,fun i v y hv hy=>?_⟩
         · rw[DQ,L1,L2];simp;omega
         · have hl1:vs1.length=a.w:=S1.len;by_cases hi:i<vs1.length
           · rw[A8 hi] at hv
             have hy':((cs.drop off).take (P.cellsOf g.type))[i]?=some y:=by
              rw[Fw,Ab (by omega)];exact hy
             obtain⟨q1,q2⟩:=C1 i v y hv hy';exact⟨q1,fun β=>by rw[← Bo];exact(q2 β).cellMono K2 q1⟩
           · rw[Cj (by omega)] at hv
             have hy':(cs.drop (off+a.w))[i-vs1.length]?=some y:=by
              rw[I3] at hy ⊢
              have:off+a.w+(i-vs1.length)=off+i:=by omega
              rw[this];exact hy
             obtain⟨q1,q2⟩:=C2 _ v y hv hy';exact⟨q1,fun β=>by rw[← Bo];exact q2 β⟩
       · cases h
     · cases h
   · cases h
theorem Wo{b o:Nat}(n:Nat):Addr.add ⟨b,o,none⟩ n=⟨b,o+n,none⟩:=by
 unfold Addr.add;split
 · rename_i h;subst h;rfl
 · rfl
theorem Ul {d:Nat} (ih:∀ (t:TypeId) (ty:Ty),Gb P d t=some ty→∀ (fuel:Nat) (cs:List Value) x,DataW.trod enc P W 0 (fun _=>true) true fuel t cs=some x→∀ (ι:Am) (σ:Ac),HRel ι σ W→CM σ→MH ι σ W ty cs)
 {e:TypeId} {te:Ty} (hte:Gb P d e=some te) (hw:te.w=P.cellsOf e) {fuel b o:Nat} :
 ∀ (n:Nat),(∀ i,i<n→∃ cs x,W.cells? 0 ⟨b,o+i*te.w,none⟩ te.w=some cs∧DataW.trod enc P W 0 (fun _=>true) true fuel e cs=some x)→∀ (ι:Am) (σ:Ac),HRel ι σ W→CM σ →
   ∃ (ι':Am) (ext:Ac) (bs:List V),HRel ι' (σ++ext) W∧Keeps ι σ ι' (σ++ext)∧CM (σ++ext)∧bs.length=n*te.w∧(∀ i,i<n→Sh (σ++ext) te ((bs.drop (i*te.w)).take te.w)) ∧
     ∀ (j:Nat) v,bs[j]?=some v→v.cell=true∧∃ x,W.cell? ⟨b,o+j,none⟩=some x∧∀ β,Rel ι' (σ++ext) β v x
 |0,_,ι,σ,H0,hro=>⟨ι,[],[],by simpa using H0,by simpa using Keeps.refl ι σ,by simpa using hro,by simp,fun i hi=>absurd hi (Nat.not_lt_zero i),by simp⟩
 | n + 1,hn,ι,σ,H0,hro=>by
   obtain⟨ι1,e1,bs,H1,K1,R1,L1,S1,C1⟩:=Ul ih hte hw n (fun i hi=>hn i (Nat.lt_succ_of_lt hi)) ι σ H0 hro;obtain⟨cs,x,hc,hx⟩:=hn n (Nat.lt_succ_self n);obtain⟨ι2,e2,vs,H2,K2,R2,S2,L2,C2⟩:=ih e te hte fuel cs x hx ι1 (σ++e1) H1 R1;obtain⟨_,hcl,hcg⟩:=World.cells?_some hc;refine⟨ι2,e1++e2,bs++vs,by rw[← Bo];exact H2,by rw[← Bo];exact K1.trans K2,by rw[← Bo];exact R2,?_,fun i hi=>?_,fun j v hv=>?_⟩
   · rw[DQ,L1,L2,hcl,Jd]
   · rw[← Bo];by_cases h:i<n
     · have h1:(i+1)*te.w≤n*te.w:=F1 _ h;rw[Jd] at h1
       have:((bs++vs).drop (i*te.w)).take te.w=(bs.drop (i*te.w)).take te.w:=by
        rw[List.drop_append_of_le_length (by omega),List.take_append_of_le_length (by rw[List.length_drop];omega)]
       rw[this];exact(S1 i h).mono
     · have:i=n:=by omega
       subst this
       have:((bs++vs).drop (i*te.w)).take te.w=vs:=by
        rw[← L1,List.drop_left,OU (by omega)]
       rw[this];exact S2
   · by_cases h:j<bs.length
     · rw[A8 h] at hv;obtain⟨q1,y,q2,q3⟩:=C1 j v hv;exact⟨q1,y,q2,fun β=>by rw[← Bo];exact(q3 β).cellMono K2 q1⟩
     · rw[Cj (by omega)] at hv;have hlt:=Pf hv
       have hlt':j-bs.length<te.w:=by rw[← hcl,← L2];exact hlt
       have hg:=hcg (j-bs.length) hlt';rw[Wo] at hg
       have e0:o+n*te.w+(j-bs.length)=o+j:=by omega
       rw[e0] at hg;obtain⟨y,hy⟩:∃ y,cs[j-bs.length]?=some y:=⟨_,As (by omega)⟩;obtain⟨q1,q2⟩:=C2 _ v y hv hy;exact⟨q1,y,hg.trans hy,fun β=>by rw[← Bo];exact q2 β⟩
theorem Qc:∀ (d:Nat) (t:TypeId) (ty:Ty),Gb P d t=some ty→∀ (fuel:Nat) (cs:List Value) x,DataW.trod enc P W 0 (fun _=>true) true fuel t cs=some x→∀ (ι:Am) (σ:Ac),HRel ι σ W→CM σ→MH ι σ W ty cs
 |0,_,_,h=>by simp[Gb] at h
 | d + 1, t, ty,h=>by
   intro fuel cs x hx ι σ H0 hro
   have one:∀ (v:V) (y:Value),cs=[y]→v.cell=true→(∀ β,Rel ι σ β v y)→Sh σ ty [v]→MH ι σ W ty cs:=by
    intro v y hc hv hr hs;refine⟨ι,[],[v],by simpa using H0,by simpa using Keeps.refl ι σ,by simpa using hro,by simpa using hs,by rw[hc];rfl,fun i u z hu hz=>?_⟩;rw[hc] at hz
    cases i with
    |zero=>simp at hu hz;subst hu;subst hz;exact⟨hv,by simpa using hr⟩
    |succ i=>simp at hu
   unfold Gb at h;split at h
   · rename_i k hu;cases h;obtain⟨n,hc,_,hwf⟩:=DataW.trod_int hu hx;exact one (.int k n) _ hc rfl (fun β=>.int k n) ⟨n,rfl,hwf⟩
   · rename_i hu;cases h;obtain⟨b,hc,_⟩:=DataW.trod_bool hu hx;exact one (.bool b) _ hc rfl (fun β=>.bool b) ⟨b,rfl⟩
   · rename_i hu;cases h;obtain⟨s,hc,_,hwf⟩:=DataW.trod_string hu hx;exact one (.str s.data.toList) _ hc rfl (fun β=>by have:=Rel.str (ι:=ι) (σ:=σ) (β:=β) s.data.toList;simpa using this) ⟨s.data.toList,rfl,by simpa using hwf⟩
   · rename_i e hu;split at h
     · rename_i te hte;split at h
       · rename_i hw;obtain⟨hw,hpos⟩:=hw;cases h;rcases DataW.trod_slice hu hx with⟨hc,_⟩|⟨a,len,cap,elems,rest,n,_,hc,_,_,hle,hcap,hel,hE,hR,_⟩
         · exact one .nils _ hc rfl (fun β=>.nils none) (.inl rfl)
         · obtain⟨hrl,hR⟩:=hR rfl
           have hcell:∀ i,i<cap→∃ cs' y,W.cells? 0 (a.add (i*P.cellsOf e)) (P.cellsOf e)=some cs'∧DataW.trod enc P W 0 (fun _=>true) true n e cs'=some y:=by
            intro i hi;by_cases h:i<len
            · have h1:=hE i h;obtain⟨y,hy⟩:∃ y,elems[i]?=some y:=⟨_,As (by omega)⟩;rw[hy,Bp] at h1;obtain⟨cs',h1,h2⟩:=h1;exact⟨cs',y,h1,h2⟩
            · have h1:=hR (i-len) (by omega);obtain⟨y,hy⟩:∃ y,rest[i-len]?=some y:=⟨_,As (by omega)⟩;rw[hy,Bp] at h1;obtain⟨cs',h1,h2⟩:=h1;rw[show len+(i-len)=i by omega] at h1;exact⟨cs',y,h1,h2⟩
           by_cases hc0:cap=0
           · subst hc0
             have:len=0:=by omega
             subst this;exact one .nils _ hc rfl (fun β=>.nils (some a)) (.inl rfl)
           · have hsp:a.spot=none∧a.block<W.heap.size:=by
              obtain⟨cs',y,h1,_⟩:=hcell 0 (by omega);obtain⟨_,h2,h3⟩:=World.cells?_some h1;have h4:=h3 0 (by omega);obtain⟨z,hz⟩:∃ z,cs'[0]?=some z:=⟨_,As (by omega)⟩;rw[hz] at h4
              have h5:W.cell? a=some z:=by simpa [Addr.add] using h4
              exact⟨World.cell?_spot h5,bA h5⟩
             obtain⟨ab,ao,asp⟩:=a;obtain⟨hsp,hlt⟩:=hsp;simp only at hsp hlt;subst hsp
             have hcell':∀ i,i<len→∃ cs' y,W.cells? 0 ⟨ab,ao+i*te.w,none⟩ te.w=some cs'∧DataW.trod enc P W 0 (fun _=>true) true n e cs'=some y:=by
              intro i hi;have:=hcell i (by omega);rw[Wo,← hw] at this;exact this
             obtain⟨ι1,e1,bs,H1,K1,R1,L1,S1,C1⟩:=Ul (Qc d) hte hw len hcell' ι σ H0 hro;obtain⟨H2,R2⟩:=H1.lay R1 (c:=cap*te.w) (wd:=te.w) hlt C1;have K2:=LA ι1 (σ++e1) ⟨ab,ao,cap*te.w⟩ ⟨.ro,te.w,bs⟩
             have hg:((σ++e1)++[(⟨.ro,te.w,bs⟩:Blk)])[(σ++e1).length]?=some ⟨.ro,te.w,bs⟩:=by simp
             refine⟨_,e1++[⟨.ro,te.w,bs⟩],[.slice (σ++e1).length 0 len],by rw[← Bo];exact H2,by rw[← Bo];exact K1.trans K2,by rw[← Bo];exact R2,.inr ⟨_,len,bs,rfl,by rw[← Bo];exact hg,L1,by omega,fun i hi=>by rw[← Bo];exact(S1 i hi).mono⟩,by rw[hc];rfl,fun i u z hu hz=>?_⟩;rw[hc] at hz
             cases i with
             | zero=>
               simp at hu hz;subst hu;subst hz;refine⟨rfl,fun β=>?_⟩;have:=Rel.slice (ι:=upd ι1 (σ++e1).length ⟨ab,ao,cap*te.w⟩) (σ:=(σ++e1)++[⟨.ro,te.w,bs⟩]) (β:=β) (σ++e1).length 0 len cap ⟨.ro,te.w,bs⟩ hg hle (by rw[Bt];simp) (by first|assumption|(simp only;omega));rw[Bt] at this;simpa using this
             |succ i=>simp at hu
       · cases h
     · cases h
   · rename_i fs hu;split at h
     · rename_i ty' hty;split at h
       · rename_i hw;cases h;obtain⟨xs,n,_,_,hl,hxl,hf⟩:=DataW.trod_struct hu hx
         have:=TX (enc:=enc) d (Qc d) fs.toList 0 _ hty n cs (fun g hg=>by
          obtain⟨i,hi⟩:=FY hg;have h1:=hf i g (by simpa using hi)
          have:i<xs.length:=by rw[hxl];have:=Pf hi;simpa using this
          exact⟨_,h1.trans (As this)⟩) (by omega) ι σ H0 hro
         simpa using this
       · cases h
     · cases h
   · cases h
end
open Go.RowKit Go.WideShapes Go.ChangeShapes
def SY(P:Program)(d:Nat)(t:TypeId):Option (Ty×Bool):=
 match Gb P d t with
 | some ty=>(match P.underlying t with
   |some (.struct _)=>some (ty,true)
   |some (.int _)|some .bool|some .string|some (.slice _)=>some (ty,false)
   |_=>none)
 |none=>none
def KB(P:Program)(d:Nat):List TypeId→Option (List (Ty×Bool))
 |[]=>some []
 | t::r=>match SY P d t,KB P d r with
   |some a,some b=>some (a::b)
   |_,_=>none
def ArgOk(σ:Ac):Ty×Bool→V→Prop
 |(ty,true),v=>∃ cs,v= .agg cs∧Sh σ ty cs∧cs.all V.cell=true
 |(ty,false),v=>Sh σ ty [v]∧v.cell=true
def Kt(σ:Ac):List (Ty×Bool)→List V→Prop
 |[],[]=>True
 |a::r,v::s=>ArgOk σ a v∧Kt σ r s
 |_,_=>False
theorem ArgOk.mono{σ e:Ac}{a:Ty×Bool}{v:V}(h:ArgOk σ a v):ArgOk (σ++e) a v:=by
 obtain⟨ty,b⟩:=a
 cases b with
 |true=>obtain⟨cs,h1,h2,h3⟩:=h;exact⟨cs,h1,h2.mono,h3⟩
 |false=>exact⟨h.1.mono,h.2⟩
theorem ArgOk.noBox{σ:Ac}{a:Ty×Bool}{v:V}(h:ArgOk σ a v):∀ i o,v≠.box i o:=by
 obtain⟨ty,b⟩:=a;intro i o e;subst e
 cases b with
 |true=>obtain⟨cs,h1,_⟩:=h;cases h1
 |false=>have:=h.2;cases this
section
variable {H:Type} {enc:TypeId×Value→H} {P:Program} {W:World} {r:Reach} {base:Nat}
theorem eK {d:Nat} {t:TypeId} {a:Ty×Bool} (ha:SY P d t=some a) {v:Value} {dd:DataW H} {ps:List MemPlace} (h:DataW.Trod enc P W 0 (fun _=>true) true t v dd ps) (hok:Value.okWide P W r base t v)
 (ι:Am) (σ:Ac) (H0:HRel ι σ W) (hro:CM σ) :
 ∃ ι' e u,HRel ι' (σ++e) W∧Keeps ι σ ι' (σ++e)∧CM (σ++e)∧ArgOk (σ++e) a u∧∀ β,Rel ι' (σ++e) β u v:=by
 unfold SY at ha
 split at ha
 · rename_i ty hty
   obtain⟨fuel,hx⟩:=h;obtain⟨ι',e,vs,h1,h2,h3,h4,h5,h6⟩:=Qc d t ty hty fuel _ _ hx ι σ H0 hro
   have one:∀ (hc:v.cells=#[v]),a=(ty,false)→∃ ι' e u,HRel ι' (σ++e) W∧Keeps ι σ ι' (σ++e)∧CM (σ++e)∧ArgOk (σ++e) a u∧∀ β,Rel ι' (σ++e) β u v:=by
    intro hc ea;rw[hc] at h5 h6
    match vs,h5,h4,h6 with
    | [u],_,h4,h6=>
      obtain⟨c1,c2⟩:=h6 0 u v rfl rfl;exact⟨ι',e,u,h1,h2,h3,by rw[ea];exact⟨h4,c1⟩,c2⟩
   split at ha
   · rename_i fs hu;cases ha;obtain⟨cs,rfl,_⟩:=okWide_struct hu hok;replace h5:vs.length=cs.toList.length:=h5;refine⟨ι',e,.agg vs,h1,h2,h3,⟨vs,rfl,h4,?_⟩,fun β=>?_⟩
     · rw[Cb];intro u hu';obtain⟨i,hi⟩:=FY hu'
       have:i<cs.toList.length:=by rw[← h5];exact Pf hi
       exact(h6 i u _ hi (As this)).1
     · have:=Rel.agg (ι:=ι') (σ:=σ++e) (β:=β) vs cs.toList h5 (fun u hu'=>by
        obtain⟨i,hi⟩:=FY hu'
        have:i<cs.toList.length:=by rw[← h5];exact Pf hi
        exact(h6 i u _ hi (As this)).1) (fun i u w hi hw=>(h6 i u w hi hw).2 β)
       simpa using this
   · rename_i k hu;cases ha;obtain⟨n,rfl⟩:=okWide_int hu hok;exact one rfl rfl
   · rename_i hu;cases ha;obtain⟨n,rfl⟩:=okWide_bool hu hok;exact one rfl rfl
   · rename_i hu;cases ha;obtain⟨n,rfl⟩:=okWide_string hu hok;exact one rfl rfl
   · rename_i el hu;cases ha;obtain⟨x,y,z,rfl⟩:=okWide_slice hu hok;exact one rfl rfl
   · cases ha
 · cases ha
theorem UI{d:Nat}:∀ {ts:List TypeId} {tys:List (Ty×Bool)},KB P d ts=some tys→∀ {vs:List Value} {ds:List (DataW H)} {ps:List MemPlace},DataW.TrodAll enc P W 0 (fun _=>true) true ts vs ds ps →
 (∀ (j:Nat) t v,ts[j]?=some t→vs[j]?=some v→Value.okWide P W r base t v)→∀ (ι:Am) (σ:Ac),HRel ι σ W→CM σ →
 ∃ ι' e us,HRel ι' (σ++e) W∧Keeps ι σ ι' (σ++e)∧CM (σ++e)∧Kt (σ++e) tys us∧us.length=vs.length∧∀ (i:Nat) u v,us[i]?=some u→vs[i]?=some v→(∀ j o,u≠.box j o)∧∀ β,Rel ι' (σ++e) β u v
 | [],tys,h,vs,ds,ps,hd,_,ι,σ,H0,hro=>by
   obtain⟨rfl,_,_⟩:=trodAll_nil hd
   cases h
   exact⟨ι,[],[],by simpa using H0,by simpa using Keeps.refl ι σ,by simpa using hro,trivial,rfl,by simp⟩
 | t :: ts,tys,h,vs,ds,ps,hd,hok,ι,σ,H0,hro=>by
   obtain⟨v,vs',x,ds',p,q,rfl,rfl,rfl,h1,h2⟩:=trodAll_cons hd
   unfold KB at h
   split at h
   · rename_i a b ha hb
     cases h
     obtain⟨ι1,e1,u,H1,K1,R1,A1,C1⟩:=eK ha h1 (hok 0 t v rfl rfl) ι σ H0 hro
     obtain⟨ι2,e2,us,H2,K2,R2,A2,L2,C2⟩:=UI hb h2 (fun j t' v' hj hv=>hok (j+1) t' v' hj hv) ι1 (σ++e1) H1 R1
     refine⟨ι2,e1++e2,u::us,by rw[← Bo];exact H2,by rw[← Bo];exact K1.trans K2,by rw[← Bo];exact R2,by rw[← Bo];exact⟨A1.mono,A2⟩,by simp[L2],fun i u' v' hu hv=>?_⟩
     rw[← Bo]
     cases i with
     | zero=>
       simp at hu hv;subst hu;subst hv
       exact⟨A1.noBox,fun β=>(C1 β).mono K2 (fun j o e=>absurd e (A1.noBox j o))⟩
     |succ i=>exact C2 i u' v' (by simpa using hu) (by simpa using hv)
   · cases h
end
def SH(P:Program)(ts:List TypeId):Bool:=ts.all fun t=>P.readableRec t&&decide (t<P.types.size)
theorem TT{H:Type}{enc:TypeId×Value→H}{P:Program}(hl:laidOutB P=true){W W':World}{sp':Nat→Bool}:∀ {ts:List TypeId} {vs:List Value} {ds:List (DataW H)} {ps:List MemPlace},SH P ts=true →
 DataW.TrodAll enc P W 0 (fun _=>true) true ts vs ds ps→(∀ p∈ps,W.sameAt W' p)→(∀ p∈ps,sp' p.block=true)→DataW.TrodAll enc P W' 0 sp' true ts vs ds ps
 | [],vs,ds,ps,_,h,_,_=>by
   obtain⟨rfl,rfl,rfl⟩:=trodAll_nil h
   rfl
 | t::ts,vs,ds,ps,hr,h,h1,h2=>by
   obtain⟨v,vs',x,ds',p,q,rfl,rfl,rfl,g1,g2⟩:=trodAll_cons h
   unfold SH at hr
   rw[DU,Ai,Ai,Bc] at hr
   exact⟨p,q,WideElems.Trod_stays hl hr.1.1 hr.1.2 g1 (fun y hy=>h1 y (by simp[hy])) (fun y hy=>h2 y (by simp[hy])),TT hl hr.2 g2 (fun y hy=>h1 y (by simp[hy])) (fun y hy=>h2 y (by simp[hy])),rfl⟩
theorem bD {H:Type} {enc:TypeId×Value→H} {P:Program} {f:Func} {s:ChangeSpec} {apart fresh handsOn again:Bool} {W W':World} {args:Array Value} {v:Value} {ds gs:List (DataW H)} {before pa pv:List MemPlace}
 (hW:DataW.Whole enc P f.params.toList s.vars apart W args.toList ds gs before)
 (hres:∀ (b:Nat) (sp:Nat→Bool) (hd:Bool),DataW.TrodAll enc P W' b sp hd f.resultTypes.toList (v.resultList f.resultTypes.size) (s.fn H (ds++gs)).results [])
 (hargs:∀ sp:Nat→Bool,(∀ p∈before,sp p.block=true)→DataW.TrodAll enc P W' 0 sp true f.params.toList args.toList (s.fn H (ds++gs)).args pa)
 (hvars:∀ sp:Nat→Bool,(∀ p∈before,sp p.block=true)→DataW.TrodVars enc P W' sp s.vars (s.fn H (ds++gs)).vars pv)
 (hps:before=pa++pv) (hb:Below W.heap.size W W')
 (hok:∀ (j:Nat) (t:TypeId) (r:Value),f.resultTypes[j]?=some t→(v.resultList f.resultTypes.size)[j]?=some r→Value.okWide P W' .any 0 t r) :
 s.post enc P f apart fresh handsOn again W args v W':=by
 have hlt:∀ p∈before,p.block<W.heap.size:=fun p hp=>hW.lt p hp
 have hold:∀ p∈before,(fun b=>decide (b<W.heap.size)) p.block=true:=fun p hp=>by simpa using hlt p hp
 refine⟨ds,gs,before,[],pa,pv,hW,hres _ _ _,hargs _ hold,hvars _ hold,World.keptBut_mono (fun p hp=>⟨hp,?_⟩) (hb.frame (·∈before)),fun _=>?_⟩
 · rw[hps,C9] at hp
   exact Or.inr hp
 · obtain⟨_,_,_,_,_,hz,hn⟩:=hW
   refine⟨hok,_,_,([]++pa)++pv,⟨[]++pa,pv,trodAll_append (hargs _ (fun _ _=>rfl)) (hres _ _ _),hvars _ (fun _ _=>rfl),rfl,?_,?_⟩,?_⟩
   · intro b off hp
     have hin:MemPlace.cell b off∈before:=by rw[hps];simpa using hp
     rw[hb.frozen (hlt _ hin)];exact hz b off hin
   · intro ha;have:=hn ha;rw[hps] at this;simpa using this
   · intro p hp _;rw[hps];simpa using hp
theorem bT {H:Type} {enc:TypeId×Value→H} {P:Program} {f:FuncId} {fn:Func} {s:ChangeSpec} {apart fresh handsOn again:Bool} {sem:A7} {tys:List (Ty×Bool)} {d:Nat} {tb:TypeId}
 (hs:Aq P f sem) (has:KB P d fn.params.toList=some tys) (hrows:SH P fn.params.toList=true) (hl:laidOutB P=true)
 (hres:fn.resultTypes=#[tb]) (htb:P.underlying tb=some .bool) (hvars:s.vars=[])
 (hspec:∀ ds:List (DataW H),ds.length=tys.length→s.fn H ds={ results:=[.lit (.bool true)],args:=ds })
 (law:∀ (σ:Ac) (us:List V),CM σ→Kt σ tys us→sem us σ fun r _=>r= .bool true)
 {W:World} {base:Nat} {args:Array Value} {ds gs:List (DataW H)} {before:List MemPlace}
 (hval:∀ (j:Nat) t v,fn.params[j]?=some t→args[j]?=some v→Value.okWide P W .any base t v)
 (hW:DataW.Whole enc P fn.params.toList s.vars apart W args.toList ds gs before) :
 Calls P f args W fun e W'=>∃ v,e= .returned v∧s.post enc P fn apart fresh handsOn again W args v W':=by
 have hW':=hW
 obtain⟨p,q,hA,hV,rfl,hfz,hnd⟩:=hW
 rw[hvars] at hV
 obtain⟨rfl,rfl⟩:=trodVars_none hV
 rw[Mp] at hW'
 obtain⟨ι,e,us,H1,_,R1,A1,L1,C1⟩:=UI (d:=d) has hA (fun j t v hj hv=>hval j t v (by simpa using hj) (by simpa using hv)) (fun _=>⟨0,0,0⟩) [] ⟨by simp,by simp,by simp,by simp⟩ (fun l b h=>by simp at h)
 simp only[B4] at H1 R1 A1 C1
 have hc:=hs Phm.no ι e W us args.toList _ (.no e) (by rw[OJ];exact H1) (by rw[OJ];exact⟨L1,fun i u v hu hv=>(C1 i u v hu hv).2⟩) (law e us R1 A1)
 have hlen:ds.length=tys.length:=by
  have h1:∀ {ts:List TypeId} {tys:List (Ty×Bool)},KB P d ts=some tys→tys.length=ts.length:=by
   intro ts
   induction ts with
   |nil=>intro tys h;cases h;rfl
   | cons t ts ih=>
     intro tys h;unfold KB at h;split at h
     · rename_i a b _ hb;cases h;simp[ih hb]
     · cases h
  have h2:∀ {ts:List TypeId} {vs:List Value} {ds:List (DataW H)} {ps:List MemPlace},DataW.TrodAll enc P W 0 (fun _=>true) true ts vs ds ps→ds.length=ts.length:=by
   intro ts
   induction ts with
   |nil=>intro vs ds ps h;obtain⟨_,rfl,_⟩:=trodAll_nil h;rfl
   | cons t ts ih=>
     intro vs ds ps h;obtain⟨v,vs',x,ds',p,q,rfl,rfl,rfl,_,g2⟩:=trodAll_cons h;simp[ih g2]
  rw[h1 has,h2 hA]
 refine(Calls.mono (by simpa using hc) fun en W' hd=>?_:Calls P f args W _)
 obtain⟨x,r,σ',ι',rfl,rfl,_,hx,_,hstep⟩:=hd
 rw[OJ,OJ] at hstep
 have hx':=hx (fun _=>0)
 cases hx'
 have hb:Below W.heap.size W W':=⟨hstep.os,hstep.tape,hstep.output,hstep.size,fun k hk=>hstep.frame k hk fun l blk hl hk'=>by have:=R1 l blk hl;rw[hk'] at this;cases this⟩
 have hfn:=hspec (ds++[]) (by simpa using hlen)
 have hlt:∀ x∈p,x.block<W.heap.size:=fun x hx=>hW'.lt x hx
 refine⟨_,rfl,bD (pa:=p) (pv:=[]) hW' (fun _ _ _=>?_) (fun sp hsp=>?_) (fun sp _=>?_) (by simp) hb (ok_one hres rfl (okWide_bool_mk htb true))⟩
 · rw[hfn,hres]
   exact trodAll_cons_mk (shut_bool htb true) trodAll_mk0
 · rw[hfn]
   simp only[Mp];exact TT hl hrows hA (fun x hx=>hb.same (hlt x hx)) hsp
 · rw[hfn,hvars]
   rfl
open Go.ChangeShapes
mutual
def CT.wf:(t:CT)→t.D→Prop
 |.int k,n=>(Lit.int k n).wf=true
 |.bool,_=>True
 |.str,s=>s.length≤maxLen
 |.ifc,_=>True
 |.sl r,l=>@List.length r.D l≤maxLen∧∀ x:r.D,@Membership.mem r.D (List r.D) inferInstance l x→RT.wf r x
def RT.wf:(r:RT)→r.D→Prop
 |.one t,x=>CT.wf t x
 |.cons t r,x=>CT.wf t x.1∧RT.wf r x.2
end
def AgX.wf:(l:List (Ql×CT))→AgX l→Prop
 |[],_=>True
 |[a],x=>a.2.wf x
 |a::b::r,x=>a.2.wf x.1∧AgX.wf (b::r) x.2
def HT.wf:(h:HT)→h.D→Prop
 |.one _ t,x=>t.wf x
 |.agg l,x=>AgX.wf l x
def TuX.wf:(l:List HT)→TuX l→Prop
 |[],_=>True
 |[a],x=>a.wf x
 |a::b::r,x=>a.wf x.1∧TuX.wf (b::r) x.2
def Er:List CT→RT
 |[]=>.one .bool
 |[a]=>.one a
 |a::b::r=>.cons a (Er (b::r))
def Ty.cts:Ty→List CT
 |.int k=>[.int k]
 |.bool=>[.bool]
 |.str=>[.str]
 |.sl t=>[.sl (Er t.cts)]
 |.unit=>[]
 |.pair a b=>a.cts++b.cts
def Ty.good:Ty→Bool
 |.sl t=>Nat.blt 0 t.w&&t.good
 |.pair a b=>a.good&&b.good
 |_=>true
def H6:Ty×Bool→HT
 |(ty,true)=>.agg (ty.cts.map fun t=>(.frz,t))
 |(ty,false)=>match ty.cts with|[c]=>.one .frz c|_=>.agg []
def OK:Ty×Bool→Bool
 |(ty,true)=>ty.good
 |(ty,false)=>ty.good&&ty.cts.length == 1
def DL:List CT→Type
 |[]=>Unit
 |a::r=>a.D×DL r
def DL.wf:(l:List CT)→DL l→Prop
 |[],_=>True
 |a::r,x=>a.wf x.1∧DL.wf r x.2
def DL.enc:(l:List CT)→DL l→List PV
 |[],_=>[]
 |a::r,x=>CT.enc a x.1::DL.enc r x.2
def DL.encF:(l:List CT)→DL l→List PV
 |[],_=>[]
 |a::r,x=>(CT.dv .frz a x.1).enc::DL.encF r x.2
def DL.app:(l m:List CT)→DL l→DL m→DL (l++m)
 |[],_,_,y=>y
 |_::l,m,x,y=>(x.1,DL.app l m x.2 y)
theorem DL.app_enc:∀ (l m:List CT) (x:DL l) (y:DL m),DL.enc (l++m) (DL.app l m x y)=DL.enc l x++DL.enc m y
 |[],_,_,_=>rfl
 | a::l,m,x,y=>by
   show CT.enc a x.1::DL.enc (l++m) (DL.app l m x.2 y)=CT.enc a x.1::(DL.enc l x.2++DL.enc m y)
   rw[DL.app_enc l m x.2 y]
theorem DL.app_encF:∀ (l m:List CT) (x:DL l) (y:DL m),DL.encF (l++m) (DL.app l m x y)=DL.encF l x++DL.encF m y
 |[],_,_,_=>rfl
 | a::l,m,x,y=>by
   show (CT.dv .frz a x.1).enc::DL.encF (l++m) (DL.app l m x.2 y)=(CT.dv .frz a x.1).enc::(DL.encF l x.2++DL.encF m y)
   rw[DL.app_encF l m x.2 y]
theorem DL.app_wf:∀ (l m:List CT) (x:DL l) (y:DL m),DL.wf l x→DL.wf m y→DL.wf (l++m) (DL.app l m x y)
 |[],_,_,_,_,h=>h
 |_::l,m,x,y,h,h'=>⟨h.1,DL.app_wf l m x.2 y h.2 h'⟩
theorem DL.len:∀ (l:List CT) (x:DL l),(DL.enc l x).length=l.length
 |[],_=>rfl
 |_::l,x=>by show _+1=_+1;rw[DL.len l x.2]
theorem DL.lenF:∀ (l:List CT) (x:DL l),(DL.encF l x).length=l.length
 |[],_=>rfl
 |_::l,x=>by show _+1=_+1;rw[DL.lenF l x.2]
def DL.rt:(l:List CT)→DL l→(Er l).D
 |[],_=>false
 |[_],x=>x.1
 |_::b::r,x=>(x.1,DL.rt (b::r) x.2)
theorem DL.rt_enc:∀ (l:List CT) (x:DL l),l≠[]→RT.enc (Er l) (DL.rt l x)=DL.enc l x
 |[],_,h=>absurd rfl h
 |[_],_,_=>rfl
 | a::b::r,x,_=>by
   show CT.enc a x.1::RT.enc (Er (b::r)) (DL.rt (b::r) x.2)=CT.enc a x.1::DL.enc (b::r) x.2
   rw[DL.rt_enc (b::r) x.2 (by simp)]
theorem DL.rt_wf:∀ (l:List CT) (x:DL l),l≠[]→DL.wf l x→RT.wf (Er l) (DL.rt l x)
 |[],_,h,_=>absurd rfl h
 |[_],_,_,h=>h.1
 |a::b::r,x,_,h=>⟨h.1,DL.rt_wf (b::r) x.2 (by simp) h.2⟩
def DL.ag:(l:List CT)→DL l→AgX (l.map fun t=>(Ql.frz,t))
 |[],_=>()
 |[_],x=>x.1
 |_::b::r,x=>(x.1,DL.ag (b::r) x.2)
theorem DL.ag_enc:∀ (l:List CT) (x:DL l),DV.encL (KQ (l.map fun t=>(Ql.frz,t)) (DL.ag l x))=DL.encF l x
 |[],_=>rfl
 |[_],_=>rfl
 | a::b::r,x=>by
   show (CT.dv .frz a x.1).enc::DV.encL (KQ ((b::r).map fun t=>(Ql.frz,t)) (DL.ag (b::r) x.2))=(CT.dv .frz a x.1).enc::DL.encF (b::r) x.2
   rw[DL.ag_enc (b::r) x.2]
theorem DL.ag_wf:∀ (l:List CT) (x:DL l),DL.wf l x→AgX.wf (l.map fun t=>(Ql.frz,t)) (DL.ag l x)
 |[],_,_=>trivial
 |[_],_,h=>h.1
 |a::b::r,x,h=>⟨h.1,DL.ag_wf (b::r) x.2 h.2⟩
theorem GQ:∀ (t:Ty),t.cts.length=t.w
 |.int _|.bool|.str|.sl _|.unit=>rfl
 |.pair a b=>by simp only[Ty.cts,Ty.w,DQ,GQ a,GQ b]
def ωro(σ:Ac):Nat→W:=fun l=>if l<σ.length then .frz else .none
theorem ωro_frz{σ:Ac}{l:Nat}{b:Blk}(h:σ[l]?=some b):ωro σ l= .frz:=by
 unfold ωro;rw[Ab (Bu h)]
theorem NI:∀ (a b:List PV) (i:Nat),i<a.length→Aa (a++b) i=Aa a i
 |[],_,_,h=>by cases h
 |_::_,_,0,_=>rfl
 |_::a,b,i+1,h=>NI a b i (by simpa using h)
theorem NG:∀ (a b:List PV) (i:Nat),Aa (a++b) (a.length+i)=Aa b i
 |[],_,_=>by simp
 | _::a,b,i=>by
   have:=NG a b i
   simp only[B3,A4,Sa]
   exact this
theorem Qi:∀ (a b:List V) (i:Nat),i<a.length→get (a++b) i=get a i
 |[],_,_,h=>by cases h
 |_::_,_,0,_=>rfl
 |_::a,b,i+1,h=>Qi a b i (by simpa using h)
theorem Qf:∀ (a b:List V) (i:Nat),get (a++b) (a.length+i)=get b i
 |[],_,_=>by simp
 | _::a,b,i=>by
   have:=Qf a b i
   simp only[B3,A4,Sa]
   exact this
theorem Qd:∀ (l:List V) (o n i:Nat),i<n→get ((l.drop o).take n) i=get l (o+i)
 |[],o,n,i,_=>by simp[get]
 |c::r,0,0,i,h=>by cases h
 |c::r,0,n+1,0,_=>rfl
 | c::r,0,n+1,i+1,h=>by
   have:=Qd r 0 n i (by omega)
   simp only[Bb] at this
   simp only[Ms,SF,get,Bb]
   simpa using this
 | c::r,o+1,n,i,h=>by
   have:=Qd r o n i h
   rw[List.drop_succ_cons,this,Sa]
   rfl
theorem UW{w:Nat}:∀ (es:List (List PV)) (i j:Nat),(∀ e∈es,e.length=w)→j<w→i<es.length→Aa es.flatten (i*w+j)=Aa (Av es i) j
 |[],i,_,_,_,h=>by cases h
 | e::r,0,j,hw,hj,_=>by
   have he:=hw e (Sb ..)
   rw[HJ,Bb,EN,NI _ _ _ (by omega)]
   rfl
 | e::r,i+1,j,hw,hj,h=>by
   have he:=hw e (Sb ..)
   rw[EN,show (i+1)*w+j=e.length+(i*w+j) by rw[he,Jd];omega,NG]
   exact UW r i j (fun e h=>hw e (List.mem_cons_of_mem _ h)) hj (by simpa using h)
theorem VH {α:Type}(f:α→List PV):∀ (l:List α) (i:Nat) (h:i<l.length),Av (l.map f) i=f l[i]
 |[],_,h=>by cases h
 |_::_,0,_=>rfl
 |_::l,i+1,h=>VH f l i (by simpa using h)
theorem L8{σ:Ac}:∀ (ty:Ty) {cs:List V},ty.good=true→Sh σ ty cs→∃ x:DL ty.cts,DL.wf ty.cts x ∧
 (∀ i,RC σ (ωro σ) .fz (Aa (DL.enc ty.cts x) i) (get cs i))∧∀ i hd p,RC σ (ωro σ) (.at hd p) (Aa (DL.encF ty.cts x) i) (get cs i)
 | .int k,cs,_,⟨n,h,hw⟩=>by
   subst h;exact⟨(n,()),⟨hw,trivial⟩,fun i=>by cases i<;>first|exact .v _ _ rfl|exact .undef _ _,fun i hd p=>by cases i<;>first|exact .v _ _ rfl|exact .undef _ _⟩
 | .bool,cs,_,⟨b,h⟩=>by
   subst h;exact⟨(b,()),⟨trivial,trivial⟩,fun i=>by cases i<;>first|exact .v _ _ rfl|exact .undef _ _,fun i hd p=>by cases i<;>first|exact .v _ _ rfl|exact .undef _ _⟩
 | .str,cs,_,⟨s,h,hl⟩=>by
   subst h;exact⟨(s,()),⟨hl,trivial⟩,fun i=>by cases i<;>first|exact .v _ _ rfl|exact .undef _ _,fun i hd p=>by cases i<;>first|exact .v _ _ rfl|exact .undef _ _⟩
 | .unit,cs,_,h=>by
   have h:cs=[]:=h;subst h;exact⟨(),trivial,fun i=>.undef _ _,fun i hd p=>.undef _ _⟩
 | .pair a b,cs,hg,⟨xs,ys,h,h1,h2⟩=>by
   simp only[Ty.good,Ai] at hg;obtain⟨x,x1,x2,x3⟩:=L8 a hg.1 h1;obtain⟨y,y1,y2,y3⟩:=L8 b hg.2 h2;have hl:=h1.len;subst h;refine⟨DL.app _ _ x y,DL.app_wf _ _ x y x1 y1,fun i=>?_,fun i hd p=>?_⟩
   · simp only[Ty.cts];rw[DL.app_enc];by_cases hi:i<a.w
     · rw[NI _ _ _ (by rw[DL.len,GQ];exact hi),Qi _ _ _ (by rw[hl];exact hi)];exact x2 i
     · obtain⟨j,rfl⟩:=Nat.exists_eq_add_of_le (Nat.le_of_not_lt hi);have e1:=NG (DL.enc a.cts x) (DL.enc b.cts y) j;have e2:=Qf xs ys j;rw[DL.len,GQ] at e1;rw[hl] at e2;rw[e1,e2];exact y2 j
   · simp only[Ty.cts];rw[DL.app_encF];by_cases hi:i<a.w
     · rw[NI _ _ _ (by rw[DL.lenF,GQ];exact hi),Qi _ _ _ (by rw[hl];exact hi)];exact x3 i hd p
     · obtain⟨j,rfl⟩:=Nat.exists_eq_add_of_le (Nat.le_of_not_lt hi);have e1:=NG (DL.encF a.cts x) (DL.encF b.cts y) j;have e2:=Qf xs ys j;rw[DL.lenF,GQ] at e1;rw[hl] at e2;rw[e1,e2];exact y3 j hd p
 | .sl t,cs,hg,h=>by
   simp only[Ty.good,Ai] at hg;have hw0:0<t.w:=BR hg.1
   have hne:t.cts≠[]:=by intro e;have:=GQ t;rw[e] at this;simp only[AW] at this;omega
   rcases h with h|⟨l,n,bs,h,hb,hbl,hn,he⟩
   · subst h;refine⟨(([]:List (Er t.cts).D),()),⟨⟨Ft _,fun x hx=>by cases hx⟩,trivial⟩,fun i=>?_,fun i hd p=>?_⟩
     · cases i<;>first|exact .nil _ _|exact .undef _ _
     · cases i<;>first|exact .nil _ _|exact .undef _ _
   · subst h
     have ex:∀ i,∃ x:DL t.cts,i<n→DL.wf t.cts x∧(∀ k,RC σ (ωro σ) .fz (Aa (DL.enc t.cts x) k) (get ((bs.drop (i*t.w)).take t.w) k)):=by
      intro i;by_cases hi:i<n
      · obtain⟨x,h1,h2,_⟩:=L8 t hg.2 (he i hi);exact⟨x,fun _=>⟨h1,h2⟩⟩
      · have h0:∀ l:List CT,Nonempty (DL l):=by
         intro l
         induction l with
         |nil=>exact⟨()⟩
         |cons a r ih=>obtain⟨y⟩:=ih;exact⟨(a.dflt,y)⟩
        obtain⟨y⟩:=h0 t.cts;exact⟨y,fun h=>absurd h hi⟩
     let f:Nat→DL t.cts:=fun i=>Classical.choose (ex i)
     have hf:∀ i,i<n→DL.wf t.cts (f i)∧∀ k,RC σ (ωro σ) .fz (Aa (DL.enc t.cts (f i)) k) (get ((bs.drop (i*t.w)).take t.w) k):=fun i hi=>Classical.choose_spec (ex i) hi
     let L:List (Er t.cts).D:=(List.range n).map fun i=>DL.rt t.cts (f i)
     have hL:L.length=n:=by simp[L]
     have hLw:∀ e∈L.map (RT.enc (Er t.cts)),e.length=t.w:=by
      intro e he;obtain⟨y,hy,rfl⟩:=List.mem_map.mp he;obtain⟨i,_,rfl⟩:=List.mem_map.mp hy;rw[DL.rt_enc _ _ hne,DL.len,GQ]
     have hcell:∀ k,k<L.length*t.w→RC σ (ωro σ) .fz (Aa (L.map (RT.enc (Er t.cts))).flatten k) (get bs (0+k)):=by
      intro k hk
      have hdm:k / t.w*t.w+k % t.w=k:=by rw[O2];exact O1 k t.w
      have hmod:=G0 k hw0
      have hdiv:k / t.w<n:=by rw[hL] at hk;exact(O4 hw0).2 hk
      have e1:=UW (L.map (RT.enc (Er t.cts))) (k / t.w) (k % t.w) hLw hmod (by rw[A5,hL];exact hdiv);rw[hdm] at e1;rw[e1,VH _ _ _ (by rw[hL];exact hdiv),Bb];have e2:=Qd bs (k / t.w*t.w) t.w (k % t.w) hmod;rw[hdm] at e2
      have e3:L[k / t.w]'(by rw[hL];exact hdiv)=DL.rt t.cts (f (k / t.w)):=by simp[L]
      rw[e3,DL.rt_enc _ _ hne,← e2];exact(hf _ hdiv).2 _
     have hwf:∀ x∈L,RT.wf (Er t.cts) x:=by
      intro x hx;obtain⟨i,hi,rfl⟩:=List.mem_map.mp hx;exact DL.rt_wf _ _ hne (hf i (List.mem_range.mp hi)).1
     have hle:0+(L.map (RT.enc (Er t.cts))).length*t.w≤bs.length:=by rw[A5,hL,hbl];omega
     refine⟨(L,()),⟨⟨by rw[hL];exact hn,hwf⟩,trivial⟩,fun i=>?_,fun i hd p=>?_⟩
     · cases i with
       |succ i=>exact .undef _ _
       |zero=>exact .sl _ _ _ _ _ _ _ hb (by simp) (ωro_frz hb) (fun e=>by cases e) (by rw[A5,hL]) hLw hle fun k hk=>hcell k (by rw[A5] at hk;exact hk)
     · cases i with
       |succ i=>exact .undef _ _
       |zero=>exact .sl _ _ _ _ _ _ _ hb (by simp) (ωro_frz hb) (fun _ e=>by rcases e with e|⟨_,_,e⟩<;>cases e) (by rw[A5,hL]) hLw hle fun k hk=>hcell k (by rw[A5] at hk;exact hk)
structure ArgD (σ:Ac) (v:PV) (u:V):Prop where
 rc:∀ hd p c,RC σ (ωro σ) (.at hd p) (v.fcell c) (u.fcell c)
 sh:Az v u
 nx:∀ c i pb tp,(v.fcell c).q≠some (.bor (.x i) pb tp)
theorem iE{v:V}(h:v.cell=true):(∀ us,v≠.agg us)∧∀ us,v≠.tup us:=by
 constructor<;>rintro us rfl<;>cases h
theorem SZ:∀ (l:List CT) (x:DL l) (i:Nat) (a:Hd) (pb:List Nat) (tp:Bool),(Aa (DL.encF l x) i).q≠some (.bor a pb tp)
 |[],_,_,_,_,_=>by simp[DL.encF,Aa,PV.q]
 |c::r,x,0,a,pb,tp=>by cases c<;>simp[DL.encF,Aa,CT.dv,DV.enc,PV.q]
 |_::r,x,i+1,a,pb,tp=>SZ r x.2 i a pb tp
theorem V4{σ:Ac}{a:Ty×Bool}{u:V}(hg:OK a=true)(h:ArgOk σ a u):∃ x:(H6 a).D,(H6 a).wf x∧ArgD σ ((H6 a).dv x).enc u:=by
 obtain⟨ty,b⟩:=a
 cases b with
 | true=>
   obtain⟨cs,rfl,hs,hc⟩:=h;obtain⟨x,h1,_,h3⟩:=L8 ty hg hs;have hle:=hs.len;refine⟨DL.ag ty.cts x,DL.ag_wf _ _ h1,?_⟩
   have he:((H6 (ty,true)).dv (DL.ag ty.cts x)).enc= .agg (DL.encF ty.cts x):=by
    show PV.agg _=PV.agg _;rw[DL.ag_enc]
   rw[he];refine⟨fun hd p c=>?_,⟨cs,rfl,by rw[hle,DL.lenF,GQ]⟩,fun c i pb tp=>?_⟩
   · match c with
     |[]=>exact .undef _ _
     |[c]=>exact h3 c hd p
     |_::_::_=>exact .undef _ _
   · match c with
     |[]=>simp[PV.fcell,PV.q]
     |[c]=>exact SZ _ _ _ _ _ _
     |_::_::_=>simp[PV.fcell,PV.q]
 | false =>
   obtain⟨hs,hc⟩:=h;simp only[OK,Ai,AB] at hg;obtain⟨x,h1,_,h3⟩:=L8 ty hg.1 hs
   have key:∀ (l:List CT) (x:DL l),l.length=1→DL.wf l x→(∀ i hd p,RC σ (ωro σ) (.at hd p) (Aa (DL.encF l x) i) (get [u] i)) →
    ∃ y:(match l with|[c]=>HT.one .frz c|_=>HT.agg []).D,(match l with|[c]=>HT.one .frz c|_=>HT.agg []).wf y∧ArgD σ ((match l with|[c]=>HT.one .frz c|_=>HT.agg []).dv y).enc u:=by
    intro l x hl hwf h3
    match l,x,hl,hwf,h3 with
    | [c],x,_,hwf,h3=>
      have hsc:=iE hc
      have hnf:∀ p,p≠[0]→((CT.dv .frz c x.1).enc).fcell p= .fl .undef:=by
       intro p hp;cases c<;>(match p with|[]=>rfl|[0]=>exact absurd rfl hp|(_+1)::_=>rfl|0::_::_=>rfl)
      have hf0:((CT.dv .frz c x.1).enc).fcell [0]=(CT.dv .frz c x.1).enc:=by cases c<;>rfl
      have hu0:u.fcell [0]=u:=by cases u<;>first|rfl|exact absurd rfl (hsc.1 _)|exact absurd rfl (hsc.2 _)
      refine⟨x.1,hwf.1,⟨fun hd p q=>?_,?_,fun q i pb tp=>?_⟩⟩
      · by_cases hq:q=[0]
        · subst hq;show RC σ (ωro σ) (.at hd p) (((CT.dv .frz c x.1).enc).fcell [0]) (u.fcell [0]);rw[hf0,hu0];exact h3 0 hd p
        · show RC σ (ωro σ) (.at hd p) (((CT.dv .frz c x.1).enc).fcell q) (u.fcell q);rw[hnf q hq];exact .undef _ _
      · show Az ((CT.dv .frz c x.1).enc) u;cases c<;>exact hsc
      · show (((CT.dv .frz c x.1).enc).fcell q).q≠_;by_cases hq:q=[0]
        · subst hq;rw[hf0];exact SZ [c] x 0 _ _ _
        · rw[hnf q hq];simp[PV.q]
   exact key ty.cts x hg.2 h1 h3
theorem QJ{σ:Ac}:∀ {tys:List (Ty×Bool)} {us:List V},tys.all OK=true→Kt σ tys us→∃ x:TuX (tys.map H6),TuX.wf _ x∧us.length=tys.length ∧
 ∀ t,ArgD σ (Aa (DV.encL (Di (tys.map H6) x)) t) (get us t)
 |[],[],_,_=>⟨(),trivial,rfl,fun t=>⟨fun hd p c=>by
  have:(PV.fl V.undef).fcell c= .fl .undef:=by match c with|[]=>rfl|[0]=>rfl|(_+1)::_=>rfl|0::_::_=>rfl
  show RC σ (ωro σ) (.at hd p) ((PV.fl V.undef).fcell c) _
  rw[this];exact .undef _ _,trivial,fun c i pb tp=>by
  have:(PV.fl V.undef).fcell c= .fl .undef:=by match c with|[]=>rfl|[0]=>rfl|(_+1)::_=>rfl|0::_::_=>rfl
  show ((PV.fl V.undef).fcell c).q≠_
  rw[this];simp[PV.q]⟩⟩
 | [a],[u],hg,h=>by
   simp only[DU,List.all_nil,HS] at hg;obtain⟨x,h1,h2⟩:=V4 hg h.1;obtain⟨_,_,_,h4⟩:=QJ (σ:=σ) (tys:=[]) (us:=[]) rfl trivial;refine⟨x,h1,rfl,fun t=>?_⟩
   cases t with
   |zero=>exact h2
   |succ t=>exact h4 t
 | a::b::r,u::us,hg,h=>by
   rw[DU,Ai] at hg;obtain⟨x,h1,h2⟩:=V4 hg.1 h.1;obtain⟨y,h3,h4,h5⟩:=QJ (tys:=b::r) (us:=us) hg.2 h.2;refine⟨(x,y),⟨h1,h3⟩,by simp[h4],fun t=>?_⟩
   cases t with
   |zero=>exact h2
   |succ t=>exact h5 t
 |[_],_::_::_,_,h=>h.2.elim
 |[_],[],_,h=>h.elim
 |_::_::_,[],_,h=>h.elim
 |[],_::_,_,h=>h.elim
theorem kZ{σ:Ac}{as:List PV}{us:List V}(hl:as.length=us.length)(h:∀ t,ArgD σ (Aa as t) (get us t)):RS σ (ωro σ) (ωro σ) (fun _=>0) ⟨as,[],[]⟩ ⟨us,[],σ⟩ X0:=by
 have no:∀ l hd p,ωro σ l≠.own hd p:=by intro l hd p e;unfold ωro at e;split at e<;>cases e
 have nop:∀ l i,ωro σ l≠.ptr i:=by intro l i e;unfold ωro at e;split at e<;>cases e
 have hund:∀ c,(PV.fl V.undef).fcell c= .fl .undef:=by
  intro c;match c with|[]=>rfl|[0]=>rfl|(_+1)::_=>rfl|0::_::_=>rfl
 have cat:∀ (c:List Nat) (l:List V),(AH [] l c).1= .fl .undef:=by
  intro c l;match c with|[]=>rfl|[_]=>rfl|_::_::_=>rfl
 refine⟨⟨fun hd p=>?_,fun l l' hd p e=>absurd e (no l hd p),fun l l' i e=>absurd e (nop l i),fun l e=>?_,fun l e=>?_⟩,fun t=>(h t).sh,fun i=>trivial,hl,rfl,fun i=>rfl,fun i c=>rfl,fun i c=>rfl,fun i hi=>(by cases hi),fun l i e=>absurd e (nop l i),fun l i p e=>absurd e (no l _ p),⟨AF _,fun l _ _=>⟨rfl,rfl⟩,fun l hlt e=>(by rw[e];simp),fun l i e=>e⟩,fun hd p i pb tp=>?_⟩
 · cases hd with
   |s t=>exact(h t).rc _ _ _
   |b i=>show RC σ (ωro σ) _ (AH [] (AA [] i) p).1 _;rw[cat];exact .undef _ _
   |h i=>show RC σ (ωro σ) _ (AH [] _ p).1 _;rw[cat];exact .undef _ _
   |x i=>show RC σ (ωro σ) _ ((PV.fl V.undef).fcell p) _;rw[hund];exact .undef _ _
 · rcases e with⟨hd,p,e⟩|⟨i,e⟩
   · exact absurd e (no l hd p)
   · exact absurd e (nop l i)
 · unfold ωro at e;split at e
   · assumption
   · cases e
 · cases hd with
   |s t=>exact(h t).nx p i pb tp
   |b j=>show (AH [] (AA [] j) p).1.q≠_;rw[cat];simp[PV.q]
   |h j=>show (AH [] _ p).1.q≠_;rw[cat];simp[PV.q]
   |x j=>show ((PV.fl V.undef).fcell p).q≠_;rw[hund];simp[PV.q]
theorem jP {f:DFun} {tys:List (Ty×Bool)} {hs:List HT} {s:A7} (hsp:GW s (IU f.er)) (hhs:tys.map H6=hs) (hg:tys.all OK=true) (ho:AllD f.body.obs)
 (hst:KR f hs (.one (.one .own .bool))=true) (hc:∀ x,KI f hs (.one (.one .own .bool)) x=true)
 (law:∀ x:TuX hs,TuX.wf hs x→FC f hs (.one (.one .own .bool)) x∧FG f hs (.one (.one .own .bool)) x=true) (σ:Ac) (us:List V) (hro:CM σ) (ha:Kt σ tys us):s us σ fun r _=>r= .bool true:=by
 subst hhs
 obtain⟨x,h1,h2,h3⟩:=QJ hg ha
 obtain⟨l1,l2⟩:=law x h1
 have hlen:(DV.encL (Di (tys.map H6) x)).length=us.length:=by rw[DJ,Ou,A5,h2]
 refine hsp σ (ωro σ) (fun _=>0) _ us [] (fun r _=>r= .fl (.bool true)) _ (kZ hlen h3) (fun l hd p e=>?_) ?_ fun u h' r H' ω' ρ' hQ R' _=>?_
 · exfalso;unfold ωro at e;split at e<;>cases e
 · refine Vu ho hst x (hc x) l1 fun H=>?_
   rw[l2];rfl
 · subst hQ
   have r:=R'.core.rc (.x 0) [0];have hs:=R'.shx 0;have r:RC h' ω' (.at (.x 0) [0]) (.fl (.bool true)) (u.fcell [0]):=r
   have hu:u.fcell [0]=u:=by
    have hs:Az (.fl (.bool true)) u:=hs
    cases u<;>first|rfl|exact absurd rfl (hs.1 _)|exact absurd rfl (hs.2 _)
   rw[hu] at r;cases r;rfl
def rk(pu:Bool)(res:List ARes)(h0:Ac)(Q:V→Ac→Prop):DD:=PJ ⟨0,0,0,pu,res,.skip⟩ h0 Q
@[congr] theorem lQ {c:ACode} {k:DD} {st st':St} (h:st=st'):CN c k st=CN c k st':=by rw[h]
@[congr] theorem lM {o:List AOper} {k:St→Prop} {st st':St} (h:st=st'):B5 o k st=B5 o k st':=by rw[h]
@[congr] theorem lP {o:AOp} {d:Option Nat} {k:St→Prop} {st st':St} (h:st=st'):AL o d k st=AL o d k st':=by rw[h]
@[congr] theorem lL {n:St→Prop} {k:DD} {e e':AExit} {st st':St} (he:e=e') (h:st=st'):Js n k e st=Js n k e' st':=by rw[he,h]
@[congr] theorem lI {i:Nat} {k:DD} {e e':AExit} {st st':St} (he:e=e') (h:st=st'):Kv i k e st=Kv i k e' st':=by rw[he,h]
@[congr] theorem lR {pu:Bool} {res:List ARes} {h0:Ac} {Q:V→Ac→Prop} {e e':AExit} {st st':St} (he:e=e') (h:st=st'):rk pu res h0 Q e st=rk pu res h0 Q e' st':=by rw[he,h]
def kh:V→Option V
 |.nils=>some (.int .i64 0)
 |.slice _ _ n=>some (.int .i64 n)
 |_=>none
def WB(hp:Ac)(n:Option Nat):V→Option V
 |.ptr l o=>(rd hp l o (n.getD 1)).bind fun cs=>Ck n cs
 |_=>none
def Rc(bx:List (List V))(hp:Ac)(n:Nat)(a x:V):Option (V×List (List V)×Ac):=match a with
 |.ptr l o=>if x.cells.length=n∧x.cells.all V.cell then (wr hp l o x.cells).bind fun h=>some (.undef,bx,h) else none
 |_=>none
theorem bind_some{α:Type}(o:Option α):(o.bind fun x=>some x)=o:=by cases o<;>rfl
section
variable {α:Type}
def KZ(f:α→Int→α×Int):List α→Int→List α×Int
 |[],m=>([],m)
 |a::r,m=>((f a m).1::(KZ f r (f a m).2).1,(KZ f r (f a m).2).2)
end
def kL:IntKind→Int→Int
 |.i64,m=>m
 |k,m=>k.wrap m
mutual
def CT.mkI:(t:CT)→t.D→Int→t.D×Int
 |.int k,_,m=>(kL k m,IntKind.i64.wrap (m+1))
 |.bool,_,m=>((m.tmod 3 == 0:Bool),IntKind.i64.wrap (m+1))
 |.str,s,m=>(s,m)
 |.ifc,b,m=>(b,m)
 |.sl r,l,m=>KZ (RT.mkI r) l m
def RT.mkI:(r:RT)→r.D→Int→r.D×Int
 |.one t,x,m=>CT.mkI t x m
 |.cons t r,x,m=>(((CT.mkI t x.1 m).1,(RT.mkI r x.2 (CT.mkI t x.1 m).2).1),(RT.mkI r x.2 (CT.mkI t x.1 m).2).2)
end
mutual
def CT.wl:(t:CT)→t.D→Prop
 |.sl r,l=>l.length≤9223372036854775807∧∀ a:r.D,List.Mem a l→RT.wl r a
 |_,_=>True
def RT.wl:(r:RT)→r.D→Prop
 |.one t,x=>CT.wl t x
 |.cons t r,x=>CT.wl t x.1∧RT.wl r x.2
end
section
variable {h h':Ac} {ω:Nat→W} {hd:Hd} {p:List Nat}
abbrev Jo (ω:Nat→W) (hd:Hd) (p:List Nat):Nat→Prop:=fun l=>∃ q,ω l= .own hd (p++q)
abbrev MS (h:Ac) (ω:Nat→W) (hd:Hd) (p:List Nat) (r:RT) (l:List r.D) (u:V):Prop:=RC h ω (.inn hd p) (.sl .own (l.map r.enc)) u
theorem MS.len{r:RT}{l:List r.D}{u:V}(M:MS h ω hd p r l u):kh u=some (.int .i64 (l.length:Int)):=by
 unfold MS at M;generalize he:l.map r.enc=es at M
 have hl:l.length=es.length:=by rw[← he,A5]
 cases M with
 |nil=>rw[hl];rfl
 |sl _ _ _ l o n b h1 hk hc hne hn hw hle hr=>rw[hl,← hn];rfl
theorem MS.ok1{r:RT}{l:List r.D}{u:V}(M:MS h ω hd p r l u):u.ok1=true∧u.cell=true:=by
 unfold MS at M;generalize l.map r.enc=es at M;cases M<;>exact⟨rfl,rfl⟩
theorem MS.slice{r:RT}{l:List r.D}{u:V}(M:MS h ω hd p r l u)(hl:0<l.length):∃ b,u= .slice b 0 l.length:=by
 unfold MS at M;generalize he:l.map r.enc=es at M
 have hl':l.length=es.length:=by rw[← he,A5]
 cases M with
 |nil=>rw[hl'] at hl;simp at hl
 | sl _ _ _ b o n bk h1 hk hc hne hn hw hle hr=>
   obtain⟨_,rfl,_⟩:=hc;exact⟨b,by rw[hl',hn]⟩
theorem MS.upd {r:RT} {l:List r.D} {b n:Nat} (M:MS h ω hd p r l (.slice b 0 n)) {i off:Nat} (hi:i<l.length) (hoff:off<r.w) {y:r.D} {c:PV} (hy:r.enc y=An (r.enc (l.getD i r.dflt)) off [c])
 {bk:Blk} (h1:h[b]?=some bk) {cs':List V} (h1':h'[b]?=some { bk with cs:=cs' }) (hcl:cs'.length=bk.cs.length) {v:V} (hcs:∀ k,get cs' k=if k=i*r.w+off then v else get bk.cs k)
 (hO:∀ x,x≠b→(∀ q,ω x≠.own hd (p++(i*r.w+off)::q))→h'[x]?=h[x]?) (hc:RC h' ω (.inn hd (p++[i*r.w+off])) c v):MS h' ω hd p r (l.set i y) (.slice b 0 n):=by
 unfold MS at M ⊢
 rw[← LQ,hy,← EH r l i hi]
 generalize he:l.map r.enc=es at M
 have hl':l.length=es.length:=by rw[← he,A5]
 have hwr:∀ e∈es,e.length=r.w:=by rw[← he];intro e h;obtain⟨x,_,rfl⟩:=List.mem_map.1 h;exact HO r x
 have hi':i<es.length:=by rw[← hl'];exact hi
 cases M with
 | sl _ _ _ _ o _ bk' h1b hk hch hne hn hw hle hr=>
   rw[h1] at h1b;cases h1b
   have hbw:bk.w=r.w:=by rw[← hw _ (Dc (l:=es) hi')];exact hwr _ (Dc hi')
   have hel:=IK hw hi';obtain⟨hb1,_,hb3⟩:=hch
   refine RC.sl _ .own _ b 0 n { bk with cs:=cs' } h1' hk ⟨hb1,rfl,hb3⟩ (fun _ _ h=>by have:=congrArg List.length h;rw[C8] at this;simp only[AW] at this;omega) (by rw[C8];exact hn) (Mf hw (by rw[D7];exact hel)) (by rw[C8];simp only[hcl];exact hle) fun k hk'=>?_
   simp only[C8] at hk';rw[N7 hw hi' (by rw[hbw];simp only[A4,AW];omega) k hk',Bb,hcs];simp only[A4,AW,hbw];by_cases hkk:k=i*r.w+off
   · subst hkk;rw[Ab ⟨by omega,by omega⟩,Ab rfl,Po];exact hc
   · rw[Ad (by omega),Ad hkk];have r0:=hr k hk';rw[Bb] at r0;refine r0.inn0 (f:=Ren.id) (T:=fun x=>x=b∨∃ q,ω x= .own hd (p++(i*r.w+off)::q)) ⟨fun x e=>⟨e,hO x (by rintro rfl;rw[hb1] at e;cases e) (fun q e'=>by rw[e] at e';cases e')⟩,fun x a q e hn=>⟨by rw[e];rfl,hO x (fun h=>hn (.inl h)) (fun q' e'=>hn (.inr ⟨q',e'⟩))⟩⟩ (fun x q e hT=>?_) (fun q=>rfl);rcases hT with rfl|⟨q',e'⟩
     · rw[hb1] at e;simp only[W.own.injEq] at e;have:=congrArg List.length e.2;simp at this
     · rw[e] at e';simp only[W.own.injEq,Bo,B3,B4,List.append_cancel_left_eq,GU] at e';exact hkk e'.2.1
theorem MS.store {r:RT} {l:List r.D} {b n:Nat} (M:MS h ω hd p r l (.slice b 0 n)) {i off:Nat} (hi:i<l.length) (hoff:off<r.w) {v:V} (hv:v.flat=true) (hvc:v.cells=[v]) {y:r.D} (hy:r.enc y=An (r.enc (l.getD i r.dflt)) off [.fl v])
 (hinj:∀ l l' a q,ω l= .own a q→ω l'= .own a q→l=l') (bx:List (List V)):∃ h',Rc bx h 1 (.ptr b (i*r.w+off)) v=some (.undef,bx,h')∧Only (Jo ω hd p) h h'∧MS h' ω hd p r (l.set i y) (.slice b 0 n):=by
 have M0:=M
 unfold MS at M0
 generalize he:l.map r.enc=es at M0
 have hl':l.length=es.length:=by rw[← he,A5]
 have hwr:∀ e∈es,e.length=r.w:=by rw[← he];intro e h;obtain⟨x,_,rfl⟩:=List.mem_map.1 h;exact HO r x
 have hi':i<es.length:=by rw[← hl'];exact hi
 cases M0 with
 | sl _ _ _ _ o _ bk h1 hk hch hne hn hw hle hr=>
   have hbw:bk.w=r.w:=by rw[← hw _ (Dc (l:=es) hi')];exact hwr _ (Dc hi')
   obtain⟨hb1,_,hb3⟩:=hch
   have hlt:i*r.w+off<bk.cs.length:=by
    have:(i+1)*r.w≤es.length*r.w:=F1 _ hi';rw[Cu,HM] at this;rw[hbw] at hle;omega
   have hb:b<h.length:=Bu h1
   have hset:∀ k,(h.set b { bk with cs:=splice bk.cs (i*r.w+off) [v] })[k]?=if k=b then some { bk with cs:=splice bk.cs (i*r.w+off) [v] } else h[k]?:=by
    intro k;rw[EJ];by_cases hk:b=k
    · subst hk;simp[hb]
    · rw[Ad hk,Ad (fun h'=>hk h'.symm)]
   have hvcell:[v].all V.cell=true:=by
    cases v<;>first|rfl|(simp[V.flat] at hv)
   refine⟨h.set b { bk with cs:=splice bk.cs (i*r.w+off) [v] },?_,⟨by simp,fun x hx=>?_,fun x bx' hx=>?_⟩,M.upd hi hoff hy h1 (cs':=splice bk.cs (i*r.w+off) [v]) (v:=v) (by rw[hset,Ab rfl]) (DG _ _ _) (fun k=>?_) (fun x hx _=>by rw[hset,Ad hx]) (.v _ _ hv)⟩
   · have hwr':wr h b (i*r.w+off) [v]=some (h.set b { bk with cs:=splice bk.cs (i*r.w+off) [v] }):=by
      rw[wr,h1];simp only;rw[Ab ⟨hb3,by simp only[A4,AW];omega⟩]
     simp only[Rc,hvc,hvcell,A4,AW,hwr'];rfl
   · rw[hset,Ad];rintro rfl;exact hx ⟨[],by rw[hb1];simp⟩
   · by_cases hxb:x=b
     · subst hxb;rw[h1] at hx;cases hx;exact⟨{ bk with cs:=splice bk.cs (i*r.w+off) [v] },by rw[hset,Ab rfl],rfl,rfl,DG _ _ _⟩
     · exact⟨bx',by rw[hset,Ad hxb];exact hx,rfl,rfl,rfl⟩
   · rw[Ls _ _ _ _ (by simp only[A4,AW];omega)];simp only[A4,AW];by_cases hkk:k=i*r.w+off
     · subst hkk;rw[Ab ⟨by omega,by omega⟩,Ab rfl,Po];rfl
     · rw[Ad (by omega),Ad hkk]
theorem MS.load{r:RT}{l:List r.D}{b n:Nat}(M:MS h ω hd p r l (.slice b 0 n)){i off:Nat}(hi:i<l.length)(hoff:off<r.w){r':RT}{l':List r'.D}(hx:Aa (r.enc (l.getD i r.dflt)) off= .sl .own (l'.map r'.enc)) :
 ∃ u,WB h none (.ptr b (i*r.w+off))=some u∧MS h ω hd (p++[i*r.w+off]) r' l' u∧∃ bk,h[b]?=some bk∧get bk.cs (i*r.w+off)=u:=by
 have M0:=M
 unfold MS at M0
 rw[← EH r l i hi] at hx
 generalize he:l.map r.enc=es at M0 hx
 have hl':l.length=es.length:=by rw[← he,A5]
 have hwr:∀ e∈es,e.length=r.w:=by rw[← he];intro e h;obtain⟨x,_,rfl⟩:=List.mem_map.1 h;exact HO r x
 have hi':i<es.length:=by rw[← hl'];exact hi
 cases M0 with
 | sl _ _ _ _ o _ bk h1 hk hch hne hn hw hle hr=>
   have hbw:bk.w=r.w:=by rw[← hw _ (Dc (l:=es) hi')];exact hwr _ (Dc hi')
   have hm:(i+1)*r.w≤es.length*r.w:=F1 _ hi';rw[Cu,HM] at hm
   have hlt:i*r.w+off<bk.cs.length:=by rw[hbw] at hle;omega
   have r0:=hr (i*r.w+off) (by rw[hbw];omega);rw[Bb] at r0;have hf:Aa es.flatten (i*r.w+off)=Aa (Av es i) off:=Fi (w:=r.w) (by rw[← hbw];exact hw) i off hoff;rw[hf,hx] at r0;refine⟨get bk.cs (i*r.w+off),?_,r0,bk,h1,rfl⟩
   have e1:rd h b (i*r.w+off) 1=some ((bk.cs.drop (i*r.w+off)).take 1):=by
    rw[rd,h1];simp only;rw[Ab ⟨hk,by omega⟩]
   show (rd h b (i*r.w+off) 1).bind (Ck none)=_;rw[e1];rw[OZ hlt];simp only[SF,List.take_zero,HL,Ck,B1,As hlt];rfl
theorem MS.sub {r:RT} {l:List r.D} {b n:Nat} (M:MS h ω hd p r l (.slice b 0 n)) {i off:Nat} (hi:i<l.length) (hoff:off<r.w) {u:V} {bk:Blk} (h1:h[b]?=some bk) (hu:get bk.cs (i*r.w+off)=u)
 (hO:Only (Jo ω hd (p++[i*r.w+off])) h h') {r':RT} {l':List r'.D} (hr:MS h' ω hd (p++[i*r.w+off]) r' l' u) {y:r.D} (hy:r.enc y=An (r.enc (l.getD i r.dflt)) off [.sl .own (l'.map r'.enc)]) :
 Only (Jo ω hd p) h h'∧MS h' ω hd p r (l.set i y) (.slice b 0 n):=by
 have hb1:ω b= .own hd p:=by
  have M0:=M;unfold MS at M0;generalize l.map r.enc=es at M0
  cases M0 with
  |sl _ _ _ _ o _ bk h1 hk hch hne hn hw hle hr=>exact hch.1
 refine⟨hO.mono fun x ⟨q,e⟩=>⟨(i*r.w+off)::q,by rw[e];simp⟩,M.upd hi hoff hy h1 (cs':=bk.cs) (v:=u) ?_ rfl (fun k=>?_) (fun x _ hx=>hO.off x (fun⟨q,e⟩=>hx q (by rw[e];simp))) hr⟩
 · rw[hO.off b]
   · exact h1
   · rintro⟨q,e⟩;rw[hb1] at e;simp only[W.own.injEq] at e;have:=congrArg List.length e.2;simp at this
 · split
   · rename_i hk;rw[hk,hu]
   · rfl
theorem MS.frame{r:RT}{l:List r.D}{u:V}(M:MS h ω hd p r l u){i:Nat}(hi:i<l.length):MS h ω hd p r (l.set i (l.getD i r.dflt)) u:=by
 have:l.set i (l.getD i r.dflt)=l:=by
  rw[Dx,As hi];simp
 rw[this];exact M
theorem Qy{r:RT}{l:List r.D}{i:Nat}(hi:i<l.length)(x:r.D):(l.set i x).getD i r.dflt=x:=by
 rw[Dx,List.getElem?_set_self (by simpa using hi)];rfl
theorem MS.st {r:RT} {l:List r.D} {b n i:Nat} {x:r.D} (M:MS h ω hd p r (l.set i x) (.slice b 0 n)) (hi:i<l.length) {off:Nat} (hoff:off<r.w) {v:V} (hv:v.flat=true) (hvc:v.cells=[v]) {y:r.D} (hy:r.enc y=An (r.enc x) off [.fl v])
 (hinj:∀ l l' a q,ω l= .own a q→ω l'= .own a q→l=l') (bx:List (List V)):∃ h',Rc bx h 1 (.ptr b (i*r.w+off)) v=some (.undef,bx,h')∧Only (Jo ω hd p) h h'∧MS h' ω hd p r (l.set i y) (.slice b 0 n):=by
 obtain⟨h',e1,e2,e3⟩:=M.store (i:=i) (off:=off) (by simpa using hi) hoff hv hvc (y:=y) (by rw[Qy hi];exact hy) hinj bx
 rw[List.set_set] at e3
 exact⟨h',e1,e2,e3⟩
theorem MS.sb{r:RT}{l:List r.D}{b n i:Nat}{x:r.D}(M:MS h ω hd p r (l.set i x) (.slice b 0 n))(hi:i<l.length){off:Nat}(hoff:off<r.w){r':RT}{l':List r'.D}(hx:Aa (r.enc x) off= .sl .own (l'.map r'.enc)) :
 ∃ u,WB h none (.ptr b (i*r.w+off))=some u∧MS h ω hd (p++[i*r.w+off]) r' l' u ∧
   ∀ (h':Ac) (l'':List r'.D) (y:r.D),Only (Jo ω hd (p++[i*r.w+off])) h h'→MS h' ω hd (p++[i*r.w+off]) r' l'' u→r.enc y=An (r.enc x) off [.sl .own (l''.map r'.enc)]→Only (Jo ω hd p) h h'∧MS h' ω hd p r (l.set i y) (.slice b 0 n):=by
 obtain⟨u,e1,e2,bk,e3,e4⟩:=M.load (i:=i) (off:=off) (by simpa using hi) hoff (r':=r') (l':=l') (by rw[Qy hi];exact hx)
 refine⟨u,e1,e2,fun h' l'' y hO hM hy=>?_⟩
 obtain⟨k1,k2⟩:=M.sub (i:=i) (off:=off) (by simpa using hi) hoff e3 e4 hO hM (y:=y) (by rw[Qy hi];exact hy)
 rw[List.set_set] at k2
 exact⟨k1,k2⟩
theorem RC.flat1{H:Ac}{m:Md}{x u:V}(r:RC H ω m (.fl x) u)(hx:x≠.undef):u=x:=by
 cases r with
 |undef=>exact absurd rfl hx
 |v=>rfl
end
def SlC(s:A7)(r:RT):Prop:=∀ (h:Ac) (ω:Nat→W) (hd:Hd) (p:List Nat) (l:List r.D) (u:V) (m:Int) (Q:V→Ac→Prop),CT.wl (.sl r) l→(∀ l l' a q,ω l= .own a q→ω l'= .own a q→l=l')→MS h ω hd p r l u →
 (∀ h',Only (Jo ω hd p) h h'→MS h' ω hd p r (KZ r.mkI l m).1 u→Q (.int .i64 (KZ r.mkI l m).2) h')→s [u,.int .i64 m] h Q
def lv(r:RT):DMk:=⟨.one (.sl r),false,fun l=>CT.wl (.sl r) l,fun l m=>KZ r.mkI l m,false⟩
theorem SlC.sound{s:A7}{r:RT}(hs:SlC s r):Ss s (lv r).P:=by
 rintro h ω hd P b AN us u m K Q hinj hu hl hr ⟨x,rfl,hok,hK⟩ hQ;have hu:us=[u]:=hu;subst hu;have h0:=hr 0 (by show 0<1;omega)
 refine hs h ω hd (P++[b]) x u m Q hok hinj h0 fun h' hO hM=>?_
 refine hQ _ _ h' hK rfl (hO.mono fun l ⟨q,e⟩=>⟨0,_,q,by show 0<1;omega,rfl,by rw[e];simp⟩) fun c hc=>?_
 have:c=0:=by have:c<1:=hc;omega
 subst this;exact hM
structure Fn where
 d:DFun
 h:List HT
 q:QT
@[irreducible] def Fn.S(F:Fn):A7:=Ku F.d.er.er
@[irreducible] def Fn.P(F:Fn):BW:=IU F.d.er
@[irreducible] def Fn.V(F:Fn)(x:TuX F.h):F.q.D:=(shut fun x=>FG F.d F.h F.q x).1 x
@[irreducible] def Fn.O(F:Fn)(x:TuX F.h):Prop:=(shut fun x=>FC F.d F.h F.q x).1 x
def Fn.D(F:Fn):EY:=F4 F.h F.q F.O F.V
theorem Fn.v(F:Fn)(x:TuX F.h):F.V x=FG F.d F.h F.q x:=by unfold Fn.V;exact congrFun (shut _).2 x
theorem Fn.o(F:Fn)(x:TuX F.h):F.O x=FC F.d F.h F.q x:=by unfold Fn.O;exact congrFun (shut _).2 x
def Fn.A(F:Fn):Prop:=GW F.S F.P
def Fn.B(F:Fn):Prop:=HE F.P F.D
theorem Bm{F:Fn}(o:AllP F.d.er.body.obs):F.A:=by unfold Fn.A Fn.S Fn.P;exact UP o
theorem Bq{F:Fn}(o:AllD F.d.body.obs)(st:KR F.d F.h F.q=true)(c:∀ x,KI F.d F.h F.q x=true):F.B:=by
 unfold Fn.B Fn.P;exact Vi o st c (fun x h=>Eq.mp (F.o x) h) (fun x=>(F.v x).symm)
@[reducible] def oF (i d:Nat) (F:Fn) (args:List Opnd):DOper:=⟨i,some d,.call false F.S F.P F.D args,none,[]⟩
@[reducible] def xF (i d:Nat) (F:Fn) (args:List Opnd) (a:List Nat):DOper:=⟨i,some d,.call false F.S F.P F.D args,none,a⟩
theorem lF{P:Program}(hm:P.follows .mixedOrders=true){F:Fn}{f:FuncId}{fn:Func}{obs:List (FuncId×A7)}(hf:P.funcs[f]?=some fn)(hk:Pz P fn F.d.er.er=true)(ho:PB P fn F.d.er.er=obs)(hob:AllSound P obs):Aq P f F.S:=by
 unfold Fn.S;exact bX hm hf hk ho hob
section
set_option maxRecDepth 8000
def bW:DCode:=(.seq [2,1,0] (.region [oa 0 6 (.mv (.c (.bool false)))]) (.seq [6] (.region [om 0 7 0,om 1 8 1,oa 2 9 (.bin .geq (.t 7) (.t 8)),om 3 10 9,og 4 11 (.mv (.t 0)) 10 true,og 5 12 (.mv (.t 2)) 10 true,og 6 13 (.bin .leq (.t 11) (.t 12)) 10 true,oa 7 14 (.pick (.t 10) (.t 13) (.c (.bool false))),om 8 6 14]) .ret))
def BI:Fn:=⟨⟨3,15,0,true,[.tmp 6],bW⟩,[.one .frz (.int .i64),.one .frz (.int .i64),.one .frz (.int .i64)],.one (.one .own (.bool))⟩
theorem Hg:BI.A:=Bm trivial
def BM:Int×Int×Int→Bool:=BI.V
def EA:Int×Int×Int→Prop:=BI.O
theorem Hf:BI.B:=Bq trivial (by kernel_rfl) (fun x=>by kernel_rfl)
def Zy:DCode:=(.seq [1] (.region [oa 0 1 (.boxB 0 4 (.t 0)),oa 1 2 (.mv (.c (.bool false)))]) (.seq [3,1] (.region [oa 0 6 (.fieldA 1 (.t 1)),oa 1 7 (.loadB 0 none (.t 6)),oF 2 8 BI [(.t 7),(.c (.int .i64 1)),(.c (.int .i64 56))],om 3 3 8]) (.seq [4,3,1] (.region [oa 0 9 (.fieldA 2 (.t 1)),oa 1 10 (.loadB 0 none (.t 9)),oF 2 11 BI [(.t 10),(.c (.int .i64 1)),(.c (.int .i64 15))],om 3 4 11]) (.seq [5,4,3,1] (.region [oa 0 12 (.fieldA 3 (.t 1)),oa 1 13 (.loadB 0 none (.t 12)),oF 2 14 BI [(.t 13),(.c (.int .i64 1)),(.c (.int .i64 3))],om 3 5 14]) (.seq [] (.seq [16,5,4,3,1] (.region [oa 0 15 (.fieldA 0 (.t 1)),oa 1 16 (.loadB 0 none (.t 15))]) (.block 0 (.seq [17,16,5,4,3,1] (.seq [17,16,5,4,3,1] (.region [oa 0 18 (.bin .eql (.t 16) (.c (.int .i64 0))),om 1 17 18]) (.cond (.t 17) .skip (.seq [17,16,5,4,3,1] (.region [oa 0 19 (.bin .eql (.t 16) (.c (.int .i64 1))),om 1 17 19]) (.cond (.t 17) .skip (.region [oa 0 20 (.bin .eql (.t 16) (.c (.int .i64 10))),om 1 17 20]))))) (.cond (.t 17) (.seq [2] (.region [oa 0 21 (.fieldA 1 (.t 1)),oa 1 22 (.loadB 0 none (.t 21)),oa 2 23 (.bin .eql (.t 22) (.c (.int .i64 0))),om 3 24 23,og 4 25 (.fieldA 2 (.t 1)) 24 true,og 5 26 (.loadB 0 none (.t 25)) 24 true,og 6 27 (.bin .eql (.t 26) (.c (.int .i64 0))) 24 true,oa 7 28 (.pick (.t 24) (.t 27) (.c (.bool false))),om 8 29 28,og 9 30 (.fieldA 3 (.t 1)) 29 true,og 10 31 (.loadB 0 none (.t 30)) 29 true,og 11 32 (.bin .eql (.t 31) (.c (.int .i64 0))) 29 true,oa 12 33 (.pick (.t 29) (.t 32) (.c (.bool false))),om 13 2 33]) .ret) (.seq [34,16,5,4,3,1] (.region [oa 0 35 (.bin .eql (.t 16) (.c (.int .i64 2))),om 1 34 35]) (.cond (.t 34) (.seq [2] (.region [oa 0 36 (.fieldA 3 (.t 1)),oa 1 37 (.loadB 0 none (.t 36)),oa 2 38 (.bin .eql (.t 37) (.c (.int .i64 0))),om 3 39 38,og 4 40 (.mv (.t 3)) 39 true,og 5 41 (.mv (.t 40)) 39 true,og 6 42 (.fieldA 1 (.t 1)) 41 false,og 7 43 (.loadB 0 none (.t 42)) 41 false,og 8 44 (.bin .eql (.t 43) (.c (.int .i64 0))) 41 false,og 9 45 (.mv (.t 44)) 41 false,og 10 46 (.mv (.t 4)) 45 true,og 11 47 (.pick (.t 45) (.t 46) (.c (.bool false))) 41 false,og 12 48 (.pick (.t 41) (.c (.bool true)) (.t 47)) 39 true,oa 13 49 (.pick (.t 39) (.t 48) (.c (.bool false))),om 14 50 49,og 15 51 (.mv (.t 4)) 50 true,og 16 52 (.mv (.t 51)) 50 true,og 17 53 (.fieldA 2 (.t 1)) 52 false,og 18 54 (.loadB 0 none (.t 53)) 52 false,og 19 55 (.bin .eql (.t 54) (.c (.int .i64 0))) 52 false,og 20 56 (.pick (.t 52) (.c (.bool true)) (.t 55)) 50 true,oa 21 57 (.pick (.t 50) (.t 56) (.c (.bool false))),om 22 2 57]) .ret) (.seq [58,16,5,4,3,1] (.seq [58,16,5,4,3,1] (.region [oa 0 59 (.bin .eql (.t 16) (.c (.int .i64 3))),om 1 58 59]) (.cond (.t 58) .skip (.region [oa 0 60 (.bin .eql (.t 16) (.c (.int .i64 4))),om 1 58 60]))) (.cond (.t 58) (.seq [2] (.region [om 0 61 5,om 1 62 61,og 2 63 (.fieldA 1 (.t 1)) 62 true,og 3 64 (.loadB 0 none (.t 63)) 62 true,og 4 65 (.bin .eql (.t 64) (.c (.int .i64 0))) 62 true,oa 5 66 (.pick (.t 62) (.t 65) (.c (.bool false))),om 6 67 66,og 7 68 (.fieldA 2 (.t 1)) 67 true,og 8 69 (.loadB 0 none (.t 68)) 67 true,og 9 70 (.bin .eql (.t 69) (.c (.int .i64 0))) 67 true,oa 10 71 (.pick (.t 67) (.t 70) (.c (.bool false))),om 11 2 71]) .ret) (.seq [72,16,5,4,3,1] (.seq [72,16,5,4,3,1] (.region [oa 0 73 (.bin .eql (.t 16) (.c (.int .i64 5))),om 1 72 73]) (.cond (.t 72) .skip (.region [oa 0 74 (.bin .eql (.t 16) (.c (.int .i64 9))),om 1 72 74]))) (.cond (.t 72) (.seq [2] (.region [oa 0 75 (.fieldA 3 (.t 1)),oa 1 76 (.loadB 0 none (.t 75)),oF 2 77 BI [(.t 76),(.c (.int .i64 0)),(.c (.int .i64 3))],om 3 78 77,og 4 79 (.fieldA 1 (.t 1)) 78 true,og 5 80 (.loadB 0 none (.t 79)) 78 true,og 6 81 (.bin .eql (.t 80) (.c (.int .i64 0))) 78 true,oa 7 82 (.pick (.t 78) (.t 81) (.c (.bool false))),om 8 83 82,og 9 84 (.fieldA 2 (.t 1)) 83 true,og 10 85 (.loadB 0 none (.t 84)) 83 true,og 11 86 (.bin .eql (.t 85) (.c (.int .i64 0))) 83 true,oa 12 87 (.pick (.t 83) (.t 86) (.c (.bool false))),om 13 2 87]) .ret) (.seq [88,16,5,4,3,1] (.region [oa 0 89 (.bin .eql (.t 16) (.c (.int .i64 6))),om 1 88 89]) (.cond (.t 88) (.seq [2] (.region [om 0 90 3,om 1 91 90,og 2 92 (.mv (.t 4)) 91 true,oa 3 93 (.pick (.t 91) (.t 92) (.c (.bool false))),om 4 94 93,og 5 95 (.fieldA 3 (.t 1)) 94 true,og 6 96 (.loadB 0 none (.t 95)) 94 true,og 7 97 (.bin .eql (.t 96) (.c (.int .i64 0))) 94 true,oa 8 98 (.pick (.t 94) (.t 97) (.c (.bool false))),om 9 2 98]) .ret) (.seq [99,16,5,4,3,1] (.region [oa 0 100 (.bin .eql (.t 16) (.c (.int .i64 7))),om 1 99 100]) (.cond (.t 99) (.seq [2] (.region [om 0 101 3,om 1 102 101,og 2 103 (.mv (.t 5)) 102 true,oa 3 104 (.pick (.t 102) (.t 103) (.c (.bool false))),om 4 105 104,og 5 106 (.fieldA 2 (.t 1)) 105 true,og 6 107 (.loadB 0 none (.t 106)) 105 true,og 7 108 (.bin .eql (.t 107) (.c (.int .i64 0))) 105 true,oa 8 109 (.pick (.t 105) (.t 108) (.c (.bool false))),om 9 2 109]) .ret) (.seq [110,4,1] (.region [oa 0 111 (.bin .eql (.t 16) (.c (.int .i64 8))),om 1 110 111]) (.cond (.t 110) (.seq [2] (.region [om 0 112 4,om 1 113 112,og 2 114 (.fieldA 1 (.t 1)) 113 true,og 3 115 (.loadB 0 none (.t 114)) 113 true,og 4 116 (.bin .eql (.t 115) (.c (.int .i64 0))) 113 true,oa 5 117 (.pick (.t 113) (.t 116) (.c (.bool false))),om 6 118 117,og 7 119 (.fieldA 3 (.t 1)) 118 true,og 8 120 (.loadB 0 none (.t 119)) 118 true,og 9 121 (.bin .eql (.t 120) (.c (.int .i64 0))) 118 true,oa 10 122 (.pick (.t 118) (.t 121) (.c (.bool false))),om 11 2 122]) .ret) .skip)))))))))))))))) (.seq [2] (.region [oa 0 2 (.mv (.c (.bool false)))]) .ret))))))
def Fa:Fn:=⟨⟨1,123,1,true,[.tmp 2],Zy⟩,[.agg [(.frz,.int .i64),(.frz,.int .i64),(.frz,.int .i64),(.frz,.int .i64)]],.one (.one .own (.bool))⟩
theorem Tp:Fa.A:=Bm ⟨Hg,Hg,Hg,Hg,trivial⟩
def D4:Int×Int×Int×Int→Bool:=Fa.V
def JI:Int×Int×Int×Int→Prop:=Fa.O
theorem Tl:Fa.B:=Bq ⟨Hf,Hf,Hf,Hf,trivial⟩ (by kernel_rfl) (fun x=>by kernel_rfl)
def aT:DCode:=(.seq [0] (.region [oa 0 2 (.mv (.c (.bool false)))]) (.seq [2] (.region [om 0 3 0,oa 1 4 (.bin .geq (.t 3) (.c (.int .i64 1))),om 2 5 4,og 3 6 (.mv (.t 0)) 5 true,og 4 7 (.bin .leq (.t 6) (.c (.int .i64 56))) 5 true,oa 5 8 (.pick (.t 5) (.t 7) (.c (.bool false))),om 6 2 8]) .ret))
def Dr:Fn:=⟨⟨1,9,0,true,[.tmp 2],aT⟩,[.one .frz (.int .i64)],.one (.one .own (.bool))⟩
theorem P7:Dr.A:=Bm trivial
def Fe:Int→Bool:=Dr.V
def JP:Int→Prop:=Dr.O
theorem Qb:Dr.B:=Bq trivial (by kernel_rfl) (fun x=>by kernel_rfl)
def aX:DCode:=(.seq [0] (.region [oa 0 2 (.mv (.c (.bool false)))]) (.seq [2] (.region [om 0 3 0,oa 1 4 (.bin .geq (.t 3) (.c (.int .i64 1))),om 2 5 4,og 3 6 (.mv (.t 0)) 5 true,og 4 7 (.bin .leq (.t 6) (.c (.int .i64 15))) 5 true,oa 5 8 (.pick (.t 5) (.t 7) (.c (.bool false))),om 6 2 8]) .ret))
def Cw:Fn:=⟨⟨1,9,0,true,[.tmp 2],aX⟩,[.one .frz (.int .i64)],.one (.one .own (.bool))⟩
theorem Qa:Cw.A:=Bm trivial
def JU:Int→Bool:=Cw.V
def Iu:Int→Prop:=Cw.O
theorem P9:Cw.B:=Bq trivial (by kernel_rfl) (fun x=>by kernel_rfl)
def aF:DCode:=(.seq [0] (.region [oa 0 2 (.mv (.c (.bool false)))]) (.seq [2] (.region [om 0 3 0,oa 1 4 (.bin .geq (.t 3) (.c (.int .i64 1))),om 2 5 4,og 3 6 (.mv (.t 0)) 5 true,og 4 7 (.bin .leq (.t 6) (.c (.int .i64 3))) 5 true,oa 5 8 (.pick (.t 5) (.t 7) (.c (.bool false))),om 6 2 8]) .ret))
def Dq:Fn:=⟨⟨1,9,0,true,[.tmp 2],aF⟩,[.one .frz (.int .i64)],.one (.one .own (.bool))⟩
theorem TC:Dq.A:=Bm trivial
def NH:Int→Bool:=Dq.V
def Lj:Int→Prop:=Dq.O
theorem TA:Dq.B:=Bq trivial (by kernel_rfl) (fun x=>by kernel_rfl)
def Zp:DCode:=(.seq [1] (.region [oa 0 1 (.boxB 0 4 (.t 0)),oa 1 2 (.mv (.c (.bool false)))]) (.seq [] (.seq [4,1] (.region [oa 0 3 (.fieldA 0 (.t 1)),oa 1 4 (.loadB 0 none (.t 3))]) (.block 0 (.seq [5,4,1] (.seq [5,4,1] (.region [oa 0 6 (.bin .eql (.t 4) (.c (.int .i64 0))),om 1 5 6]) (.cond (.t 5) .skip (.seq [5,4,1] (.region [oa 0 7 (.bin .eql (.t 4) (.c (.int .i64 1))),om 1 5 7]) (.cond (.t 5) .skip (.region [oa 0 8 (.bin .eql (.t 4) (.c (.int .i64 10))),om 1 5 8]))))) (.cond (.t 5) (.seq [2] (.region [oa 0 9 (.fieldA 1 (.t 1)),oa 1 10 (.loadB 0 none (.t 9)),oa 2 11 (.bin .eql (.t 10) (.c (.int .i64 0))),om 3 12 11,og 4 13 (.fieldA 2 (.t 1)) 12 true,og 5 14 (.loadB 0 none (.t 13)) 12 true,og 6 15 (.bin .eql (.t 14) (.c (.int .i64 0))) 12 true,oa 7 16 (.pick (.t 12) (.t 15) (.c (.bool false))),om 8 17 16,og 9 18 (.fieldA 3 (.t 1)) 17 true,og 10 19 (.loadB 0 none (.t 18)) 17 true,og 11 20 (.bin .eql (.t 19) (.c (.int .i64 0))) 17 true,oa 12 21 (.pick (.t 17) (.t 20) (.c (.bool false))),om 13 2 21]) .ret) (.seq [22,4,1] (.region [oa 0 23 (.bin .eql (.t 4) (.c (.int .i64 2))),om 1 22 23]) (.cond (.t 22) (.seq [2] (.region [oa 0 24 (.fieldA 3 (.t 1)),oa 1 25 (.loadB 0 none (.t 24)),oa 2 26 (.bin .eql (.t 25) (.c (.int .i64 0))),om 3 27 26,og 4 28 (.fieldA 1 (.t 1)) 27 true,og 5 29 (.loadB 0 none (.t 28)) 27 true,og 6 30 (.bin .eql (.t 29) (.c (.int .i64 0))) 27 true,og 7 31 (.mv (.t 30)) 27 true,og 8 32 (.fieldA 1 (.t 1)) 31 false,og 9 33 (.loadB 0 none (.t 32)) 31 false,⟨10,some 34,.call false Dr.S Dr.P Dr.D [(.t 33)],(some (31,false)),[]⟩,og 11 35 (.pick (.t 31) (.c (.bool true)) (.t 34)) 27 true,oa 12 36 (.pick (.t 27) (.t 35) (.c (.bool false))),om 13 37 36,og 14 38 (.fieldA 2 (.t 1)) 37 true,og 15 39 (.loadB 0 none (.t 38)) 37 true,og 16 40 (.bin .eql (.t 39) (.c (.int .i64 0))) 37 true,og 17 41 (.mv (.t 40)) 37 true,og 18 42 (.fieldA 2 (.t 1)) 41 false,og 19 43 (.loadB 0 none (.t 42)) 41 false,⟨20,some 44,.call false Cw.S Cw.P Cw.D [(.t 43)],(some (41,false)),[]⟩,og 21 45 (.pick (.t 41) (.c (.bool true)) (.t 44)) 37 true,oa 22 46 (.pick (.t 37) (.t 45) (.c (.bool false))),om 23 47 46,og 24 48 (.fieldA 1 (.t 1)) 47 true,og 25 49 (.loadB 0 none (.t 48)) 47 true,og 26 50 (.bin .neq (.t 49) (.c (.int .i64 0))) 47 true,og 27 51 (.mv (.t 50)) 47 true,og 28 52 (.fieldA 2 (.t 1)) 51 false,og 29 53 (.loadB 0 none (.t 52)) 51 false,og 30 54 (.bin .neq (.t 53) (.c (.int .i64 0))) 51 false,og 31 55 (.pick (.t 51) (.c (.bool true)) (.t 54)) 47 true,oa 32 56 (.pick (.t 47) (.t 55) (.c (.bool false))),om 33 2 56]) .ret) (.seq [57,4,1] (.seq [57,4,1] (.region [oa 0 58 (.bin .eql (.t 4) (.c (.int .i64 3))),om 1 57 58]) (.cond (.t 57) .skip (.region [oa 0 59 (.bin .eql (.t 4) (.c (.int .i64 4))),om 1 57 59]))) (.cond (.t 57) (.seq [2] (.region [oa 0 60 (.fieldA 1 (.t 1)),oa 1 61 (.loadB 0 none (.t 60)),oa 2 62 (.bin .eql (.t 61) (.c (.int .i64 0))),om 3 63 62,og 4 64 (.fieldA 2 (.t 1)) 63 true,og 5 65 (.loadB 0 none (.t 64)) 63 true,og 6 66 (.bin .eql (.t 65) (.c (.int .i64 0))) 63 true,oa 7 67 (.pick (.t 63) (.t 66) (.c (.bool false))),om 8 68 67,og 9 69 (.fieldA 3 (.t 1)) 68 true,og 10 70 (.loadB 0 none (.t 69)) 68 true,⟨11,some 71,.call false Dq.S Dq.P Dq.D [(.t 70)],(some (68,true)),[]⟩,oa 12 72 (.pick (.t 68) (.t 71) (.c (.bool false))),om 13 2 72]) .ret) (.seq [73,4,1] (.region [oa 0 74 (.bin .eql (.t 4) (.c (.int .i64 5))),om 1 73 74]) (.cond (.t 73) (.seq [2] (.region [oa 0 75 (.fieldA 1 (.t 1)),oa 1 76 (.loadB 0 none (.t 75)),oa 2 77 (.bin .eql (.t 76) (.c (.int .i64 0))),om 3 78 77,og 4 79 (.fieldA 2 (.t 1)) 78 true,og 5 80 (.loadB 0 none (.t 79)) 78 true,og 6 81 (.bin .eql (.t 80) (.c (.int .i64 0))) 78 true,oa 7 82 (.pick (.t 78) (.t 81) (.c (.bool false))),om 8 83 82,og 9 84 (.fieldA 3 (.t 1)) 83 true,og 10 85 (.loadB 0 none (.t 84)) 83 true,og 11 86 (.bin .geq (.t 85) (.c (.int .i64 0))) 83 true,oa 12 87 (.pick (.t 83) (.t 86) (.c (.bool false))),om 13 88 87,og 14 89 (.fieldA 3 (.t 1)) 88 true,og 15 90 (.loadB 0 none (.t 89)) 88 true,og 16 91 (.bin .leq (.t 90) (.c (.int .i64 3))) 88 true,oa 17 92 (.pick (.t 88) (.t 91) (.c (.bool false))),om 18 2 92]) .ret) (.seq [93,4,1] (.region [oa 0 94 (.bin .eql (.t 4) (.c (.int .i64 9))),om 1 93 94]) (.cond (.t 93) (.seq [2] (.region [oa 0 95 (.fieldA 1 (.t 1)),oa 1 96 (.loadB 0 none (.t 95)),oa 2 97 (.bin .eql (.t 96) (.c (.int .i64 0))),om 3 98 97,og 4 99 (.fieldA 2 (.t 1)) 98 true,og 5 100 (.loadB 0 none (.t 99)) 98 true,og 6 101 (.bin .eql (.t 100) (.c (.int .i64 0))) 98 true,oa 7 102 (.pick (.t 98) (.t 101) (.c (.bool false))),om 8 103 102,og 9 104 (.fieldA 3 (.t 1)) 103 true,og 10 105 (.loadB 0 none (.t 104)) 103 true,og 11 106 (.bin .geq (.t 105) (.c (.int .i64 0))) 103 true,oa 12 107 (.pick (.t 103) (.t 106) (.c (.bool false))),om 13 108 107,og 14 109 (.fieldA 3 (.t 1)) 108 true,og 15 110 (.loadB 0 none (.t 109)) 108 true,og 16 111 (.bin .leq (.t 110) (.c (.int .i64 3))) 108 true,oa 17 112 (.pick (.t 108) (.t 111) (.c (.bool false))),om 18 2 112]) .ret) (.seq [113,4,1] (.region [oa 0 114 (.bin .eql (.t 4) (.c (.int .i64 6))),om 1 113 114]) (.cond (.t 113) (.seq [2] (.region [oa 0 115 (.fieldA 1 (.t 1)),oa 1 116 (.loadB 0 none (.t 115)),oF 2 117 Dr [(.t 116)],om 3 118 117,og 4 119 (.fieldA 2 (.t 1)) 118 true,og 5 120 (.loadB 0 none (.t 119)) 118 true,⟨6,some 121,.call false Cw.S Cw.P Cw.D [(.t 120)],(some (118,true)),[]⟩,oa 7 122 (.pick (.t 118) (.t 121) (.c (.bool false))),om 8 123 122,og 9 124 (.fieldA 3 (.t 1)) 123 true,og 10 125 (.loadB 0 none (.t 124)) 123 true,og 11 126 (.bin .eql (.t 125) (.c (.int .i64 0))) 123 true,oa 12 127 (.pick (.t 123) (.t 126) (.c (.bool false))),om 13 2 127]) .ret) (.seq [128,4,1] (.region [oa 0 129 (.bin .eql (.t 4) (.c (.int .i64 7))),om 1 128 129]) (.cond (.t 128) (.seq [2] (.region [oa 0 130 (.fieldA 1 (.t 1)),oa 1 131 (.loadB 0 none (.t 130)),oF 2 132 Dr [(.t 131)],om 3 133 132,og 4 134 (.fieldA 2 (.t 1)) 133 true,og 5 135 (.loadB 0 none (.t 134)) 133 true,og 6 136 (.bin .eql (.t 135) (.c (.int .i64 0))) 133 true,oa 7 137 (.pick (.t 133) (.t 136) (.c (.bool false))),om 8 138 137,og 9 139 (.fieldA 3 (.t 1)) 138 true,og 10 140 (.loadB 0 none (.t 139)) 138 true,⟨11,some 141,.call false Dq.S Dq.P Dq.D [(.t 140)],(some (138,true)),[]⟩,oa 12 142 (.pick (.t 138) (.t 141) (.c (.bool false))),om 13 2 142]) .ret) (.seq [143,1] (.region [oa 0 144 (.bin .eql (.t 4) (.c (.int .i64 8))),om 1 143 144]) (.cond (.t 143) (.seq [2] (.region [oa 0 145 (.fieldA 1 (.t 1)),oa 1 146 (.loadB 0 none (.t 145)),oa 2 147 (.bin .eql (.t 146) (.c (.int .i64 0))),om 3 148 147,og 4 149 (.fieldA 2 (.t 1)) 148 true,og 5 150 (.loadB 0 none (.t 149)) 148 true,⟨6,some 151,.call false Cw.S Cw.P Cw.D [(.t 150)],(some (148,true)),[]⟩,oa 7 152 (.pick (.t 148) (.t 151) (.c (.bool false))),om 8 153 152,og 9 154 (.fieldA 3 (.t 1)) 153 true,og 10 155 (.loadB 0 none (.t 154)) 153 true,og 11 156 (.bin .eql (.t 155) (.c (.int .i64 0))) 153 true,oa 12 157 (.pick (.t 153) (.t 156) (.c (.bool false))),om 13 2 157]) .ret) .skip)))))))))))))))))) (.seq [2] (.region [oa 0 2 (.mv (.c (.bool false)))]) .ret)))
def E4:Fn:=⟨⟨1,158,1,true,[.tmp 2],Zp⟩,[.agg [(.frz,.int .i64),(.frz,.int .i64),(.frz,.int .i64),(.frz,.int .i64)]],.one (.one .own (.bool))⟩
theorem Tm:E4.A:=Bm ⟨P7,Qa,TC,P7,Qa,P7,TC,Qa,trivial⟩
def Fb:Int×Int×Int×Int→Bool:=E4.V
def JG:Int×Int×Int×Int→Prop:=E4.O
theorem Tn:E4.B:=Bq ⟨Qb,P9,TA,Qb,P9,Qb,TA,P9,trivial⟩ (by kernel_rfl) (fun x=>by kernel_rfl)
def Zv:DCode:=(.seq [3,2] (.region [oa 0 2 (.boxB 0 4 (.t 0)),oa 1 3 (.boxB 1 4 (.t 1)),oa 2 4 (.mv (.c (.bool false)))]) (.seq [3,2] (.seq [9,3,2] (.region [oa 0 5 (.fieldA 0 (.t 2)),oa 1 6 (.loadB 0 none (.t 5)),oa 2 7 (.fieldA 0 (.t 3)),oa 3 8 (.loadB 1 none (.t 7)),oa 4 9 (.bin .neq (.t 6) (.t 8))]) (.cond (.t 9) (.seq [4] (.region [oa 0 4 (.mv (.c (.bool false)))]) .ret) .skip)) (.seq [3,2] (.seq [14,3,2] (.region [oa 0 10 (.fieldA 1 (.t 2)),oa 1 11 (.loadB 0 none (.t 10)),oa 2 12 (.fieldA 1 (.t 3)),oa 3 13 (.loadB 1 none (.t 12)),oa 4 14 (.bin .neq (.t 11) (.t 13))]) (.cond (.t 14) (.seq [4] (.region [oa 0 4 (.mv (.c (.bool false)))]) .ret) .skip)) (.seq [3,2] (.seq [19,3,2] (.region [oa 0 15 (.fieldA 2 (.t 2)),oa 1 16 (.loadB 0 none (.t 15)),oa 2 17 (.fieldA 2 (.t 3)),oa 3 18 (.loadB 1 none (.t 17)),oa 4 19 (.bin .neq (.t 16) (.t 18))]) (.cond (.t 19) (.seq [4] (.region [oa 0 4 (.mv (.c (.bool false)))]) .ret) .skip)) (.seq [] (.seq [24] (.region [oa 0 20 (.fieldA 3 (.t 2)),oa 1 21 (.loadB 0 none (.t 20)),oa 2 22 (.fieldA 3 (.t 3)),oa 3 23 (.loadB 1 none (.t 22)),oa 4 24 (.bin .neq (.t 21) (.t 23))]) (.cond (.t 24) (.seq [4] (.region [oa 0 4 (.mv (.c (.bool false)))]) .ret) .skip)) (.seq [4] (.region [oa 0 4 (.mv (.c (.bool true)))]) .ret))))))
def GB:Fn:=⟨⟨2,25,2,true,[.tmp 4],Zv⟩,[.agg [(.frz,.int .i64),(.frz,.int .i64),(.frz,.int .i64),(.frz,.int .i64)],.agg [(.frz,.int .i64),(.frz,.int .i64),(.frz,.int .i64),(.frz,.int .i64)]],.one (.one .own (.bool))⟩
theorem al:GB.A:=Bm trivial
def Gy:(Int×Int×Int×Int)×(Int×Int×Int×Int)→Bool:=GB.V
def Lh:(Int×Int×Int×Int)×(Int×Int×Int×Int)→Prop:=GB.O
theorem ah:GB.B:=Bq trivial (by kernel_rfl) (fun x=>by kernel_rfl)
end
section
set_option maxRecDepth 100000
theorem JV (x):BM x=(bAnd (iGe x.1 x.2.1) (iLe x.1 x.2.2)):=(BI.v x).trans (by kernel_rfl)
theorem Lq (x):EA x=True:=(BI.o x).trans (by kernel_rfl)
theorem To (x):D4 x=(bSel (bOr (iEq x.1 0) (bOr (iEq x.1 1) (iEq x.1 10))) (bAnd (iEq x.2.1 0) (bAnd (iEq x.2.2.1 0) (iEq x.2.2.2 0))) (bSel (iEq x.1 2) (bAnd (iEq x.2.2.2 0) (bSel (BM (x.2.1,1,56)) (bOr (BM (x.2.2.1,1,15)) (iEq x.2.2.1 0)) (bAnd (iEq x.2.1 0) (bAnd (BM (x.2.2.1,1,15)) (bOr (BM (x.2.2.1,1,15)) (iEq x.2.2.1 0)))))) (bSel (bOr (iEq x.1 3) (iEq x.1 4)) (bAnd (BM (x.2.2.2,1,3)) (bAnd (iEq x.2.1 0) (iEq x.2.2.1 0))) (bSel (bOr (iEq x.1 5) (iEq x.1 9)) (bAnd (BM (x.2.2.2,0,3)) (bAnd (iEq x.2.1 0) (iEq x.2.2.1 0))) (bSel (iEq x.1 6) (bAnd (BM (x.2.1,1,56)) (bAnd (BM (x.2.2.1,1,15)) (iEq x.2.2.2 0))) (bSel (iEq x.1 7) (bAnd (BM (x.2.1,1,56)) (bAnd (BM (x.2.2.2,1,3)) (iEq x.2.2.1 0))) (bAnd (iEq x.1 8) (bAnd (BM (x.2.2.1,1,15)) (bAnd (iEq x.2.1 0) (iEq x.2.2.2 0)))))))))):=(Fa.v x).trans (by kernel_rfl)
theorem Z0 (x):JI x=((EA (x.2.1,1,56))∧((EA (x.2.2.1,1,15))∧((EA (x.2.2.2,1,3))∧(((bOr (iEq x.1 0) (bOr (iEq x.1 1) (iEq x.1 10)))=true→True)∧((bOr (iEq x.1 0) (bOr (iEq x.1 1) (iEq x.1 10)))=false→(((iEq x.1 2)=true→True)∧((iEq x.1 2)=false→(((bOr (iEq x.1 3) (iEq x.1 4))=true→True)∧((bOr (iEq x.1 3) (iEq x.1 4))=false→(((bOr (iEq x.1 5) (iEq x.1 9))=true→(EA (x.2.2.2,0,3)))∧((bOr (iEq x.1 5) (iEq x.1 9))=false→True))))))))))):=(Fa.o x).trans (by kernel_rfl)
theorem aR (x):Fe x=(bAnd (iGe x 1) (iLe x 56)):=(Dr.v x).trans (by kernel_rfl)
theorem bg (x):JP x=True:=(Dr.o x).trans (by kernel_rfl)
theorem bd (x):JU x=(bAnd (iGe x 1) (iLe x 15)):=(Cw.v x).trans (by kernel_rfl)
theorem bf (x):Iu x=True:=(Cw.o x).trans (by kernel_rfl)
theorem ax (x):NH x=(bAnd (iGe x 1) (iLe x 3)):=(Dq.v x).trans (by kernel_rfl)
theorem aL (x):Lj x=True:=(Dq.o x).trans (by kernel_rfl)
theorem ZR (x):Fb x=(bSel (bOr (iEq x.1 0) (bOr (iEq x.1 1) (iEq x.1 10))) (bAnd (iEq x.2.1 0) (bAnd (iEq x.2.2.1 0) (iEq x.2.2.2 0))) (bSel (iEq x.1 2) (bAnd (iEq x.2.2.2 0) (bSel (iEq x.2.1 0) (bSel (iEq x.2.2.1 0) (bOr (iNe x.2.1 0) (iNe x.2.2.1 0)) (bAnd (JU x.2.2.1) (bOr (iNe x.2.1 0) (iNe x.2.2.1 0)))) (bAnd (Fe x.2.1) (bSel (iEq x.2.2.1 0) (bOr (iNe x.2.1 0) (iNe x.2.2.1 0)) (bAnd (JU x.2.2.1) (bOr (iNe x.2.1 0) (iNe x.2.2.1 0))))))) (bSel (bOr (iEq x.1 3) (iEq x.1 4)) (bAnd (iEq x.2.1 0) (bAnd (iEq x.2.2.1 0) (NH x.2.2.2))) (bSel (iEq x.1 5) (bAnd (iEq x.2.1 0) (bAnd (iEq x.2.2.1 0) (bAnd (iGe x.2.2.2 0) (iLe x.2.2.2 3)))) (bSel (iEq x.1 9) (bAnd (iEq x.2.1 0) (bAnd (iEq x.2.2.1 0) (bAnd (iGe x.2.2.2 0) (iLe x.2.2.2 3)))) (bSel (iEq x.1 6) (bAnd (Fe x.2.1) (bAnd (JU x.2.2.1) (iEq x.2.2.2 0))) (bSel (iEq x.1 7) (bAnd (Fe x.2.1) (bAnd (iEq x.2.2.1 0) (NH x.2.2.2))) (bAnd (iEq x.1 8) (bAnd (iEq x.2.1 0) (bAnd (JU x.2.2.1) (iEq x.2.2.2 0))))))))))):=(E4.v x).trans (by kernel_rfl)
theorem Z9 (x):JG x=(((bOr (iEq x.1 0) (bOr (iEq x.1 1) (iEq x.1 10)))=true→True)∧((bOr (iEq x.1 0) (bOr (iEq x.1 1) (iEq x.1 10)))=false→(((iEq x.1 2)=true→(((iEq x.2.2.2 0)=true→(((iEq x.2.1 0)=true→(((iEq x.2.2.1 0)=true→True)∧((iEq x.2.2.1 0)=false→(Iu x.2.2.1))))∧((iEq x.2.1 0)=false→((JP x.2.1)∧(((Fe x.2.1)=true→(((iEq x.2.2.1 0)=true→True)∧((iEq x.2.2.1 0)=false→(Iu x.2.2.1))))∧((Fe x.2.1)=false→True))))))∧((iEq x.2.2.2 0)=false→True)))∧((iEq x.1 2)=false→(((bOr (iEq x.1 3) (iEq x.1 4))=true→(((iEq x.2.1 0)=true→(((iEq x.2.2.1 0)=true→(Lj x.2.2.2))∧((iEq x.2.2.1 0)=false→True)))∧((iEq x.2.1 0)=false→True)))∧((bOr (iEq x.1 3) (iEq x.1 4))=false→(((iEq x.1 5)=true→True)∧((iEq x.1 5)=false→(((iEq x.1 9)=true→True)∧((iEq x.1 9)=false→(((iEq x.1 6)=true→((JP x.2.1)∧(((Fe x.2.1)=true→(Iu x.2.2.1))∧((Fe x.2.1)=false→True))))∧((iEq x.1 6)=false→(((iEq x.1 7)=true→((JP x.2.1)∧(((Fe x.2.1)=true→(((iEq x.2.2.1 0)=true→(Lj x.2.2.2))∧((iEq x.2.2.1 0)=false→True)))∧((Fe x.2.1)=false→True))))∧((iEq x.1 7)=false→(((iEq x.1 8)=true→(((iEq x.2.1 0)=true→(Iu x.2.2.1))∧((iEq x.2.1 0)=false→True)))∧((iEq x.1 8)=false→True)))))))))))))))):=(E4.o x).trans (by kernel_rfl)
theorem ak (x):Gy x=(bAnd (bNot (iNe x.1.1 x.2.1)) (bAnd (bNot (iNe x.1.2.1 x.2.2.1)) (bAnd (bNot (iNe x.1.2.2.1 x.2.2.2.1)) (bNot (iNe x.1.2.2.2 x.2.2.2.2))))):=(GB.v x).trans (by kernel_rfl)
theorem aj (x):Lh x=True:=(GB.o x).trans (by kernel_rfl)
attribute [irreducible] BM EA D4 JI Fe JP JU Iu NH Lj Fb JG Gy Lh
end
section
set_option maxRecDepth 8000
def ZA:DCode:=(.seq [2,1] (.region [oa 0 1 (.boxB 0 4 (.t 0)),oa 1 2 (.allocB 1 [(.int .i64 0),(.int .i64 0),(.int .i64 0),(.int .i64 0)])]) (.seq [3,2,1] (.region [oa 0 3 (.allocB 2 [(.int .i64 0),(.int .i64 0),(.int .i64 0),(.int .i64 0)])]) (.seq [3,2,1] (.region [oa 0 4 (.fieldA 0 (.t 1)),ob 1 5 (.loadB 0 none (.t 4)),oa 2 6 (.fieldA 0 (.t 3)),os 3 (.storeB 2 1 (.t 6) (.t 5))]) (.seq [3,2,1] (.region [oa 0 7 (.fieldA 1 (.t 1)),ob 1 8 (.loadB 0 none (.t 7)),oa 2 9 (.fieldA 1 (.t 3)),os 3 (.storeB 2 1 (.t 9) (.t 8))]) (.seq [3,2,1] (.region [oa 0 10 (.fieldA 2 (.t 1)),ob 1 11 (.loadB 0 none (.t 10)),oa 2 12 (.fieldA 2 (.t 3)),os 3 (.storeB 2 1 (.t 12) (.t 11))]) (.seq [3,2] (.region [oa 0 13 (.fieldA 3 (.t 1)),ob 1 14 (.loadB 0 none (.t 13)),oa 2 15 (.fieldA 3 (.t 3)),os 3 (.storeB 2 1 (.t 15) (.t 14))]) (.seq [2] (.region [ob 0 16 (.loadB 2 (some 4) (.t 3)),os 1 (.storeB 1 4 (.t 2) (.t 16))]) .ret)))))))
def GA:Fn:=⟨⟨1,17,3,true,[.cell 2 (some 4)],ZA⟩,[.agg [(.frz,.int .i64),(.frz,.int .i64),(.frz,.int .i64),(.frz,.int .i64)]],.one (.agg [(.own,.int .i64),(.own,.int .i64),(.own,.int .i64),(.own,.int .i64)])⟩
theorem Zs:GA.A:=Bm trivial
def Ez:Int×Int×Int×Int→Int×Int×Int×Int:=GA.V
def Lg:Int×Int×Int×Int→Prop:=GA.O
theorem Z8:GA.B:=Bq trivial (by kernel_rfl) (fun x=>by kernel_rfl)
def cC:DCode:=(.seq [1,0] (.region [oi 0 4 0]) (.seq [4] (.region [om 0 5 0,om 1 6 1,oa 2 7 (.bin .shr (.t 5) (.t 6)),oa 3 8 (.bin .and (.t 7) (.c (.int .i64 1))),om 4 4 8]) .ret))
def GH:Fn:=⟨⟨2,9,0,true,[.tmp 4],cC⟩,[.one .frz (.int .i64),.one .frz (.int .i64)],.one (.one .own (.int .i64))⟩
theorem cd:GH.A:=Bm trivial
def Lx:Int×Int→Int:=GH.V
def Qj:Int×Int→Prop:=GH.O
theorem ct:GH.B:=Bq trivial (by kernel_rfl) (fun x=>by kernel_rfl)
end
section
set_option maxRecDepth 100000
theorem ZP (x):Ez x=(x.1,x.2.1,x.2.2.1,x.2.2.2):=(GA.v x).trans (by kernel_rfl)
theorem ZJ (x):Lg x=True:=(GA.o x).trans (by kernel_rfl)
theorem cy (x):Lx x=(iAnd .i64 (iShr .i64 x.1 x.2) 1):=(GH.v x).trans (by kernel_rfl)
theorem cn (x):Qj x=((0:Int)≤x.2):=(GH.o x).trans (by kernel_rfl)
attribute [irreducible] Ez Lg Lx Qj
end
section
set_option maxRecDepth 8000
def Zk:DCode:=(.seq [1,0] (.region [oi 0 4 0]) (.seq [1] (.region [om 0 5 1,on 1 6 0,oa 2 7 (.len (.t 6)),oa 3 8 (.bin .sub (.t 5) (.t 7)),om 4 1 8]) (.seq [1] (.seq [10,1] (.region [om 0 9 1,oa 1 10 (.bin .lss (.t 9) (.c (.int .i64 0)))]) (.cond (.t 10) (.seq [4] (.region [oi 0 4 (-1)]) .ret) .skip)) (.seq [4] (.region [om 0 11 1,om 1 4 11]) .ret))))
def Gr:Fn:=⟨⟨2,12,0,true,[.tmp 4],Zk⟩,[.one .frz (.sl B7),.one .frz (.int .i64)],.one (.one .own (.int .i64))⟩
theorem Zg:Gr.A:=Bm trivial
def CG:(List (Int×Int×Int×Int))×Int→Int:=Gr.V
def Lb:(List (Int×Int×Int×Int))×Int→Prop:=Gr.O
theorem Zb:Gr.B:=Bq trivial (by kernel_rfl) (fun x=>by kernel_rfl)
def YA:DCode:=(.seq [1,0] (.region [oi 0 4 0]) (.seq [1,0] (.region [om 0 6 1,on 1 7 0,oa 2 8 (.len (.t 7)),oa 3 9 (.bin .sub (.t 6) (.t 8)),om 4 1 9]) (.seq [1,0] (.seq [11,1,0] (.region [om 0 10 1,oa 1 11 (.bin .lss (.t 10) (.c (.int .i64 0)))]) (.cond (.t 11) (.seq [4] (.region [oi 0 4 (-1)]) .ret) .skip)) (.seq [1] (.seq [5,1,0] (.region [oi 0 5 0]) (.block 0 (.loop [0,1,5] 1 (.seq [5,1,0] (.seq [15,5,1,0] (.region [om 0 12 5,on 1 13 0,oa 2 14 (.len (.t 13)),oa 3 15 (.bin .lss (.t 12) (.t 14))]) (.cond (.t 15) .skip (.exit 0))) (.seq [5,1,0] (.block 1 (.seq [5,1,0] (.region [on 0 18 0,om 1 19 5,oa 2 20 (.indexA 1 (.t 18) (.t 19)),oa 3 21 (.loadH none (.t 20)),om 4 22 1,oF 5 23 Gr [(.t 21),(.t 22)],om 6 1 23]) (.seq [25,5,1,0] (.region [om 0 24 1,oa 1 25 (.bin .lss (.t 24) (.c (.int .i64 0)))]) (.cond (.t 25) (.seq [4] (.region [oi 0 4 (-1)]) .ret) .skip)))) (.region [om 0 16 5,oa 1 17 (.bin .add (.t 16) (.c (.int .i64 1))),om 2 5 17])))))) (.seq [4] (.region [om 0 26 1,om 1 4 26]) .ret)))))
def Gq:Fn:=⟨⟨2,27,0,true,[.tmp 4],YA⟩,[.one .frz (.sl (.one (.sl B7))),.one .frz (.int .i64)],.one (.one .own (.int .i64))⟩
theorem Yx:Gq.A:=Bm ⟨Zg,trivial⟩
def Ha:(List (List (Int×Int×Int×Int)))×Int→Int:=Gq.V
def Ng:(List (List (Int×Int×Int×Int)))×Int→Prop:=Gq.O
theorem YB:Gq.B:=Bq ⟨Zb,trivial⟩ (by kernel_rfl) (fun x=>by kernel_rfl)
def Zq:DCode:=(.seq [2,1] (.region [oa 0 2 (.boxB 0 2 (.t 0)),oi 1 4 0]) (.seq [1] (.region [oa 0 5 (.fieldA 1 (.t 2)),oa 1 6 (.loadB 0 none (.t 5)),om 2 7 1,oF 3 8 Gq [(.t 6),(.t 7)],om 4 1 8]) (.seq [1] (.seq [10,1] (.region [om 0 9 1,oa 1 10 (.bin .lss (.t 9) (.c (.int .i64 0)))]) (.cond (.t 10) (.seq [4] (.region [oi 0 4 (-1)]) .ret) .skip)) (.seq [4] (.region [om 0 11 1,om 1 4 11]) .ret))))
def Gx:Fn:=⟨⟨2,12,1,true,[.tmp 4],Zq⟩,[.agg [(.frz,.int .i64),(.frz,.sl (.one (.sl B7)))],.one .frz (.int .i64)],.one (.one .own (.int .i64))⟩
theorem Zo:Gx.A:=Bm ⟨Yx,trivial⟩
def FL:(Int×(List (List (Int×Int×Int×Int))))×Int→Int:=Gx.V
def Nu:(Int×(List (List (Int×Int×Int×Int))))×Int→Prop:=Gx.O
theorem Z4:Gx.B:=Bq ⟨YB,trivial⟩ (by kernel_rfl) (fun x=>by kernel_rfl)
def Y8:DCode:=(.seq [0] (.region [oa 0 2 (.mv (.c .nils))]) (.seq [3,0] (.region [on 0 5 0,oa 1 6 (.len (.t 5)),⟨2,some 7,.a false (.mkSlice 4 [(.int .i64 0),(.int .i64 0),(.int .i64 0),(.int .i64 0)] (.t 6)) (some B7),none,[]⟩,om 3 3 7]) (.seq [3] (.seq [4,3,0] (.region [oi 0 4 0]) (.block 0 (.loop [0,3,4] 1 (.seq [4,3,0] (.seq [11,4,3,0] (.region [om 0 8 4,on 1 9 0,oa 2 10 (.len (.t 9)),oa 3 11 (.bin .lss (.t 8) (.t 10))]) (.cond (.t 11) .skip (.exit 0))) (.seq [4,3,0] (.block 1 (.region [on 0 14 3,om 1 15 4,on 2 16 0,om 3 17 4,oa 4 18 (.indexA 4 (.t 16) (.t 17)),oa 5 19 (.loadH (some 4) (.t 18)),oF 6 20 GA [(.t 19)],oa 7 21 (.indexA 4 (.t 14) (.t 15)),os 8 (.storeH 4 (.t 21) (.t 20))])) (.region [om 0 12 4,oa 1 13 (.bin .add (.t 12) (.c (.int .i64 1))),om 2 4 13])))))) (.seq [2] (.region [om 0 22 3,om 1 2 22]) .ret))))
def Gu:Fn:=⟨⟨1,23,0,false,[.tmp 2],Y8⟩,[.one .frz (.sl B7)],.one (.one .own (.sl B7))⟩
theorem Zf:Gu.A:=Bm ⟨Zs,trivial⟩
def JJ:List (Int×Int×Int×Int)→List (Int×Int×Int×Int):=Gu.V
def La:List (Int×Int×Int×Int)→Prop:=Gu.O
theorem Ze:Gu.B:=Bq ⟨Z8,trivial⟩ (by kernel_rfl) (fun x=>by kernel_rfl)
def YF:DCode:=(.seq [0] (.region [oa 0 2 (.mv (.c .nils))]) (.seq [3,0] (.region [on 0 5 0,oa 1 6 (.len (.t 5)),⟨2,some 7,.a false (.mkSlice 1 [.nils] (.t 6)) (some (.one (.sl B7))),none,[]⟩,om 3 3 7]) (.seq [3] (.seq [4,3,0] (.region [oi 0 4 0]) (.block 0 (.loop [0,3,4] 1 (.seq [4,3,0] (.seq [11,4,3,0] (.region [om 0 8 4,on 1 9 0,oa 2 10 (.len (.t 9)),oa 3 11 (.bin .lss (.t 8) (.t 10))]) (.cond (.t 11) .skip (.exit 0))) (.seq [4,3,0] (.block 1 (.region [on 0 14 3,om 1 15 4,on 2 16 0,om 3 17 4,oa 4 18 (.indexA 1 (.t 16) (.t 17)),oa 5 19 (.loadH none (.t 18)),oF 6 20 Gu [(.t 19)],oa 7 21 (.indexA 1 (.t 14) (.t 15)),os 8 (.storeH 1 (.t 21) (.t 20))])) (.region [om 0 12 4,oa 1 13 (.bin .add (.t 12) (.c (.int .i64 1))),om 2 4 13])))))) (.seq [2] (.region [om 0 22 3,om 1 2 22]) .ret))))
def Gn:Fn:=⟨⟨1,23,0,false,[.tmp 2],YF⟩,[.one .frz (.sl (.one (.sl B7)))],.one (.one .own (.sl (.one (.sl B7))))⟩
theorem YN:Gn.A:=Bm ⟨Zf,trivial⟩
def Nn:List (List (Int×Int×Int×Int))→List (List (Int×Int×Int×Int)):=Gn.V
def Nk:List (List (Int×Int×Int×Int))→Prop:=Gn.O
theorem YQ:Gn.B:=Bq ⟨Ze,trivial⟩ (by kernel_rfl) (fun x=>by kernel_rfl)
def au:DCode:=(.seq [2,1] (.region [oa 0 1 (.boxB 0 2 (.t 0)),oa 1 2 (.allocB 1 [(.int .i64 0),.nils])]) (.seq [3,2,1] (.region [oa 0 3 (.allocB 2 [(.int .i64 0),.nils])]) (.seq [3,2,1] (.region [oa 0 4 (.fieldA 0 (.t 1)),ob 1 5 (.loadB 0 none (.t 4)),oa 2 6 (.fieldA 0 (.t 3)),os 3 (.storeB 2 1 (.t 6) (.t 5))]) (.seq [3,2] (.region [oa 0 7 (.fieldA 1 (.t 1)),oa 1 8 (.loadB 0 none (.t 7)),oF 2 9 Gn [(.t 8)],oa 3 10 (.fieldA 1 (.t 3)),os 4 (.storeB 2 1 (.t 10) (.t 9))]) (.seq [2] (.region [ob 0 11 (.loadB 2 (some 2) (.t 3)),os 1 (.storeB 1 2 (.t 2) (.t 11))]) .ret)))))
def D5:Fn:=⟨⟨1,12,3,false,[.cell 2 (some 2)],au⟩,[.agg [(.frz,.int .i64),(.frz,.sl (.one (.sl B7)))]],.one (.agg [(.own,.int .i64),(.own,.sl (.one (.sl B7)))])⟩
theorem P1:D5.A:=Bm ⟨YN,trivial⟩
def Dn:Int×(List (List (Int×Int×Int×Int)))→Int×(List (List (Int×Int×Int×Int))):=D5.V
def JH:Int×(List (List (Int×Int×Int×Int)))→Prop:=D5.O
theorem P2:D5.B:=Bq ⟨YQ,trivial⟩ (by kernel_rfl) (fun x=>by kernel_rfl)
def ZO:DCode:=(.seq [1] (.region [oa 0 1 (.boxB 0 2 (.t 0)),oa 1 2 (.mv (.c (.bool false)))]) (.seq [1] (.seq [3,1] (.region [oi 0 3 0]) (.block 0 (.loop [1,3] 1 (.seq [3,1] (.seq [10,3,1] (.region [om 0 6 3,oa 1 7 (.fieldA 1 (.t 1)),oa 2 8 (.loadB 0 none (.t 7)),oa 3 9 (.len (.t 8)),oa 4 10 (.bin .lss (.t 6) (.t 9))]) (.cond (.t 10) .skip (.exit 0))) (.seq [3,1] (.block 1 (.seq [3,1] (.seq [21,3,1] (.region [oa 0 13 (.fieldA 1 (.t 1)),xA 1 14 (.loadB 0 none (.t 13)) (rg 1),om 2 15 3,xA 3 16 (.indexA 1 (.t 14) (.t 15)) (rg 3),xA 4 17 (.loadH none (.t 16)) (rg 4),xA 5 18 (.len (.t 17)) (rg 5),oa 6 19 (.fieldA 0 (.t 1)),xA 7 20 (.loadB 0 none (.t 19)) [6],xA 8 21 (.bin .neq (.t 18) (.t 20)) (rg 8)]) (.cond (.t 21) (.seq [2] (.region [oa 0 2 (.mv (.c (.bool false)))]) .ret) .skip)) (.seq [4,3,1] (.region [oi 0 4 0]) (.block 2 (.loop [1,3,4] 1 (.seq [4,3,1] (.seq [29,4,3,1] (.region [om 0 22 4,oa 1 23 (.fieldA 1 (.t 1)),oa 2 24 (.loadB 0 none (.t 23)),om 3 25 3,oa 4 26 (.indexA 1 (.t 24) (.t 25)),oa 5 27 (.loadH none (.t 26)),oa 6 28 (.len (.t 27)),oa 7 29 (.bin .lss (.t 22) (.t 28))]) (.cond (.t 29) .skip (.exit 2))) (.seq [4,3,1] (.block 3 (.seq [5,4,3,1] (.region [oa 0 32 (.fieldA 1 (.t 1)),oa 1 33 (.loadB 0 none (.t 32)),om 2 34 3,oa 3 35 (.indexA 1 (.t 33) (.t 34)),oa 4 36 (.loadH none (.t 35)),om 5 37 4,oa 6 38 (.indexA 4 (.t 36) (.t 37)),ob 7 39 (.loadH (some 4) (.t 38)),oa 8 5 (.allocB 1 [(.int .i64 0),(.int .i64 0),(.int .i64 0),(.int .i64 0)]),os 9 (.storeB 1 4 (.t 5) (.t 39))]) (.seq [64,4,3,1] (.region [oa 0 40 (.loadB 1 (some 4) (.t 5)),oF 1 41 Fa [(.t 40)],oa 2 42 (.un .not (.t 41)),om 3 43 42,og 4 44 (.fieldA 0 (.t 5)) 43 false,og 5 45 (.loadB 1 none (.t 44)) 43 false,og 6 46 (.bin .eql (.t 45) (.c (.int .i64 1))) 43 false,og 7 47 (.mv (.t 46)) 43 false,og 8 48 (.mv (.t 3)) 47 true,og 9 49 (.bin .eql (.t 48) (.c (.int .i64 0))) 47 true,og 10 50 (.pick (.t 47) (.t 49) (.c (.bool false))) 43 false,oa 11 51 (.pick (.t 43) (.c (.bool true)) (.t 50)),om 12 52 51,og 13 53 (.fieldA 0 (.t 5)) 52 false,og 14 54 (.loadB 1 none (.t 53)) 52 false,og 15 55 (.bin .neq (.t 54) (.c (.int .i64 9))) 52 false,og 16 56 (.mv (.t 55)) 52 false,og 17 57 (.fieldA 3 (.t 5)) 56 true,og 18 58 (.loadB 1 none (.t 57)) 56 true,og 19 59 (.fieldA 1 (.t 1)) 56 true,og 20 60 (.loadB 0 none (.t 59)) 56 true,og 21 61 (.len (.t 60)) 56 true,og 22 62 (.bin .geq (.t 58) (.t 61)) 56 true,og 23 63 (.pick (.t 56) (.t 62) (.c (.bool false))) 52 false,oa 24 64 (.pick (.t 52) (.c (.bool true)) (.t 63))]) (.cond (.t 64) (.seq [2] (.region [oa 0 2 (.mv (.c (.bool false)))]) .ret) .skip)))) (.region [om 0 30 4,oa 1 31 (.bin .add (.t 30) (.c (.int .i64 1))),om 2 4 31])))))))) (.region [om 0 11 3,oa 1 12 (.bin .add (.t 11) (.c (.int .i64 1))),om 2 3 12])))))) (.seq [2] (.region [oa 0 65 (.fieldA 0 (.t 1)),oa 1 66 (.loadB 0 none (.t 65)),oF 2 67 BI [(.t 66),(.c (.int .i64 1)),(.c (.int .i64 32))],om 3 68 67,og 4 69 (.fieldA 1 (.t 1)) 68 true,og 5 70 (.loadB 0 none (.t 69)) 68 true,og 6 71 (.len (.t 70)) 68 true,⟨7,some 72,.call false BI.S BI.P BI.D [(.t 71),(.c (.int .i64 1)),(.c (.int .i64 4))],(some (68,true)),[]⟩,oa 8 73 (.pick (.t 68) (.t 72) (.c (.bool false))),om 9 2 73]) .ret)))
def Fc:Fn:=⟨⟨1,74,2,true,[.tmp 2],ZO⟩,[.agg [(.frz,.int .i64),(.frz,.sl (.one (.sl B7)))]],.one (.one .own (.bool))⟩
theorem Zr:Fc.A:=Bm ⟨Tp,Hg,Hg,trivial⟩
def JN:Int×(List (List (Int×Int×Int×Int)))→Bool:=Fc.V
def Ns:Int×(List (List (Int×Int×Int×Int)))→Prop:=Fc.O
theorem ZK:Fc.B:=Bq ⟨Tl,Hf,Hf,trivial⟩ (by kernel_rfl) (fun x=>by kernel_rfl)
def ai:DCode:=(.seq [1] (.region [oa 0 1 (.boxB 0 2 (.t 0)),oa 1 2 (.mv (.c (.bool false)))]) (.seq [1] (.seq [26,1] (.region [oa 0 7 (.fieldA 0 (.t 1)),oa 1 8 (.loadB 0 none (.t 7)),oa 2 9 (.bin .lss (.t 8) (.c (.int .i64 1))),om 3 10 9,og 4 11 (.fieldA 0 (.t 1)) 10 false,og 5 12 (.loadB 0 none (.t 11)) 10 false,og 6 13 (.bin .gtr (.t 12) (.c (.int .i64 32))) 10 false,oa 7 14 (.pick (.t 10) (.c (.bool true)) (.t 13)),om 8 15 14,og 9 16 (.fieldA 1 (.t 1)) 15 false,og 10 17 (.loadB 0 none (.t 16)) 15 false,og 11 18 (.len (.t 17)) 15 false,og 12 19 (.bin .lss (.t 18) (.c (.int .i64 1))) 15 false,oa 13 20 (.pick (.t 15) (.c (.bool true)) (.t 19)),om 14 21 20,og 15 22 (.fieldA 1 (.t 1)) 21 false,og 16 23 (.loadB 0 none (.t 22)) 21 false,og 17 24 (.len (.t 23)) 21 false,og 18 25 (.bin .gtr (.t 24) (.c (.int .i64 4))) 21 false,oa 19 26 (.pick (.t 21) (.c (.bool true)) (.t 25))]) (.cond (.t 26) (.seq [2] (.region [oa 0 2 (.mv (.c (.bool false)))]) .ret) .skip)) (.seq [] (.seq [30,29,28,1] (.region [oa 0 27 (.fieldA 1 (.t 1)),oa 1 28 (.loadB 0 none (.t 27)),oa 2 29 (.len (.t 28)),oi 3 30 0]) (.block 0 (.loop [1,28,29,30] 1 (.seq [31,30,29,28,1] (.region [oa 0 31 (.bin .lss (.t 30) (.t 29))]) (.seq [30,29,28,1] (.cond (.t 31) .skip (.exit 0)) (.seq [30,29,28,1] (.block 1 (.seq [30,29,28,4,3,1] (.region [om 0 32 30,oa 1 33 (.indexA 1 (.t 28) (.t 30)),oa 2 34 (.loadH none (.t 33)),om 3 3 32,on 4 4 34]) (.seq [30,29,28,4,3,1] (.seq [39,30,29,28,4,3,1] (.region [on 0 35 4,oa 1 36 (.len (.t 35)),oa 2 37 (.fieldA 0 (.t 1)),oa 3 38 (.loadB 0 none (.t 37)),oa 4 39 (.bin .neq (.t 36) (.t 38))]) (.cond (.t 39) (.seq [2] (.region [oa 0 2 (.mv (.c (.bool false)))]) .ret) .skip)) (.seq [42,41,40,30,29,28,3,1] (.region [on 0 40 4,oa 1 41 (.len (.t 40)),oi 2 42 0]) (.block 2 (.loop [1,3,28,29,30,40,41,42] 1 (.seq [43,42,41,40,30,29,28,3,1] (.region [oa 0 43 (.bin .lss (.t 42) (.t 41))]) (.seq [42,41,40,30,29,28,3,1] (.cond (.t 43) .skip (.exit 2)) (.seq [42,41,40,30,29,28,3,1] (.block 3 (.seq [42,41,40,30,29,28,6,3,1] (.region [oa 0 44 (.indexA 4 (.t 40) (.t 42)),ob 1 45 (.loadH (some 4) (.t 44)),oa 2 6 (.allocB 1 [(.int .i64 0),(.int .i64 0),(.int .i64 0),(.int .i64 0)]),os 3 (.storeB 1 4 (.t 6) (.t 45))]) (.seq [70,42,41,40,30,29,28,3,1] (.region [oa 0 46 (.loadB 1 (some 4) (.t 6)),oF 1 47 E4 [(.t 46)],oa 2 48 (.un .not (.t 47)),om 3 49 48,og 4 50 (.mv (.t 3)) 49 false,og 5 51 (.bin .eql (.t 50) (.c (.int .i64 0))) 49 false,og 6 52 (.mv (.t 51)) 49 false,og 7 53 (.fieldA 0 (.t 6)) 52 true,og 8 54 (.loadB 1 none (.t 53)) 52 true,og 9 55 (.bin .eql (.t 54) (.c (.int .i64 1))) 52 true,og 10 56 (.pick (.t 52) (.t 55) (.c (.bool false))) 49 false,oa 11 57 (.pick (.t 49) (.c (.bool true)) (.t 56)),om 12 58 57,og 13 59 (.fieldA 0 (.t 6)) 58 false,og 14 60 (.loadB 1 none (.t 59)) 58 false,og 15 61 (.bin .neq (.t 60) (.c (.int .i64 9))) 58 false,og 16 62 (.mv (.t 61)) 58 false,og 17 63 (.fieldA 3 (.t 6)) 62 true,og 18 64 (.loadB 1 none (.t 63)) 62 true,og 19 65 (.fieldA 1 (.t 1)) 62 true,og 20 66 (.loadB 0 none (.t 65)) 62 true,og 21 67 (.len (.t 66)) 62 true,og 22 68 (.bin .geq (.t 64) (.t 67)) 62 true,og 23 69 (.pick (.t 62) (.t 68) (.c (.bool false))) 58 false,oa 24 70 (.pick (.t 58) (.c (.bool true)) (.t 69))]) (.cond (.t 70) (.seq [2] (.region [oa 0 2 (.mv (.c (.bool false)))]) .ret) .skip)))) (.region [oa 0 71 (.bin .add (.t 42) (.c (.int .i64 1))),om 1 42 71])))))))))) (.region [oa 0 72 (.bin .add (.t 30) (.c (.int .i64 1))),om 1 30 72]))))))) (.seq [2] (.region [oa 0 2 (.mv (.c (.bool true)))]) .ret))))
def Gz:Fn:=⟨⟨1,73,2,true,[.tmp 2],ai⟩,[.agg [(.frz,.int .i64),(.frz,.sl (.one (.sl B7)))]],.one (.one .own (.bool))⟩
theorem ZU:Gz.A:=Bm ⟨Tm,trivial⟩
def He:Int×(List (List (Int×Int×Int×Int)))→Bool:=Gz.V
def Nv:Int×(List (List (Int×Int×Int×Int)))→Prop:=Gz.O
theorem Zu:Gz.B:=Bq ⟨Tn,trivial⟩ (by kernel_rfl) (fun x=>by kernel_rfl)
def Y3:DCode:=(.seq [1,0] (.region [oa 0 4 (.mv (.c (.bool false)))]) (.seq [1,0] (.seq [10,1,0] (.region [on 0 6 0,oa 1 7 (.len (.t 6)),on 2 8 1,oa 3 9 (.len (.t 8)),oa 4 10 (.bin .neq (.t 7) (.t 9))]) (.cond (.t 10) (.seq [4] (.region [oa 0 4 (.mv (.c (.bool false)))]) .ret) .skip)) (.seq [] (.seq [5,1,0] (.region [oi 0 5 0]) (.block 0 (.loop [0,1,5] 1 (.seq [5,1,0] (.seq [14,5,1,0] (.region [om 0 11 5,on 1 12 0,oa 2 13 (.len (.t 12)),oa 3 14 (.bin .lss (.t 11) (.t 13))]) (.cond (.t 14) .skip (.exit 0))) (.seq [5,1,0] (.block 1 (.seq [26,5,1,0] (.region [on 0 17 0,om 1 18 5,xA 2 19 (.indexA 4 (.t 17) (.t 18)) (rg 2),xA 3 20 (.loadH (some 4) (.t 19)) (rg 3),on 4 21 1,om 5 22 5,xA 6 23 (.indexA 4 (.t 21) (.t 22)) [4,5],xA 7 24 (.loadH (some 4) (.t 23)) [4,5,6],xF 8 25 GB [(.t 20),(.t 24)] (rg 8),xA 9 26 (.un .not (.t 25)) (rg 9)]) (.cond (.t 26) (.seq [4] (.region [oa 0 4 (.mv (.c (.bool false)))]) .ret) .skip))) (.region [om 0 15 5,oa 1 16 (.bin .add (.t 15) (.c (.int .i64 1))),om 2 5 16])))))) (.seq [4] (.region [oa 0 4 (.mv (.c (.bool true)))]) .ret))))
def Gt:Fn:=⟨⟨2,27,0,true,[.tmp 4],Y3⟩,[.one .frz (.sl B7),.one .frz (.sl B7)],.one (.one .own (.bool))⟩
theorem Zd:Gt.A:=Bm ⟨al,trivial⟩
def Gv:(List (Int×Int×Int×Int))×(List (Int×Int×Int×Int))→Bool:=Gt.V
def Ld:(List (Int×Int×Int×Int))×(List (Int×Int×Int×Int))→Prop:=Gt.O
theorem Zi:Gt.B:=Bq ⟨ah,trivial⟩ (by kernel_rfl) (fun x=>by kernel_rfl)
def YM:DCode:=(.seq [1,0] (.region [oa 0 4 (.mv (.c (.bool false)))]) (.seq [1,0] (.seq [10,1,0] (.region [on 0 6 0,oa 1 7 (.len (.t 6)),on 2 8 1,oa 3 9 (.len (.t 8)),oa 4 10 (.bin .neq (.t 7) (.t 9))]) (.cond (.t 10) (.seq [4] (.region [oa 0 4 (.mv (.c (.bool false)))]) .ret) .skip)) (.seq [] (.seq [5,1,0] (.region [oi 0 5 0]) (.block 0 (.loop [0,1,5] 1 (.seq [5,1,0] (.seq [14,5,1,0] (.region [om 0 11 5,on 1 12 0,oa 2 13 (.len (.t 12)),oa 3 14 (.bin .lss (.t 11) (.t 13))]) (.cond (.t 14) .skip (.exit 0))) (.seq [5,1,0] (.block 1 (.seq [26,5,1,0] (.region [on 0 17 0,om 1 18 5,xA 2 19 (.indexA 1 (.t 17) (.t 18)) (rg 2),xA 3 20 (.loadH none (.t 19)) (rg 3),on 4 21 1,om 5 22 5,xA 6 23 (.indexA 1 (.t 21) (.t 22)) [4,5],xA 7 24 (.loadH none (.t 23)) [4,5,6],xF 8 25 Gt [(.t 20),(.t 24)] (rg 8),xA 9 26 (.un .not (.t 25)) (rg 9)]) (.cond (.t 26) (.seq [4] (.region [oa 0 4 (.mv (.c (.bool false)))]) .ret) .skip))) (.region [om 0 15 5,oa 1 16 (.bin .add (.t 15) (.c (.int .i64 1))),om 2 5 16])))))) (.seq [4] (.region [oa 0 4 (.mv (.c (.bool true)))]) .ret))))
def Gp:Fn:=⟨⟨2,27,0,true,[.tmp 4],YM⟩,[.one .frz (.sl (.one (.sl B7))),.one .frz (.sl (.one (.sl B7)))],.one (.one .own (.bool))⟩
theorem YJ:Gp.A:=Bm ⟨Zd,trivial⟩
def Np:(List (List (Int×Int×Int×Int)))×(List (List (Int×Int×Int×Int)))→Bool:=Gp.V
def Nh:(List (List (Int×Int×Int×Int)))×(List (List (Int×Int×Int×Int)))→Prop:=Gp.O
theorem Yz:Gp.B:=Bq ⟨Zi,trivial⟩ (by kernel_rfl) (fun x=>by kernel_rfl)
def ZV:DCode:=(.seq [3,2] (.region [oa 0 2 (.boxB 0 2 (.t 0)),oa 1 3 (.boxB 1 2 (.t 1)),oa 2 4 (.mv (.c (.bool false)))]) (.seq [3,2] (.seq [9,3,2] (.region [oa 0 5 (.fieldA 0 (.t 2)),oa 1 6 (.loadB 0 none (.t 5)),oa 2 7 (.fieldA 0 (.t 3)),oa 3 8 (.loadB 1 none (.t 7)),oa 4 9 (.bin .neq (.t 6) (.t 8))]) (.cond (.t 9) (.seq [4] (.region [oa 0 4 (.mv (.c (.bool false)))]) .ret) .skip)) (.seq [] (.seq [15] (.region [oa 0 10 (.fieldA 1 (.t 2)),oa 1 11 (.loadB 0 none (.t 10)),oa 2 12 (.fieldA 1 (.t 3)),oa 3 13 (.loadB 1 none (.t 12)),oF 4 14 Gp [(.t 11),(.t 13)],oa 5 15 (.un .not (.t 14))]) (.cond (.t 15) (.seq [4] (.region [oa 0 4 (.mv (.c (.bool false)))]) .ret) .skip)) (.seq [4] (.region [oa 0 4 (.mv (.c (.bool true)))]) .ret))))
def Gw:Fn:=⟨⟨2,16,2,true,[.tmp 4],ZV⟩,[.agg [(.frz,.int .i64),(.frz,.sl (.one (.sl B7)))],.agg [(.frz,.int .i64),(.frz,.sl (.one (.sl B7)))]],.one (.one .own (.bool))⟩
theorem ZN:Gw.A:=Bm ⟨YJ,trivial⟩
def NC:(Int×(List (List (Int×Int×Int×Int))))×(Int×(List (List (Int×Int×Int×Int))))→Bool:=Gw.V
def Nq:(Int×(List (List (Int×Int×Int×Int))))×(Int×(List (List (Int×Int×Int×Int))))→Prop:=Gw.O
theorem ZF:Gw.B:=Bq ⟨Yz,trivial⟩ (by kernel_rfl) (fun x=>by kernel_rfl)
end
section
set_option maxRecDepth 100000
theorem Zc (x):CG x=(bSel (iLt (iSub .i64 x.2 (lLen x.1)) 0) (-1) (iSub .i64 x.2 (lLen x.1))):=(Gr.v x).trans (by kernel_rfl)
theorem YV (x):Lb x=True:=(Gr.o x).trans (by kernel_rfl)
theorem YP (x):Ha x=(bSel (iLt (iSub .i64 x.2 (lLen x.1)) 0) (-1) (bSel (iLt (Ar (fun(x0:(Int×Int))=>(bAnd (iLt x0.2 (lLen x.1)) (bNot (iLt (CG ((lGet x.1 (iNat x0.2) []),x0.1)) 0)))) (fun(x0:(Int×Int))=>((CG ((lGet x.1 (iNat x0.2) []),x0.1)),(iAdd .i64 x0.2 1))) ((iSub .i64 x.2 (lLen x.1)),0)).2 (lLen x.1)) (-1) (Ar (fun(x0:(Int×Int))=>(bAnd (iLt x0.2 (lLen x.1)) (bNot (iLt (CG ((lGet x.1 (iNat x0.2) []),x0.1)) 0)))) (fun(x0:(Int×Int))=>((CG ((lGet x.1 (iNat x0.2) []),x0.1)),(iAdd .i64 x0.2 1))) ((iSub .i64 x.2 (lLen x.1)),0)).1)):=(Gq.v x).trans (by kernel_rfl)
theorem YR (x):Ng x=(((iLt (iSub .i64 x.2 (lLen x.1)) 0)=true→True)∧((iLt (iSub .i64 x.2 (lLen x.1)) 0)=false→(LoopOk (fun(x0:(Int×Int))=>(bAnd (iLt x0.2 (lLen x.1)) (bNot (iLt (CG ((lGet x.1 (iNat x0.2) []),x0.1)) 0)))) (fun(x0:(Int×Int))=>((CG ((lGet x.1 (iNat x0.2) []),x0.1)),(iAdd .i64 x0.2 1))) (fun(x0:(Int×Int))=>(((iLt x0.2 (lLen x.1))=true→((((0:Int)≤x0.2)∧(x0.2<(((List.length x.1):Int))))∧(((iNat x0.2)<(List.length x.1))∧(Lb ((lGet x.1 (iNat x0.2) []),x0.1)))))∧((iLt x0.2 (lLen x.1))=false→True))) ((iSub .i64 x.2 (lLen x.1)),0)))):=(Gq.o x).trans (by kernel_rfl)
theorem ZY (x):FL x=(bSel (iLt (Ha (x.1.2,x.2)) 0) (-1) (Ha (x.1.2,x.2))):=(Gx.v x).trans (by kernel_rfl)
theorem ZX (x):Nu x=(Ng (x.1.2,x.2)):=(Gx.o x).trans (by kernel_rfl)
theorem Zl (x):JJ x=(Ar (fun(x0:((List (Int×(Int×(Int×Int))))×Int))=>(iLt x0.2 (lLen x))) (fun(x0:((List (Int×(Int×(Int×Int))))×Int))=>((lSet x0.1 (iNat x0.2) ((Ez ((lGet x (iNat x0.2) (0,0,0,0)).1,(lGet x (iNat x0.2) (0,0,0,0)).2.1,(lGet x (iNat x0.2) (0,0,0,0)).2.2.1,(lGet x (iNat x0.2) (0,0,0,0)).2.2.2)).1,(Ez ((lGet x (iNat x0.2) (0,0,0,0)).1,(lGet x (iNat x0.2) (0,0,0,0)).2.1,(lGet x (iNat x0.2) (0,0,0,0)).2.2.1,(lGet x (iNat x0.2) (0,0,0,0)).2.2.2)).2.1,(Ez ((lGet x (iNat x0.2) (0,0,0,0)).1,(lGet x (iNat x0.2) (0,0,0,0)).2.1,(lGet x (iNat x0.2) (0,0,0,0)).2.2.1,(lGet x (iNat x0.2) (0,0,0,0)).2.2.2)).2.2.1,(Ez ((lGet x (iNat x0.2) (0,0,0,0)).1,(lGet x (iNat x0.2) (0,0,0,0)).2.1,(lGet x (iNat x0.2) (0,0,0,0)).2.2.1,(lGet x (iNat x0.2) (0,0,0,0)).2.2.2)).2.2.2)),(iAdd .i64 x0.2 1))) ((lRep (lLen x) (0,0,0,0)),0)).1:=(Gu.v x).trans (by kernel_rfl)
theorem YY (x):La x=((((0:Int)≤(lLen x))∧(AY ((Int.toNat (lLen x))*4)))∧(LoopOk (fun(x0:((List (Int×(Int×(Int×Int))))×Int))=>(iLt x0.2 (lLen x))) (fun(x0:((List (Int×(Int×(Int×Int))))×Int))=>((lSet x0.1 (iNat x0.2) ((Ez ((lGet x (iNat x0.2) (0,0,0,0)).1,(lGet x (iNat x0.2) (0,0,0,0)).2.1,(lGet x (iNat x0.2) (0,0,0,0)).2.2.1,(lGet x (iNat x0.2) (0,0,0,0)).2.2.2)).1,(Ez ((lGet x (iNat x0.2) (0,0,0,0)).1,(lGet x (iNat x0.2) (0,0,0,0)).2.1,(lGet x (iNat x0.2) (0,0,0,0)).2.2.1,(lGet x (iNat x0.2) (0,0,0,0)).2.2.2)).2.1,(Ez ((lGet x (iNat x0.2) (0,0,0,0)).1,(lGet x (iNat x0.2) (0,0,0,0)).2.1,(lGet x (iNat x0.2) (0,0,0,0)).2.2.1,(lGet x (iNat x0.2) (0,0,0,0)).2.2.2)).2.2.1,(Ez ((lGet x (iNat x0.2) (0,0,0,0)).1,(lGet x (iNat x0.2) (0,0,0,0)).2.1,(lGet x (iNat x0.2) (0,0,0,0)).2.2.1,(lGet x (iNat x0.2) (0,0,0,0)).2.2.2)).2.2.2)),(iAdd .i64 x0.2 1))) (fun(x0:((List (Int×(Int×(Int×Int))))×Int))=>(((iLt x0.2 (lLen x))=true→((((0:Int)≤x0.2)∧(x0.2<(((List.length x):Int))))∧(((iNat x0.2)<(List.length x))∧((Lg ((lGet x (iNat x0.2) (0,0,0,0)).1,(lGet x (iNat x0.2) (0,0,0,0)).2.1,(lGet x (iNat x0.2) (0,0,0,0)).2.2.1,(lGet x (iNat x0.2) (0,0,0,0)).2.2.2))∧((((0:Int)≤x0.2)∧(x0.2<(((List.length x0.1):Int))))∧((iNat x0.2)<(List.length x0.1)))))))∧((iLt x0.2 (lLen x))=false→True))) ((lRep (lLen x) (0,0,0,0)),0))):=(Gu.o x).trans (by kernel_rfl)
theorem Yy (x):Nn x=(Ar (fun(x0:((List (List (Int×(Int×(Int×Int)))))×Int))=>(iLt x0.2 (lLen x))) (fun(x0:((List (List (Int×(Int×(Int×Int)))))×Int))=>((lSet x0.1 (iNat x0.2) (JJ (lGet x (iNat x0.2) []))),(iAdd .i64 x0.2 1))) ((lRep (lLen x) []),0)).1:=(Gn.v x).trans (by kernel_rfl)
theorem YL (x):Nk x=((((0:Int)≤(lLen x))∧(AY ((Int.toNat (lLen x))*1)))∧(LoopOk (fun(x0:((List (List (Int×(Int×(Int×Int)))))×Int))=>(iLt x0.2 (lLen x))) (fun(x0:((List (List (Int×(Int×(Int×Int)))))×Int))=>((lSet x0.1 (iNat x0.2) (JJ (lGet x (iNat x0.2) []))),(iAdd .i64 x0.2 1))) (fun(x0:((List (List (Int×(Int×(Int×Int)))))×Int))=>(((iLt x0.2 (lLen x))=true→((((0:Int)≤x0.2)∧(x0.2<(((List.length x):Int))))∧(((iNat x0.2)<(List.length x))∧((La (lGet x (iNat x0.2) []))∧((((0:Int)≤x0.2)∧(x0.2<(((List.length x0.1):Int))))∧((iNat x0.2)<(List.length x0.1)))))))∧((iLt x0.2 (lLen x))=false→True))) ((lRep (lLen x) []),0))):=(Gn.o x).trans (by kernel_rfl)
theorem ZZ (x):Dn x=(x.1,(Nn x.2)):=(D5.v x).trans (by kernel_rfl)
theorem ZG (x):JH x=(Nk x.2):=(D5.o x).trans (by kernel_rfl)
theorem Zz (x):JN x=(bAnd (bNot (iLt (Ar (fun(x0:Int)=>(bAnd (iLt x0 (lLen x.2)) (bAnd (bNot (iNe (lLen (lGet x.2 (iNat x0) [])) x.1)) (bNot (iLt (Ar (fun(x1:Int)=>(bAnd (iLt x1 (lLen (lGet x.2 (iNat x0) []))) (bNot (bOr (bNot (D4 ((lGet (lGet x.2 (iNat x0) []) (iNat x1) (0,0,0,0)).1,(lGet (lGet x.2 (iNat x0) []) (iNat x1) (0,0,0,0)).2.1,(lGet (lGet x.2 (iNat x0) []) (iNat x1) (0,0,0,0)).2.2.1,(lGet (lGet x.2 (iNat x0) []) (iNat x1) (0,0,0,0)).2.2.2))) (bSel (iEq (lGet (lGet x.2 (iNat x0) []) (iNat x1) (0,0,0,0)).1 1) (bOr (iEq x0 0) (bAnd (iNe (lGet (lGet x.2 (iNat x0) []) (iNat x1) (0,0,0,0)).1 9) (iGe (lGet (lGet x.2 (iNat x0) []) (iNat x1) (0,0,0,0)).2.2.2 (lLen x.2)))) (bAnd (iNe (lGet (lGet x.2 (iNat x0) []) (iNat x1) (0,0,0,0)).1 9) (iGe (lGet (lGet x.2 (iNat x0) []) (iNat x1) (0,0,0,0)).2.2.2 (lLen x.2)))))))) (fun(x1:Int)=>(iAdd .i64 x1 1)) 0) (lLen (lGet x.2 (iNat x0) []))))))) (fun(x0:Int)=>(iAdd .i64 x0 1)) 0) (lLen x.2))) (bAnd (BM (x.1,1,32)) (BM ((lLen x.2),1,4)))):=(Fc.v x).trans (by kernel_rfl)
theorem ZM (x):Ns x=((LoopOk (fun(x0:Int)=>(bAnd (iLt x0 (lLen x.2)) (bAnd (bNot (iNe (lLen (lGet x.2 (iNat x0) [])) x.1)) (bNot (iLt (Ar (fun(x1:Int)=>(bAnd (iLt x1 (lLen (lGet x.2 (iNat x0) []))) (bNot (bOr (bNot (D4 ((lGet (lGet x.2 (iNat x0) []) (iNat x1) (0,0,0,0)).1,(lGet (lGet x.2 (iNat x0) []) (iNat x1) (0,0,0,0)).2.1,(lGet (lGet x.2 (iNat x0) []) (iNat x1) (0,0,0,0)).2.2.1,(lGet (lGet x.2 (iNat x0) []) (iNat x1) (0,0,0,0)).2.2.2))) (bSel (iEq (lGet (lGet x.2 (iNat x0) []) (iNat x1) (0,0,0,0)).1 1) (bOr (iEq x0 0) (bAnd (iNe (lGet (lGet x.2 (iNat x0) []) (iNat x1) (0,0,0,0)).1 9) (iGe (lGet (lGet x.2 (iNat x0) []) (iNat x1) (0,0,0,0)).2.2.2 (lLen x.2)))) (bAnd (iNe (lGet (lGet x.2 (iNat x0) []) (iNat x1) (0,0,0,0)).1 9) (iGe (lGet (lGet x.2 (iNat x0) []) (iNat x1) (0,0,0,0)).2.2.2 (lLen x.2)))))))) (fun(x1:Int)=>(iAdd .i64 x1 1)) 0) (lLen (lGet x.2 (iNat x0) []))))))) (fun(x0:Int)=>(iAdd .i64 x0 1)) (fun(x0:Int)=>(((iLt x0 (lLen x.2))=true→((((0:Int)≤x0)∧(x0<(((List.length x.2):Int))))∧(((iNat x0)<(List.length x.2))∧(((iNe (lLen (lGet x.2 (iNat x0) [])) x.1)=true→True)∧((iNe (lLen (lGet x.2 (iNat x0) [])) x.1)=false→(LoopOk (fun(x1:Int)=>(bAnd (iLt x1 (lLen (lGet x.2 (iNat x0) []))) (bNot (bOr (bNot (D4 ((lGet (lGet x.2 (iNat x0) []) (iNat x1) (0,0,0,0)).1,(lGet (lGet x.2 (iNat x0) []) (iNat x1) (0,0,0,0)).2.1,(lGet (lGet x.2 (iNat x0) []) (iNat x1) (0,0,0,0)).2.2.1,(lGet (lGet x.2 (iNat x0) []) (iNat x1) (0,0,0,0)).2.2.2))) (bSel (iEq (lGet (lGet x.2 (iNat x0) []) (iNat x1) (0,0,0,0)).1 1) (bOr (iEq x0 0) (bAnd (iNe (lGet (lGet x.2 (iNat x0) []) (iNat x1) (0,0,0,0)).1 9) (iGe (lGet (lGet x.2 (iNat x0) []) (iNat x1) (0,0,0,0)).2.2.2 (lLen x.2)))) (bAnd (iNe (lGet (lGet x.2 (iNat x0) []) (iNat x1) (0,0,0,0)).1 9) (iGe (lGet (lGet x.2 (iNat x0) []) (iNat x1) (0,0,0,0)).2.2.2 (lLen x.2)))))))) (fun(x1:Int)=>(iAdd .i64 x1 1)) (fun(x1:Int)=>((((0:Int)≤x0)∧(x0<(((List.length x.2):Int))))∧(((iNat x0)<(List.length x.2))∧(((iLt x1 (lLen (lGet x.2 (iNat x0) [])))=true→((((0:Int)≤x0)∧(x0<(((List.length x.2):Int))))∧(((iNat x0)<(List.length x.2))∧((((0:Int)≤x1)∧(x1<(((List.length (lGet x.2 (iNat x0) [])):Int))))∧(((iNat x1)<(List.length (lGet x.2 (iNat x0) [])))∧(JI ((lGet (lGet x.2 (iNat x0) []) (iNat x1) (0,0,0,0)).1,(lGet (lGet x.2 (iNat x0) []) (iNat x1) (0,0,0,0)).2.1,(lGet (lGet x.2 (iNat x0) []) (iNat x1) (0,0,0,0)).2.2.1,(lGet (lGet x.2 (iNat x0) []) (iNat x1) (0,0,0,0)).2.2.2)))))))∧((iLt x1 (lLen (lGet x.2 (iNat x0) [])))=false→True))))) 0))))))∧((iLt x0 (lLen x.2))=false→True))) 0)∧(((iLt (Ar (fun(x0:Int)=>(bAnd (iLt x0 (lLen x.2)) (bAnd (bNot (iNe (lLen (lGet x.2 (iNat x0) [])) x.1)) (bNot (iLt (Ar (fun(x1:Int)=>(bAnd (iLt x1 (lLen (lGet x.2 (iNat x0) []))) (bNot (bOr (bNot (D4 ((lGet (lGet x.2 (iNat x0) []) (iNat x1) (0,0,0,0)).1,(lGet (lGet x.2 (iNat x0) []) (iNat x1) (0,0,0,0)).2.1,(lGet (lGet x.2 (iNat x0) []) (iNat x1) (0,0,0,0)).2.2.1,(lGet (lGet x.2 (iNat x0) []) (iNat x1) (0,0,0,0)).2.2.2))) (bSel (iEq (lGet (lGet x.2 (iNat x0) []) (iNat x1) (0,0,0,0)).1 1) (bOr (iEq x0 0) (bAnd (iNe (lGet (lGet x.2 (iNat x0) []) (iNat x1) (0,0,0,0)).1 9) (iGe (lGet (lGet x.2 (iNat x0) []) (iNat x1) (0,0,0,0)).2.2.2 (lLen x.2)))) (bAnd (iNe (lGet (lGet x.2 (iNat x0) []) (iNat x1) (0,0,0,0)).1 9) (iGe (lGet (lGet x.2 (iNat x0) []) (iNat x1) (0,0,0,0)).2.2.2 (lLen x.2)))))))) (fun(x1:Int)=>(iAdd .i64 x1 1)) 0) (lLen (lGet x.2 (iNat x0) []))))))) (fun(x0:Int)=>(iAdd .i64 x0 1)) 0) (lLen x.2))=true→True)∧((iLt (Ar (fun(x0:Int)=>(bAnd (iLt x0 (lLen x.2)) (bAnd (bNot (iNe (lLen (lGet x.2 (iNat x0) [])) x.1)) (bNot (iLt (Ar (fun(x1:Int)=>(bAnd (iLt x1 (lLen (lGet x.2 (iNat x0) []))) (bNot (bOr (bNot (D4 ((lGet (lGet x.2 (iNat x0) []) (iNat x1) (0,0,0,0)).1,(lGet (lGet x.2 (iNat x0) []) (iNat x1) (0,0,0,0)).2.1,(lGet (lGet x.2 (iNat x0) []) (iNat x1) (0,0,0,0)).2.2.1,(lGet (lGet x.2 (iNat x0) []) (iNat x1) (0,0,0,0)).2.2.2))) (bSel (iEq (lGet (lGet x.2 (iNat x0) []) (iNat x1) (0,0,0,0)).1 1) (bOr (iEq x0 0) (bAnd (iNe (lGet (lGet x.2 (iNat x0) []) (iNat x1) (0,0,0,0)).1 9) (iGe (lGet (lGet x.2 (iNat x0) []) (iNat x1) (0,0,0,0)).2.2.2 (lLen x.2)))) (bAnd (iNe (lGet (lGet x.2 (iNat x0) []) (iNat x1) (0,0,0,0)).1 9) (iGe (lGet (lGet x.2 (iNat x0) []) (iNat x1) (0,0,0,0)).2.2.2 (lLen x.2)))))))) (fun(x1:Int)=>(iAdd .i64 x1 1)) 0) (lLen (lGet x.2 (iNat x0) []))))))) (fun(x0:Int)=>(iAdd .i64 x0 1)) 0) (lLen x.2))=false→((EA (x.1,1,32))∧(((BM (x.1,1,32))=true→(EA ((lLen x.2),1,4)))∧((BM (x.1,1,32))=false→True)))))):=(Fc.o x).trans (by kernel_rfl)
theorem Tx (x):He x=(bAnd (bNot (bOr (iLt x.1 1) (bOr (iGt x.1 32) (bOr (iLt (lLen x.2) 1) (iGt (lLen x.2) 4))))) (bNot (iLt (Ar (fun(x0:Int)=>(bAnd (iLt x0 (lLen x.2)) (bAnd (bNot (iNe (lLen (lGet x.2 (iNat x0) [])) x.1)) (bNot (iLt (Ar (fun(x1:Int)=>(bAnd (iLt x1 (lLen (lGet x.2 (iNat x0) []))) (bNot (bOr (bNot (Fb ((lGet (lGet x.2 (iNat x0) []) (iNat x1) (0,0,0,0)).1,(lGet (lGet x.2 (iNat x0) []) (iNat x1) (0,0,0,0)).2.1,(lGet (lGet x.2 (iNat x0) []) (iNat x1) (0,0,0,0)).2.2.1,(lGet (lGet x.2 (iNat x0) []) (iNat x1) (0,0,0,0)).2.2.2))) (bSel (iEq x0 0) (bOr (iEq (lGet (lGet x.2 (iNat x0) []) (iNat x1) (0,0,0,0)).1 1) (bAnd (iNe (lGet (lGet x.2 (iNat x0) []) (iNat x1) (0,0,0,0)).1 9) (iGe (lGet (lGet x.2 (iNat x0) []) (iNat x1) (0,0,0,0)).2.2.2 (lLen x.2)))) (bAnd (iNe (lGet (lGet x.2 (iNat x0) []) (iNat x1) (0,0,0,0)).1 9) (iGe (lGet (lGet x.2 (iNat x0) []) (iNat x1) (0,0,0,0)).2.2.2 (lLen x.2)))))))) (fun(x1:Int)=>(iAdd .i64 x1 1)) 0) (lLen (lGet x.2 (iNat x0) []))))))) (fun(x0:Int)=>(iAdd .i64 x0 1)) 0) (lLen x.2)))):=(Gz.v x).trans (by kernel_rfl)
theorem Z1 (x):Nv x=(((bOr (iLt x.1 1) (bOr (iGt x.1 32) (bOr (iLt (lLen x.2) 1) (iGt (lLen x.2) 4))))=true→True)∧((bOr (iLt x.1 1) (bOr (iGt x.1 32) (bOr (iLt (lLen x.2) 1) (iGt (lLen x.2) 4))))=false→(LoopOk (fun(x0:Int)=>(bAnd (iLt x0 (lLen x.2)) (bAnd (bNot (iNe (lLen (lGet x.2 (iNat x0) [])) x.1)) (bNot (iLt (Ar (fun(x1:Int)=>(bAnd (iLt x1 (lLen (lGet x.2 (iNat x0) []))) (bNot (bOr (bNot (Fb ((lGet (lGet x.2 (iNat x0) []) (iNat x1) (0,0,0,0)).1,(lGet (lGet x.2 (iNat x0) []) (iNat x1) (0,0,0,0)).2.1,(lGet (lGet x.2 (iNat x0) []) (iNat x1) (0,0,0,0)).2.2.1,(lGet (lGet x.2 (iNat x0) []) (iNat x1) (0,0,0,0)).2.2.2))) (bSel (iEq x0 0) (bOr (iEq (lGet (lGet x.2 (iNat x0) []) (iNat x1) (0,0,0,0)).1 1) (bAnd (iNe (lGet (lGet x.2 (iNat x0) []) (iNat x1) (0,0,0,0)).1 9) (iGe (lGet (lGet x.2 (iNat x0) []) (iNat x1) (0,0,0,0)).2.2.2 (lLen x.2)))) (bAnd (iNe (lGet (lGet x.2 (iNat x0) []) (iNat x1) (0,0,0,0)).1 9) (iGe (lGet (lGet x.2 (iNat x0) []) (iNat x1) (0,0,0,0)).2.2.2 (lLen x.2)))))))) (fun(x1:Int)=>(iAdd .i64 x1 1)) 0) (lLen (lGet x.2 (iNat x0) []))))))) (fun(x0:Int)=>(iAdd .i64 x0 1)) (fun(x0:Int)=>(((iLt x0 (lLen x.2))=true→((((0:Int)≤x0)∧(x0<(((List.length x.2):Int))))∧(((iNat x0)<(List.length x.2))∧(((iNe (lLen (lGet x.2 (iNat x0) [])) x.1)=true→True)∧((iNe (lLen (lGet x.2 (iNat x0) [])) x.1)=false→(LoopOk (fun(x1:Int)=>(bAnd (iLt x1 (lLen (lGet x.2 (iNat x0) []))) (bNot (bOr (bNot (Fb ((lGet (lGet x.2 (iNat x0) []) (iNat x1) (0,0,0,0)).1,(lGet (lGet x.2 (iNat x0) []) (iNat x1) (0,0,0,0)).2.1,(lGet (lGet x.2 (iNat x0) []) (iNat x1) (0,0,0,0)).2.2.1,(lGet (lGet x.2 (iNat x0) []) (iNat x1) (0,0,0,0)).2.2.2))) (bSel (iEq x0 0) (bOr (iEq (lGet (lGet x.2 (iNat x0) []) (iNat x1) (0,0,0,0)).1 1) (bAnd (iNe (lGet (lGet x.2 (iNat x0) []) (iNat x1) (0,0,0,0)).1 9) (iGe (lGet (lGet x.2 (iNat x0) []) (iNat x1) (0,0,0,0)).2.2.2 (lLen x.2)))) (bAnd (iNe (lGet (lGet x.2 (iNat x0) []) (iNat x1) (0,0,0,0)).1 9) (iGe (lGet (lGet x.2 (iNat x0) []) (iNat x1) (0,0,0,0)).2.2.2 (lLen x.2)))))))) (fun(x1:Int)=>(iAdd .i64 x1 1)) (fun(x1:Int)=>(((iLt x1 (lLen (lGet x.2 (iNat x0) [])))=true→((((0:Int)≤x1)∧(x1<(((List.length (lGet x.2 (iNat x0) [])):Int))))∧(((iNat x1)<(List.length (lGet x.2 (iNat x0) [])))∧(JG ((lGet (lGet x.2 (iNat x0) []) (iNat x1) (0,0,0,0)).1,(lGet (lGet x.2 (iNat x0) []) (iNat x1) (0,0,0,0)).2.1,(lGet (lGet x.2 (iNat x0) []) (iNat x1) (0,0,0,0)).2.2.1,(lGet (lGet x.2 (iNat x0) []) (iNat x1) (0,0,0,0)).2.2.2)))))∧((iLt x1 (lLen (lGet x.2 (iNat x0) [])))=false→True))) 0))))))∧((iLt x0 (lLen x.2))=false→True))) 0))):=(Gz.o x).trans (by kernel_rfl)
theorem YX (x):Gv x=(bAnd (bNot (iNe (lLen x.1) (lLen x.2))) (bNot (iLt (Ar (fun(x0:Int)=>(bAnd (iLt x0 (lLen x.1)) (bNot (bNot (Gy (((lGet x.1 (iNat x0) (0,0,0,0)).1,(lGet x.1 (iNat x0) (0,0,0,0)).2.1,(lGet x.1 (iNat x0) (0,0,0,0)).2.2.1,(lGet x.1 (iNat x0) (0,0,0,0)).2.2.2),(lGet x.2 (iNat x0) (0,0,0,0)).1,(lGet x.2 (iNat x0) (0,0,0,0)).2.1,(lGet x.2 (iNat x0) (0,0,0,0)).2.2.1,(lGet x.2 (iNat x0) (0,0,0,0)).2.2.2)))))) (fun(x0:Int)=>(iAdd .i64 x0 1)) 0) (lLen x.1)))):=(Gt.v x).trans (by kernel_rfl)
theorem YT (x):Ld x=(((iNe (lLen x.1) (lLen x.2))=true→True)∧((iNe (lLen x.1) (lLen x.2))=false→(LoopOk (fun(x0:Int)=>(bAnd (iLt x0 (lLen x.1)) (bNot (bNot (Gy (((lGet x.1 (iNat x0) (0,0,0,0)).1,(lGet x.1 (iNat x0) (0,0,0,0)).2.1,(lGet x.1 (iNat x0) (0,0,0,0)).2.2.1,(lGet x.1 (iNat x0) (0,0,0,0)).2.2.2),(lGet x.2 (iNat x0) (0,0,0,0)).1,(lGet x.2 (iNat x0) (0,0,0,0)).2.1,(lGet x.2 (iNat x0) (0,0,0,0)).2.2.1,(lGet x.2 (iNat x0) (0,0,0,0)).2.2.2)))))) (fun(x0:Int)=>(iAdd .i64 x0 1)) (fun(x0:Int)=>(((iLt x0 (lLen x.1))=true→((((0:Int)≤x0)∧(x0<(((List.length x.1):Int))))∧(((iNat x0)<(List.length x.1))∧((((0:Int)≤x0)∧(x0<(((List.length x.2):Int))))∧(((iNat x0)<(List.length x.2))∧(Lh (((lGet x.1 (iNat x0) (0,0,0,0)).1,(lGet x.1 (iNat x0) (0,0,0,0)).2.1,(lGet x.1 (iNat x0) (0,0,0,0)).2.2.1,(lGet x.1 (iNat x0) (0,0,0,0)).2.2.2),(lGet x.2 (iNat x0) (0,0,0,0)).1,(lGet x.2 (iNat x0) (0,0,0,0)).2.1,(lGet x.2 (iNat x0) (0,0,0,0)).2.2.1,(lGet x.2 (iNat x0) (0,0,0,0)).2.2.2)))))))∧((iLt x0 (lLen x.1))=false→True))) 0))):=(Gt.o x).trans (by kernel_rfl)
theorem YI (x):Np x=(bAnd (bNot (iNe (lLen x.1) (lLen x.2))) (bNot (iLt (Ar (fun(x0:Int)=>(bAnd (iLt x0 (lLen x.1)) (bNot (bNot (Gv ((lGet x.1 (iNat x0) []),(lGet x.2 (iNat x0) []))))))) (fun(x0:Int)=>(iAdd .i64 x0 1)) 0) (lLen x.1)))):=(Gp.v x).trans (by kernel_rfl)
theorem YC (x):Nh x=(((iNe (lLen x.1) (lLen x.2))=true→True)∧((iNe (lLen x.1) (lLen x.2))=false→(LoopOk (fun(x0:Int)=>(bAnd (iLt x0 (lLen x.1)) (bNot (bNot (Gv ((lGet x.1 (iNat x0) []),(lGet x.2 (iNat x0) []))))))) (fun(x0:Int)=>(iAdd .i64 x0 1)) (fun(x0:Int)=>(((iLt x0 (lLen x.1))=true→((((0:Int)≤x0)∧(x0<(((List.length x.1):Int))))∧(((iNat x0)<(List.length x.1))∧((((0:Int)≤x0)∧(x0<(((List.length x.2):Int))))∧(((iNat x0)<(List.length x.2))∧(Ld ((lGet x.1 (iNat x0) []),(lGet x.2 (iNat x0) []))))))))∧((iLt x0 (lLen x.1))=false→True))) 0))):=(Gp.o x).trans (by kernel_rfl)
theorem ZD (x):NC x=(bAnd (bNot (iNe x.1.1 x.2.1)) (bNot (bNot (Np (x.1.2,x.2.2))))):=(Gw.v x).trans (by kernel_rfl)
theorem ZE (x):Nq x=(((iNe x.1.1 x.2.1)=true→True)∧((iNe x.1.1 x.2.1)=false→(Nh (x.1.2,x.2.2)))):=(Gw.o x).trans (by kernel_rfl)
attribute [irreducible] CG Lb Ha Ng FL Nu JJ La Nn Nk Dn JH JN Ns He Nv Gv Ld Np Nh NC Nq
end
open Go.RowKit
theorem HRel.below{ι:Am}{σ:Ac}{w w':World}(H:HRel ι σ w)(B:Below w.heap.size w w'):HRel ι σ w':=by
 have far:∀ (j:Nat) (b:Blk),σ[j]?=some b→b.k≠.dead→w'.heap[(ι j).b]?=w.heap[(ι j).b]?:=fun j b hj hbk=>B.block _ (H.there j b hj hbk)
 refine⟨fun l blk h hd i v hv=>?_,fun l blk h hk=>?_,H.apart,fun l blk h hd=>GZ (H.there l blk h hd) B.size⟩
 · obtain⟨c,x,hx,hr⟩:=H.cells l blk h hd i v hv;exact⟨c,x,by rw[ON (w:=w) (far l blk h hd)];exact hx,hr⟩
 · obtain⟨g1,g2,arr,e,g3,g4⟩:=H.own l blk h hk;exact⟨g1,g2,arr,e,by rw[far l blk h (by rw[hk];decide)];exact g3,g4⟩
theorem Step.below{ι:Am}{σ:Ac}{w w':World}(B:Below w.heap.size w w'):Step ι σ w ι σ w':=
 { Step.refl ι σ w with frame:=fun b hb _=>B.block b hb,size:=B.size,os:=B.os,output:=B.output,tape:=B.tape }
def BD(xs:List (List UInt8))(sep:List UInt8):List UInt8:=sep.intercalate xs
def Ln:A7:=fun args h Q=>∃ (u:V) (sep:List UInt8) (xs:List (List UInt8)),args=[u,.str sep]∧xs.length≤140737488355328∧(BD xs sep).length≤140737488355328 ∧
 ((xs=[]∧(u= .nils∨∃ l o,u= .slice l o 0))∨∃ (l o:Nat) (b:Blk),u= .slice l o xs.length∧0<xs.length∧h[l]?=some b∧b.k≠.dead∧∀ (k:Nat) x,xs[k]?=some x→b.cs[o+k]?=some (.str x))∧Q (.str (BD xs sep)) h
def fT(P:Program)(g:FuncId):Prop:=
 (∀ (bk o c:Nat) (xs:List ByteArray) (sep:ByteArray) (w:World),(∀ (j:Nat) x,xs[j]?=some x→w.cell? ⟨bk,o+j,none⟩=some (.string x))→bk<w.heap.size→xs.length≤140737488355328→xs.length≤c→(Lib.join (xs.map (·.data.toList)) sep.data.toList).length≤140737488355328 →
  Calls P g #[.slice (some ⟨bk,o,none⟩) xs.length c,.string sep] w fun e w'=>e= .returned (.string ⟨(Lib.join (xs.map (·.data.toList)) sep.data.toList).toArray⟩)∧Below w.heap.size w w') ∧
 ∀ (a:Option Addr) (c:Nat) (sep:ByteArray) (w:World),Calls P g #[.slice a 0 c,.string sep] w fun e w'=>e= .returned (.string ⟨#[]⟩)∧w'=w
theorem dj{P:Program}{g:FuncId}(hs:fT P g):Aq P g Ln:=by
 rintro Φ ι σ w args xs Q hΦ H hargs ⟨u,sep,ss,rfl,hn,hlen,hu,hQ⟩;have hl:=hargs.1
 match xs,hl with
 | [x, y], _=>
   have hy:=FT (hargs.2 1 _ _ rfl rfl (fun _=>0));have hx:=hargs.2 0 _ _ rfl rfl (fun _=>0);subst hy;rcases hu with⟨rfl,hu⟩|⟨l,o,b,rfl,hpos,hb,hk,hc⟩
   · have key:∃ a c,x= .slice a 0 c:=by
      rcases hu with rfl|⟨l,o,rfl⟩
      · obtain⟨a,rfl⟩:=Ka hx;exact⟨a,0,rfl⟩
      · obtain⟨_,_,⟨c,rfl,_⟩|⟨_,a,rfl⟩⟩:=DI hx
        · exact⟨_,c,rfl⟩
        · exact⟨a,0,rfl⟩
     obtain⟨a,c,rfl⟩:=key;refine(hs.2 a c ⟨sep.toArray⟩ w).mono ?_;rintro e w' ⟨rfl,rfl⟩;exact⟨_,.str (BD [] sep),σ,ι,rfl,hQ,hΦ,fun β=>.str _,H,.refl _ _ _⟩
   · have hl:Φ l=none:=(RE hx).1 l o _ rfl
     have hb':(kill Φ σ)[l]?=some b:=by rw[Kk hl];exact hb
     obtain⟨b1,g1,hc1⟩:=DI hx;rw[hb'] at g1;cases g1;rcases hc1 with⟨c,rfl,c1,c2⟩|⟨h0,_⟩
     · have hbs:∀ (s:List UInt8),(ByteArray.mk s.toArray).data.toList=s:=fun s=>by simp
       have e1:(ss.map fun s=>ByteArray.mk s.toArray).map (·.data.toList)=ss:=by
        rw[List.map_map];simp[Function.comp_def]
       have hcall:=hs.1 (ι l).b ((ι l).o+o) c (ss.map fun s=>ByteArray.mk s.toArray) ⟨sep.toArray⟩ w (fun j x hx=>by
        rw[EP] at hx
        cases hj:ss[j]? with
        |none=>rw[hj] at hx;cases hx
        | some s=>
          rw[hj] at hx;cases hx;obtain⟨_,z,q1,q2⟩:=H.cells l b hb' hk (o+j) _ (hc j s hj)
          rw[Ky,q1,FT (q2 (fun _=>0))]) (H.there l b hb' hk) (by simpa using hn) (by simpa using c1) (by rw[e1,hbs];exact hlen)
       rw[A5,e1,hbs] at hcall;refine hcall.mono ?_;rintro e w' ⟨rfl,B⟩;exact⟨_,.str (BD ss sep),σ,ι,rfl,hQ,hΦ,fun β=>.str _,H.below B,Step.below B⟩
     · omega
def B9:List UInt8:=[97,32,98,32,99,32,100,32,101,32,102,32,103,32,104,32,105,32,106,32,107,32,108,32,109,32,110,32,111,32,112,32,113,32,114,32,115,32,116,32,117,32,118,32,119,32,120,32,121,32,122,32,49,32,50,32,51,32,52,32,53,32,54,32,55,32,56,32,57,32,48,32,101,110,116,101,114,32,101,115,99,32,98,97,99,107,32,116,97,98,32,115,112,97,99,101,32,109,105,110,117,115,32,101,113,117,97,108,32,108,101,102,116,32,114,105,103,104,116,32,117,112,32,100,111,119,110,32,102,49,32,102,50,32,102,51,32,102,52,32,102,53,32,102,54,32,102,55,32,102,56,32,102,57]
def BO:List (List UInt8):=[[97],[98],[99],[100],[101],[102],[103],[104],[105],[106],[107],[108],[109],[110],[111],[112],[113],[114],[115],[116],[117],[118],[119],[120],[121],[122],[49],[50],[51],[52],[53],[54],[55],[56],[57],[48],[101,110,116,101,114],[101,115,99],[98,97,99,107],[116,97,98],[115,112,97,99,101],[109,105,110,117,115],[101,113,117,97,108],[108,101,102,116],[114,105,103,104,116],[117,112],[100,111,119,110],[102,49],[102,50],[102,51],[102,52],[102,53],[102,54],[102,55],[102,56],[102,57]]
def JM:A7:=fun args h Q=>args=[.str B9,.str [32]]∧Q (.slice h.length 0 56) (h++[⟨.own,1,BO.map .str⟩])
def U1(P:Program)(g:FuncId):Prop:=∀ (w:World),Calls P g #[.string ⟨B9.toArray⟩,.string ⟨#[32]⟩] w fun e w'=>∃ T,e= .returned (.slice (some ⟨w.heap.size,0,none⟩) 56 56)∧w'=w.alloc (.cells (BO.map fun s=>Value.string ⟨s.toArray⟩).toArray T)
theorem cV{P:Program}{g:FuncId}(hs:U1 P g):Aq P g JM:=by
 rintro Φ ι σ w args xs Q hΦ H hargs ⟨rfl,hQ⟩;have hl:=hargs.1
 match xs,hl with
 | [x, y],_=>
   have hx:=FT (hargs.2 0 _ _ rfl rfl (fun _=>0));have hy:=FT (hargs.2 1 _ _ rfl rfl (fun _=>0));subst hx;subst hy;refine(hs w).mono ?_;rintro e w' ⟨T,rfl,rfl⟩
   have hcl:RelCells ι (kill Φ σ) (BO.map .str) (BO.map fun s=>Value.string ⟨s.toArray⟩).toArray.toList:=by
    refine⟨by simp,fun i v hv=>?_⟩;rw[EP] at hv
    cases hi:BO[i]? with
    |none=>rw[hi] at hv;cases hv
    | some s=>
      rw[hi] at hv;cases hv;exact⟨rfl,.string ⟨s.toArray⟩,by simp[hi],fun β=>.str s⟩
   have B:BRel ι (kill Φ σ) (fun _=>0) [] w w:=⟨fun i cs h=>by simp at h,fun i cs h=>by simp at h,fun i j cs ds _ h=>by simp at h,fun i cs l blk h=>by simp at h⟩;have S:SRel ι (kill Φ σ) (fun _=>0) [] #[]:=⟨AF _,fun i=>by rw[show get [] i=V.undef from rfl];exact Rel.undef _⟩;obtain⟨g1,_,_,g2⟩:=J8 H B S (BO.map fun s=>Value.string ⟨s.toArray⟩).toArray T 1 (BO.map .str) hcl;rw[← GL hΦ] at g1 g2;refine⟨_,.slice σ.length 0 56,_,_,rfl,hQ,hΦ.push _,fun β=>?_,g1,g2⟩;have hlen:(kill Φ σ).length=σ.length:=Cr Φ σ;rw[GL hΦ];have:=Rel.slice (ι:=upd ι (kill Φ σ).length ⟨w.heap.size,0,(BO.map fun s=>Value.string ⟨s.toArray⟩).toArray.size⟩) (σ:=kill Φ σ++[⟨.own,1,BO.map .str⟩]) (β:=β) σ.length 0 56 56 ⟨.own,1,BO.map .str⟩ (by rw[← hlen];simp) (by decide) (by rw[← hlen,Bt];simp[show BO.length=56 from rfl]) (by decide);rw[← hlen,Bt] at this;rw[← hlen];simpa using this
def Lk:A7:=fun args h Q=>∃ i:Nat,args=[.int .i64 i]∧i<100∧Q (.str (Lib.decDigits i)) h
def fS(P:Program)(g:FuncId):Prop:=∀ (i:Nat) (_:i<100) (w:World),Calls P g #[.int .i64 i] w fun e w'=>e= .returned (.string ⟨(Lib.decDigits i).toArray⟩)∧w'=w
theorem c8{P:Program}{g:FuncId}(hs:fS P g):Aq P g Lk:=by
 rintro Φ ι σ w args xs Q hΦ H hargs ⟨i,rfl,hi,hQ⟩;have hl:=hargs.1
 match xs,hl with
 | [x],_=>
   have hx:=CS (hargs.2 0 _ _ rfl rfl (fun _=>0));subst hx;refine(hs i hi w).mono ?_;rintro e w' ⟨rfl,rfl⟩;exact⟨_,.str (Lib.decDigits i),σ,ι,rfl,hQ,hΦ,fun β=>.str _,H,.refl _ _ _⟩
section
set_option maxRecDepth 8000
def pL(hs:List HT)(q:QT)(ok:TuX hs→Prop)(v:TuX hs→q.D):BW:=fun args H Q=>∃ x:TuX hs,DV.encL (Di hs x)=args∧ok x∧Q (q.dv (v x)).enc H
theorem VV(hs:List HT)(q:QT)(ok:TuX hs→Prop)(v:TuX hs→q.D):HE (pL hs q ok v) (F4 hs q ok v):=by
 intro args g w Q h hg hQ;unfold F4 at h
 cases hx:E0 hs args with
 |none=>rw[hx] at h;cases h
 | some x=>
   rw[hx] at h;simp only[Ah,Ak] at h;obtain⟨rfl,rfl⟩:=h;exact⟨x,MF hx,hg,hQ []⟩
theorem Wi{h h0:Ac}{ω0 ω:Nat→W}{ρ:Nat→Nat}{args:List PV}{us:List V}{H:List (List PV)}(R:RS h0 ω0 ω ρ ⟨args,[],H⟩ ⟨us,[],h⟩ X0)(x:V)(hx:x.flat=true):RS h0 ω0 ω ρ ⟨[],[],H⟩ ⟨[],[],h⟩ (X1 (.fl x) x):=by
 have e:∀ p:List Nat,((PV.fl x).fcell p= .fl .undef)∨((PV.fl x).fcell p= .fl x∧x.fcell p=x):=by
  intro p
  match p with
  |[]=>exact .inl rfl
  |[0]=>right;cases x<;>first|exact⟨rfl,rfl⟩|cases hx
  |[n+1]=>exact .inl rfl
  |_::_::_=>exact .inl (by simp[PV.fcell])
 refine(R.forget).handx ?_ (fun p=>?_) (fun p i pb tp=>?_)
 · cases x<;>first|trivial|(refine⟨fun us h=>?_,fun us h=>?_⟩<;>cases h)|cases hx
 · rcases e p with e|⟨e1,e2⟩
   · rw[e];exact .undef _ _
   · rw[e1,e2];exact .v _ _ hx
 · rcases e p with e|⟨e1,e2⟩
   · rw[e];simp[PV.q]
   · rw[e1];simp[PV.q]
theorem Xa(x:V):(PV.fl x).nob:=by
 intro p hb pb tp
 match p with
 |[]=>simp[PV.fcell,PV.q]
 |[0]=>simp[PV.fcell,PV.q]
 |[n+1]=>simp[PV.fcell,PV.q]
 |_::_::_=>simp[PV.fcell,PV.q]
theorem Mc{h0:Ac}{ω0 ω:Nat→W}{ρ:Nat→Nat}{st:PS}{us:St}(R:RS h0 ω0 ω ρ st us X0)(t:Nat){v:PV}(hv:Aa st.sl t=v)(h1:∀ cs,v≠.agg cs)(h2:∀ vs,v≠.tup vs)(h3:v≠.fl .undef):RC us.hp ω (.at (.s t) [0]) v (get us.sl t):=by
 have r:RC us.hp ω (.at (.s t) [0]) ((Aa st.sl t).fcell [0]) ((get us.sl t).fcell [0]):=R.core.rc (.s t) [0];have sh:=R.sh t;rw[hv] at r sh
 have e1:v.fcell [0]=v:=by cases v<;>first|rfl|exact absurd rfl (h1 _)|exact absurd rfl (h2 _)
 have e2:(get us.sl t).fcell [0]=get us.sl t:=by
  have s1:(∀ us',get us.sl t≠.agg us')∧∀ us',get us.sl t≠.tup us':=by
   cases v with
   |agg cs=>exact absurd rfl (h1 _)
   |tup vs=>exact absurd rfl (h2 _)
   |fl x=>cases x<;>first|exact absurd rfl h3|exact sh
   |_=>exact sh
  generalize get us.sl t=u at s1
  cases u<;>first|rfl|exact absurd rfl (s1.1 _)|exact absurd rfl (s1.2 _)
 rw[e1,e2] at r;exact r
def Jm(l:List (List UInt8)):List (List PV):=l.map fun s=>[.fl (.str s)]
theorem cZ(l:List (List UInt8)):(Jm l).flatten=l.map fun s=>.fl (.str s):=by
 induction l with
 |nil=>rfl
 |cons n r ih=>simpa [Jm] using ih
theorem fD{l:List (List UInt8)}{k:Nat}(h:k<l.length):Aa (Jm l).flatten k= .fl (.str (l[k])):=by
 rw[cZ,CQ,EP,As h];rfl
def TQ:List HT:=[.one .frz (.sl (.one .str)),.one .frz .str]
def TR:QT:=.one (.one .own .str)
@[irreducible] def JS(x:List (List UInt8)×List UInt8):List UInt8:=(shut fun(x:List (List UInt8)×List UInt8)=>BD x.1 x.2).1 x
@[irreducible] def JO(x:List (List UInt8)×List UInt8):Prop:=(shut fun(x:List (List UInt8)×List UInt8)=>x.1.length≤140737488355328∧(BD x.1 x.2).length≤140737488355328).1 x
theorem P6 (x):JS x=BD x.1 x.2:=by unfold JS;exact congrFun (shut _).2 x
theorem P3 (x):JO x=(x.1.length≤140737488355328∧(BD x.1 x.2).length≤140737488355328):=by unfold JO;exact congrFun (shut _).2 x
def TN:EY:=F4 TQ TR JO JS
@[irreducible] def Ll:BW:=pL TQ TR JO JS
theorem aA:HE Ll TN:=by unfold Ll;exact VV _ _ _ _
theorem aE:GW Ln Ll:=by
 unfold Ll;rintro h ω0 ρ args us H Q K R hloc ⟨⟨(xs:List (List UInt8)),(sep:List UInt8)⟩,rfl,hok,hQ⟩ hK;have hlen:=R.lsl
 match us,hlen with
 | [u1,u2],_=>
   have c1:RC h ω0 (.at (.s 0) [0]) (.sl .frz (Jm xs)) u1:=Mc (us:=⟨[u1,u2],[],h⟩) R 0 rfl (by simp) (by simp) (by simp);have c2:RC h ω0 (.at (.s 1) [0]) (.fl (.str sep)) u2:=Mc (us:=⟨[u1,u2],[],h⟩) R 1 rfl (by simp) (by simp) (by simp)
   have e2:u2= .str sep:=by cases c2;rfl
   subst e2;have hok:JO (xs,sep):=hok;have hQ:Q (.fl (.str (JS (xs,sep)))) H:=hQ;rw[P3] at hok;rw[P6] at hQ;refine⟨u1,sep,xs,rfl,hok.1,hok.2,?_,hK _ _ _ _ _ _ hQ (Wi R _ rfl) (Xa _)⟩;generalize hes:Jm xs=es at c1
   have hxl:es.length=xs.length:=by rw[← hes];simp[Jm]
   cases c1 with
   |nil=>exact .inl ⟨DR (by rw[← hxl];rfl),.inl rfl⟩
   | sl _ _ _ l o n b hb hk hc hne hn hw hle hr=>
     subst hes;rcases Kw xs.length with h0|h0
     · exact .inl ⟨DR h0,.inr ⟨l,o,by rw[hn,hxl,h0]⟩⟩
     · refine .inr ⟨l,o,b,by rw[hn,hxl],h0,hb,hk,fun k x hx=>?_⟩
       have hkl:k<xs.length:=by
        rcases A9 k xs.length with h|h
        · exact h
        · rw[AZ h] at hx;cases hx
       have hbw:b.w=1:=by
        obtain⟨y,ys,rfl⟩:=List.exists_cons_of_length_pos h0;have:=hw [.fl (.str y)] (by simp[Jm]);simpa using this.symm
       rw[hxl,hbw,Jh] at hle hr;have r:=hr k hkl;rw[fD hkl] at r;rw[As hkl] at hx;cases hx
       have e:get b.cs (o+k)= .str (xs[k]):=by
        generalize get b.cs (o+k)=z at r
        cases r with
        |v=>rfl
       rw[B1,As (show o+k<b.cs.length by omega)] at e;rw[As (show o+k<b.cs.length by omega)];simpa using e
def ae:DCode:=(.seq [2] (.region [⟨0,some 2,.a false (.litSlice 1 56 (BO.map fun _=>.str []) (BO.zipIdx.map fun x=>(x.2,1,.c (.str x.1)))) (some (.one .str)),none,[]⟩]) .ret)
def D3:DFun:=⟨2,3,0,false,[.tmp 2],ae⟩
theorem ik(Q:V→Ac→Prop)(h:Ac):Ku D3.er.er [.str B9,.str [32]] h Q→JM [.str B9,.str [32]] h Q:=by
 intro hs;refine⟨rfl,?_⟩
 have e:Ku D3.er.er [.str B9,.str [32]] h Q=(2=2∧Q (.slice h.length 0 56) (h++[⟨.own,1,BO.map .str⟩])):=by kernel_rfl
 exact(e▸hs).2
def E8:List HT:=[.one .frz .str,.one .frz .str]
def E5:QT:=.one (.one .own (.sl (.one .str)))
@[irreducible] def Hb(x:List UInt8×List UInt8):List (List UInt8):=(shut fun x=>FG D3 E8 E5 x).1 x
@[irreducible] def Ip(x:List UInt8×List UInt8):Prop:=(shut fun x=>(x.1=B9∧x.2=[32])∧FC D3 E8 E5 x).1 x
theorem Z2 (x):Hb x=BO:=by unfold Hb;exact(congrFun (shut _).2 x).trans (by kernel_rfl)
theorem Z7 (x):Ip x=((x.1=B9∧x.2=[32])∧True):=by unfold Ip;exact(congrFun (shut _).2 x).trans (by kernel_rfl)
def P4:EY:=F4 E8 E5 Ip Hb
@[irreducible] def Li:BW:=fun args H Q=>args=[.fl (.str B9),.fl (.str [32])]∧IU D3.er args H Q
theorem Zw:GW JM Li:=by
 unfold Li;rintro h ω0 ρ args us H Q K R hloc ⟨rfl,hp⟩ hK;have hlen:=R.lsl
 match us,hlen with
 | [u1,u2],_=>
   have c1:RC h ω0 (.at (.s 0) [0]) (.fl (.str B9)) u1:=Mc (us:=⟨[u1,u2],[],h⟩) R 0 rfl (by simp) (by simp) (by simp);have c2:RC h ω0 (.at (.s 1) [0]) (.fl (.str [32])) u2:=Mc (us:=⟨[u1,u2],[],h⟩) R 1 rfl (by simp) (by simp) (by simp)
   have e1:u1= .str B9:=by cases c1;rfl
   have e2:u2= .str [32]:=by cases c2;rfl
   subst e1;subst e2;exact ik K h (UP (f:=D3.er) trivial h ω0 ρ _ _ H Q K R hloc hp hK)
theorem ZB:HE Li P4:=by
 intro args g w Q h hg hQ;have h0:=h;unfold P4 F4 at h
 cases hx:E0 E8 args with
 |none=>rw[hx] at h;cases h
 | some x=>
   rw[hx] at h;simp only[Ah,Ak] at h;obtain⟨rfl,rfl⟩:=h;have hg':Ip x:=hg
   have ho:Ip x=((x.1=B9∧x.2=[32])∧FC D3 E8 E5 x):=by unfold Ip;exact congrFun (shut _).2 x
   have hv:FG D3 E8 E5 x=Hb x:=by unfold Hb;exact(congrFun (shut _).2 x).symm
   rw[ho] at hg';have hd:=Vi (f:=D3) (hs:=E8) (q:=E5) trivial (by kernel_rfl) (fun x=>by kernel_rfl) (ok:=FC D3 E8 E5) (v:=FG D3 E8 E5) (fun _ h=>h) (fun _=>rfl);unfold Li;refine⟨?_,hd args (.p (FC D3 E8 E5 x)) (E5.dv (FG D3 E8 E5 x)) Q (by unfold F4;rw[hx]) hg'.2 fun H=>by rw[hv];exact hQ H⟩;obtain⟨⟨a,b⟩,_⟩:=hg';rw[← MF hx];obtain⟨x1,x2⟩:=x;have a:x1=B9:=a;have b:x2=[32]:=b;subst a;subst b;rfl
def TK:List HT:=[.one .frz (.int .i64)]
def TL:QT:=.one (.one .own .str)
@[irreducible] def JR(x:Int):List UInt8:=(shut fun(x:Int)=>Lib.decDigits x.toNat).1 x
@[irreducible] def JL(x:Int):Prop:=(shut fun(x:Int)=>0≤x∧x<100).1 x
theorem TG (x):JR x=Lib.decDigits x.toNat:=by unfold JR;exact congrFun (shut _).2 x
theorem TE (x):JL x=(0≤x∧x<100):=by unfold JL;exact congrFun (shut _).2 x
def TO:EY:=F4 TK TL JL JR
@[irreducible] def Lm:BW:=pL TK TL JL JR
theorem aN:HE Lm TO:=by unfold Lm;exact VV _ _ _ _
theorem aK:GW Lk Lm:=by
 unfold Lm;rintro h ω0 ρ args us H Q K R hloc ⟨(x:Int),rfl,hok,hQ⟩ hK;have hlen:=R.lsl
 match us,hlen with
 | [u1],_=>
   have c1:RC h ω0 (.at (.s 0) [0]) (.fl (.int .i64 x)) u1:=Mc (us:=⟨[u1],[],h⟩) R 0 rfl (by simp) (by simp) (by simp)
   have e1:u1= .int .i64 x:=by cases c1;rfl
   subst e1;have hok:JL x:=hok;have hQ:Q (.fl (.str (JR x))) H:=hQ;rw[TE] at hok;rw[TG] at hQ;obtain⟨i,rfl⟩:∃ i:Nat,x=i:=⟨x.toNat,by omega⟩;rw[Be] at hQ;exact⟨i,rfl,by omega,hK _ _ _ _ _ _ hQ (Wi R _ rfl) (Xa _)⟩
end
section
set_option maxRecDepth 8000
def Zh:DCode:=(.seq [1,0] (.region [oa 0 4 (.mv (.c .nils))]) (.seq [5,1,0] (.region [⟨0,some 8,.a false (.litSlice 1 0 [] []) (some (.one (.str))),none,[]⟩,om 1 5 8]) (.seq [6,5,1,0] (.region [oi 0 6 0]) (.seq [5] (.seq [7,6,5,1,0] (.region [oi 0 7 0]) (.block 0 (.loop [0,1,5,6,7] 1 (.seq [7,6,5,1,0] (.seq [12,7,6,5,1,0] (.region [om 0 9 7,om 1 10 0,oa 2 11 (.lenT (.t 10)),oa 3 12 (.bin .leq (.t 9) (.t 11))]) (.cond (.t 12) .skip (.exit 0))) (.seq [7,6,5,1,0] (.block 1 (.seq [25,7,6,5,1,0] (.region [om 0 15 7,om 1 16 0,oa 2 17 (.lenT (.t 16)),oa 3 18 (.bin .eql (.t 15) (.t 17)),om 4 19 18,og 5 20 (.mv (.t 0)) 19 false,og 6 21 (.mv (.t 7)) 19 false,og 7 22 (.index (.t 20) (.t 21)) 19 false,og 8 23 (.mv (.t 1)) 19 false,og 9 24 (.bin .eql (.t 22) (.t 23)) 19 false,oa 10 25 (.pick (.t 19) (.c (.bool true)) (.t 24))]) (.cond (.t 25) (.seq [7,5,1,0] (.region [om 0 26 5,om 1 27 0,om 2 28 6,om 3 29 7,oa 4 30 (.substr (.t 27) (some (.t 28)) (some (.t 29))),⟨5,some 31,.a false (.litSlice 1 1 [(.str [])] [(0,1,(.t 30))]) (some (.one (.str))),none,[]⟩,oa 6 32 (.app 1 (.t 26) (.t 31)),om 7 5 32]) (.region [om 0 33 7,oa 1 34 (.bin .add (.t 33) (.c (.int .i64 1))),om 2 6 34])) .skip))) (.region [om 0 13 7,oa 1 14 (.bin .add (.t 13) (.c (.int .i64 1))),om 2 7 14])))))) (.seq [4] (.region [om 0 35 5,om 1 4 35]) .ret)))))
def Gs:Fn:=⟨⟨2,36,0,false,[.tmp 4],Zh⟩,[.one .frz (.str),.one .frz (.int .u8)],.one (.one .own (.sl (.one (.str))))⟩
theorem Y7:Gs.A:=Bm trivial
def Nt:List UInt8×Int→List (List UInt8):=Gs.V
def Nl:List UInt8×Int→Prop:=Gs.O
theorem YW:Gs.B:=Bq trivial (by kernel_rfl) (fun x=>by kernel_rfl)
def aD:DCode:=(.seq [] (.region [oa 0 0 (.mv (.c .nils))]) (.seq [0] (.region [oF 0 1 Gs [(.c (.str [97,32,98,32,99,32,100,32,101,32,102,32,103,32,104,32,105,32,106,32,107,32,108,32,109,32,110,32,111,32,112,32,113,32,114,32,115,32,116,32,117,32,118,32,119,32,120,32,121,32,122,32,49,32,50,32,51,32,52,32,53,32,54,32,55,32,56,32,57,32,48,32,101,110,116,101,114,32,101,115,99,32,98,97,99,107,32,116,97,98,32,115,112,97,99,101,32,109,105,110,117,115,32,101,113,117,97,108,32,108,101,102,116,32,114,105,103,104,116,32,117,112,32,100,111,119,110,32,102,49,32,102,50,32,102,51,32,102,52,32,102,53,32,102,54,32,102,55,32,102,56,32,102,57])),(.c (.int .u8 32))],om 1 0 1]) .ret))
def GC:Fn:=⟨⟨0,2,0,false,[.tmp 0],aD⟩,[],.one (.one .own (.sl (.one (.str))))⟩
theorem aJ:GC.A:=Bm ⟨Y7,trivial⟩
def JQ:Unit→List (List UInt8):=GC.V
def NB:Unit→Prop:=GC.O
theorem az:GC.B:=Bq ⟨YW,trivial⟩ (by kernel_rfl) (fun x=>by kernel_rfl)
def ZL:DCode:=(.seq [0] (.region [oa 0 2 (.mv (.c (.str [])))]) (.seq [0] (.seq [5,0] (.region [om 0 3 0,oF 1 4 BI [(.t 3),(.c (.int .i64 1)),(.c (.int .i64 56))],oa 2 5 (.un .not (.t 4))]) (.cond (.t 5) (.seq [2] (.region [oa 0 2 (.mv (.c (.str [])))]) .ret) .skip)) (.seq [2] (.region [oF 0 6 GC [],om 1 7 0,oa 2 8 (.bin .sub (.t 7) (.c (.int .i64 1))),oa 3 9 (.indexA 1 (.t 6) (.t 8)),ob 4 10 (.loadH none (.t 9)),om 5 2 10]) .ret)))
def Dp:Fn:=⟨⟨1,11,0,true,[.tmp 2],ZL⟩,[.one .frz (.int .i64)],.one (.one .own (.str))⟩
theorem Nw:Dp.A:=Bm ⟨Hg,aJ,trivial⟩
def E9:Int→List UInt8:=Dp.V
def Ir:Int→Prop:=Dp.O
theorem Nr:Dp.B:=Bq ⟨Hf,az,trivial⟩ (by kernel_rfl) (fun x=>by kernel_rfl)
def YK:DCode:=(.seq [0] (.region [oa 0 2 (.mv (.c (.str [])))]) (.seq [3,0] (.region [oa 0 3 (.mv (.c (.str [])))]) (.seq [3] (.seq [4,3,0] (.region [oi 0 4 0]) (.block 0 (.loop [0,3,4] 1 (.seq [4,3,0] (.seq [10,4,3,0] (.region [om 0 5 4,oa 1 6 (.bin .lss (.t 5) (.c (.int .i64 4))),om 2 7 6,og 3 8 (.mv (.t 0)) 7 true,⟨4,some 9,.call false BI.S BI.P BI.D [(.t 8),(.c (.int .i64 1)),(.c (.int .i64 15))],(some (7,true)),[]⟩,oa 5 10 (.pick (.t 7) (.t 9) (.c (.bool false)))]) (.cond (.t 10) .skip (.exit 0))) (.seq [4,3,0] (.block 1 (.seq [17,4,3,0] (.region [om 0 13 0,om 1 14 4,oa 2 15 (.bin .shr (.t 13) (.t 14)),oa 3 16 (.bin .and (.t 15) (.c (.int .i64 1))),oa 4 17 (.bin .eql (.t 16) (.c (.int .i64 1)))]) (.cond (.t 17) (.region [om 0 18 3,om 1 19 4,om 2 20 4,oa 3 21 (.bin .add (.t 20) (.c (.int .i64 1))),oa 4 22 (.substr (.c (.str [67,83,65,71])) (some (.t 19)) (some (.t 21))),oa 5 23 (.bin .add (.t 18) (.t 22)),om 6 3 23]) .skip))) (.region [om 0 11 4,oa 1 12 (.bin .add (.t 11) (.c (.int .i64 1))),om 2 4 12])))))) (.seq [2] (.region [om 0 24 3,om 1 2 24]) .ret))))
def D1:Fn:=⟨⟨1,25,0,true,[.tmp 2],YK⟩,[.one .frz (.int .i64)],.one (.one .own (.str))⟩
theorem PR:D1.A:=Bm ⟨Hg,trivial⟩
def DF:Int→List UInt8:=D1.V
def Il:Int→Prop:=D1.O
theorem PQ:D1.B:=Bq ⟨Hf,trivial⟩ (by kernel_rfl) (fun x=>by kernel_rfl)
def Z5:DCode:=(.seq [1,0] (.region [oa 0 4 (.mv (.c (.str [])))]) (.seq [5,1,0] (.region [⟨0,some 7,.a false (.litSlice 1 0 [] []) (some (.one (.int .u8))),none,[]⟩,om 1 5 7]) (.seq [5] (.seq [6,5,1,0] (.region [oi 0 6 0]) (.block 0 (.loop [0,1,5,6] 1 (.seq [6,5,1,0] (.seq [11,6,5,1,0] (.region [om 0 8 6,on 1 9 0,oa 2 10 (.len (.t 9)),oa 3 11 (.bin .lss (.t 8) (.t 10))]) (.cond (.t 11) .skip (.exit 0))) (.seq [6,5,1,0] (.block 1 (.seq [6,5,1,0] (.seq [15,6,5,1,0] (.region [om 0 14 6,oa 1 15 (.bin .gtr (.t 14) (.c (.int .i64 0)))]) (.cond (.t 15) (.region [om 0 16 5,om 1 17 1,oa 2 18 (.app 1 (.t 16) (.t 17)),om 3 5 18]) .skip)) (.region [om 0 19 5,on 1 20 0,om 2 21 6,oa 3 22 (.indexA 1 (.t 20) (.t 21)),oa 4 23 (.loadH none (.t 22)),oa 5 24 (.app 1 (.t 19) (.t 23)),om 6 5 24]))) (.region [om 0 12 6,oa 1 13 (.bin .add (.t 12) (.c (.int .i64 1))),om 2 6 13])))))) (.seq [4] (.region [on 0 25 5,oa 1 26 (.bstr (.t 25)),om 2 4 26]) .ret))))
def E7:Fn:=⟨⟨2,27,0,true,[.tmp 4],Z5⟩,[.one .frz (.sl (.one (.str))),.one .frz (.str)],.one (.one .own (.str))⟩
theorem Tu:E7.A:=Bm trivial
def Hc:List (List UInt8)×List UInt8→List UInt8:=E7.V
def Iq:List (List UInt8)×List UInt8→Prop:=E7.O
theorem Tw:E7.B:=Bq trivial (by kernel_rfl) (fun x=>by kernel_rfl)
def ZH:DCode:=(.seq [0] (.region [oa 0 2 (.mv (.c (.str [])))]) (.seq [0] (.seq [8,0] (.region [om 0 3 0,oa 1 4 (.bin .lss (.t 3) (.c (.int .i64 1))),om 2 5 4,og 3 6 (.mv (.t 0)) 5 false,og 4 7 (.bin .gtr (.t 6) (.c (.int .i64 56))) 5 false,oa 5 8 (.pick (.t 5) (.c (.bool true)) (.t 7))]) (.cond (.t 8) (.seq [2] (.region [oa 0 2 (.mv (.c (.str [])))]) .ret) .skip)) (.seq [2] (.region [oc 0 9 JM Li P4 [(.c (.str [97,32,98,32,99,32,100,32,101,32,102,32,103,32,104,32,105,32,106,32,107,32,108,32,109,32,110,32,111,32,112,32,113,32,114,32,115,32,116,32,117,32,118,32,119,32,120,32,121,32,122,32,49,32,50,32,51,32,52,32,53,32,54,32,55,32,56,32,57,32,48,32,101,110,116,101,114,32,101,115,99,32,98,97,99,107,32,116,97,98,32,115,112,97,99,101,32,109,105,110,117,115,32,101,113,117,97,108,32,108,101,102,116,32,114,105,103,104,116,32,117,112,32,100,111,119,110,32,102,49,32,102,50,32,102,51,32,102,52,32,102,53,32,102,54,32,102,55,32,102,56,32,102,57])),(.c (.str [32]))],om 1 10 0,oa 2 11 (.bin .sub (.t 10) (.c (.int .i64 1))),oa 3 12 (.indexA 1 (.t 9) (.t 11)),ob 4 13 (.loadH none (.t 12)),om 5 2 13]) .ret)))
def Dm:Fn:=⟨⟨1,14,0,true,[.tmp 2],ZH⟩,[.one .frz (.int .i64)],.one (.one .own (.str))⟩
theorem Nx:Dm.A:=Bm ⟨Zw,trivial⟩
def FK:Int→List UInt8:=Dm.V
def Is:Int→Prop:=Dm.O
theorem Ny:Dm.B:=Bq ⟨ZB,trivial⟩ (by kernel_rfl) (fun x=>by kernel_rfl)
def YH:DCode:=(.seq [0] (.region [oa 0 2 (.mv (.c (.str [])))]) (.seq [0] (.seq [11,0] (.region [om 0 6 0,oa 1 7 (.bin .lss (.t 6) (.c (.int .i64 1))),om 2 8 7,og 3 9 (.mv (.t 0)) 8 false,og 4 10 (.bin .gtr (.t 9) (.c (.int .i64 15))) 8 false,oa 5 11 (.pick (.t 8) (.c (.bool true)) (.t 10))]) (.cond (.t 11) (.seq [2] (.region [oa 0 2 (.mv (.c (.str [])))]) .ret) .skip)) (.seq [3,0] (.region [oa 0 3 (.mv (.c (.str [])))]) (.seq [3] (.seq [14,13,12,3,0] (.region [⟨0,some 12,.a false (.litSlice 1 4 [(.str []),(.str []),(.str []),(.str [])] [(0,1,(.c (.str [67]))),(1,1,(.c (.str [83]))),(2,1,(.c (.str [65]))),(3,1,(.c (.str [71])))]) (some (.one (.str))),none,[]⟩,oa 1 13 (.len (.t 12)),oi 2 14 0]) (.block 0 (.loop [0,3,12,13,14] 1 (.seq [15,14,13,12,3,0] (.region [oa 0 15 (.bin .lss (.t 14) (.t 13))]) (.seq [14,13,12,3,0] (.cond (.t 15) .skip (.exit 0)) (.seq [14,13,12,3,0] (.block 1 (.seq [14,13,12,5,4,3,0] (.region [om 0 16 14,oa 1 17 (.indexA 1 (.t 12) (.t 14)),oa 2 18 (.loadH none (.t 17)),om 3 4 16,om 4 5 18]) (.seq [22,14,13,12,5,3,0] (.region [om 0 19 0,om 1 20 4,oF 2 21 GH [(.t 19),(.t 20)],oa 3 22 (.bin .eql (.t 21) (.c (.int .i64 1)))]) (.cond (.t 22) (.region [om 0 23 3,om 1 24 5,oa 2 25 (.bin .add (.t 23) (.t 24)),om 3 3 25]) .skip)))) (.region [oa 0 26 (.bin .add (.t 14) (.c (.int .i64 1))),om 1 14 26]))))))) (.seq [2] (.region [om 0 27 3,om 1 2 27]) .ret)))))
def D2:Fn:=⟨⟨1,28,0,true,[.tmp 2],YH⟩,[.one .frz (.int .i64)],.one (.one .own (.str))⟩
theorem PT:D2.A:=Bm ⟨cd,trivial⟩
def Ey:Int→List UInt8:=D2.V
def Im:Int→Prop:=D2.O
theorem PU:D2.B:=Bq ⟨ct,trivial⟩ (by kernel_rfl) (fun x=>by kernel_rfl)
def ZI:DCode:=(.seq [1,0] (.region [oa 0 4 (.mv (.c (.str [])))]) (.seq [4] (.region [on 0 5 0,om 1 6 1,oc 2 7 Ln Ll TN [(.t 5),(.t 6)],om 3 4 7]) .ret))
def E6:Fn:=⟨⟨2,8,0,true,[.tmp 4],ZI⟩,[.one .frz (.sl (.one (.str))),.one .frz (.str)],.one (.one .own (.str))⟩
theorem Ts:E6.A:=Bm ⟨aE,trivial⟩
def It:List (List UInt8)×List UInt8→List UInt8:=E6.V
def JK:List (List UInt8)×List UInt8→Prop:=E6.O
theorem Tz:E6.B:=Bq ⟨aA,trivial⟩ (by kernel_rfl) (fun x=>by kernel_rfl)
end
section
set_option maxRecDepth 100000
def K7(x:List UInt8×Int)(x0:((List (List UInt8))×(Int×Int))):Bool:=(iLe x0.2.2 (lLen x.1))
def Nf(x:List UInt8×Int)(x0:((List (List UInt8))×(Int×Int))):((List (List UInt8))×(Int×Int)):=((bSel (bOr (iEq x0.2.2 (lLen x.1)) (iEq (sGet x.1 x0.2.2) x.2)) (lApp x0.1 [(lSub x.1 (iNat x0.2.1) (iNat x0.2.2))]) x0.1),(bSel (bOr (iEq x0.2.2 (lLen x.1)) (iEq (sGet x.1 x0.2.2) x.2)) (iAdd .i64 x0.2.2 1) x0.2.1),(iAdd .i64 x0.2.2 1))
def PO(x:List UInt8×Int)(x0:((List (List UInt8))×(Int×Int))):Prop:=(((iLe x0.2.2 (lLen x.1))=true→((((iEq x0.2.2 (lLen x.1))=true→True)∧((iEq x0.2.2 (lLen x.1))=false→(((0:Int)≤x0.2.2)∧(x0.2.2<(((List.length x.1):Int))))))∧(((bOr (iEq x0.2.2 (lLen x.1)) (iEq (sGet x.1 x0.2.2) x.2))=true→(((((0:Int)≤x0.2.1)∧((0:Int)≤x0.2.2))∧(((iNat x0.2.1)≤(iNat x0.2.2))∧((iNat x0.2.2)≤(List.length x.1))))∧(AY (((List.length x0.1)+(List.length [(lSub x.1 (iNat x0.2.1) (iNat x0.2.2))]))*1))))∧((bOr (iEq x0.2.2 (lLen x.1)) (iEq (sGet x.1 x0.2.2) x.2))=false→True))))∧((iLe x0.2.2 (lLen x.1))=false→True))
theorem Zm (x):Nt x=(Ar (K7 x) (Nf x) ([],0,0)).1:=(Gs.v x).trans (by kernel_rfl)
theorem Y0 (x):Nl x=(LoopOk (K7 x) (Nf x) (PO x) ([],0,0)):=(Gs.o x).trans (by kernel_rfl)
theorem aC (x):JQ x=(Nt ([(97:UInt8),32,98,32,99,32,100,32,101,32,102,32,103,32,104,32,105,32,106,32,107,32,108,32,109,32,110,32,111,32,112,32,113,32,114,32,115,32,116,32,117,32,118,32,119,32,120,32,121,32,122,32,49,32,50,32,51,32,52,32,53,32,54,32,55,32,56,32,57,32,48,32,101,110,116,101,114,32,101,115,99,32,98,97,99,107,32,116,97,98,32,115,112,97,99,101,32,109,105,110,117,115,32,101,113,117,97,108,32,108,101,102,116,32,114,105,103,104,116,32,117,112,32,100,111,119,110,32,102,49,32,102,50,32,102,51,32,102,52,32,102,53,32,102,54,32,102,55,32,102,56,32,102,57],32)):=(GC.v x).trans (by kernel_rfl)
theorem aG (x):NB x=(Nl ([(97:UInt8),32,98,32,99,32,100,32,101,32,102,32,103,32,104,32,105,32,106,32,107,32,108,32,109,32,110,32,111,32,112,32,113,32,114,32,115,32,116,32,117,32,118,32,119,32,120,32,121,32,122,32,49,32,50,32,51,32,52,32,53,32,54,32,55,32,56,32,57,32,48,32,101,110,116,101,114,32,101,115,99,32,98,97,99,107,32,116,97,98,32,115,112,97,99,101,32,109,105,110,117,115,32,101,113,117,97,108,32,108,101,102,116,32,114,105,103,104,116,32,117,112,32,100,111,119,110,32,102,49,32,102,50,32,102,51,32,102,52,32,102,53,32,102,54,32,102,55,32,102,56,32,102,57],32)):=(GC.o x).trans (by kernel_rfl)
theorem aq (x):E9 x=(bSel (bNot (BM (x,1,56))) [] (lGet (JQ PUnit.unit) (iNat (iSub .i64 x 1)) [])):=(Dp.v x).trans (by kernel_rfl)
theorem Zx (x):Ir x=((EA (x,1,56))∧(((bNot (BM (x,1,56)))=true→True)∧((bNot (BM (x,1,56)))=false→((NB PUnit.unit)∧((((0:Int)≤(iSub .i64 x 1))∧((iSub .i64 x 1)<(((List.length (JQ PUnit.unit)):Int))))∧((iNat (iSub .i64 x 1))<(List.length (JQ PUnit.unit)))))))):=(Dp.o x).trans (by kernel_rfl)
def Ij(x:Int)(x0:((List UInt8)×Int)):Bool:=(bAnd (iLt x0.2 4) (BM (x,1,15)))
def K6(x:Int)(x0:((List UInt8)×Int)):((List UInt8)×Int):=((bSel (iEq (iAnd .i64 (iShr .i64 x x0.2) 1) 1) (sAdd x0.1 (lSub [(67:UInt8),83,65,71] (iNat x0.2) (iNat (iAdd .i64 x0.2 1)))) x0.1),(iAdd .i64 x0.2 1))
def JC(x:Int)(x0:((List UInt8)×Int)):Prop:=((((iLt x0.2 4)=true→(EA (x,1,15)))∧((iLt x0.2 4)=false→True))∧(((bAnd (iLt x0.2 4) (BM (x,1,15)))=true→(((0:Int)≤x0.2)∧(((iEq (iAnd .i64 (iShr .i64 x x0.2) 1) 1)=true→(((((0:Int)≤x0.2)∧((0:Int)≤(iAdd .i64 x0.2 1)))∧(((iNat x0.2)≤(iNat (iAdd .i64 x0.2 1)))∧((iNat (iAdd .i64 x0.2 1))≤(List.length [(67:UInt8),83,65,71]))))∧(((List.length x0.1)+(List.length (lSub [(67:UInt8),83,65,71] (iNat x0.2) (iNat (iAdd .i64 x0.2 1)))))≤9223372036854775807)))∧((iEq (iAnd .i64 (iShr .i64 x x0.2) 1) 1)=false→True))))∧((bAnd (iLt x0.2 4) (BM (x,1,15)))=false→True)))
theorem YE (x):DF x=(Ar (Ij x) (K6 x) ([],0)).1:=(D1.v x).trans (by kernel_rfl)
theorem YG (x):Il x=(LoopOk (Ij x) (K6 x) (JC x) ([],0)):=(D1.o x).trans (by kernel_rfl)
def K9(x:List (List UInt8)×List UInt8)(x0:((List Int)×Int)):Bool:=(iLt x0.2 (lLen x.1))
def Nj(x:List (List UInt8)×List UInt8)(x0:((List Int)×Int)):((List Int)×Int):=((lApp (bSel (iGt x0.2 0) (lApp x0.1 (sRow x.2)) x0.1) (sRow (lGet x.1 (iNat x0.2) []))),(iAdd .i64 x0.2 1))
def Ni(x:List (List UInt8)×List UInt8)(x0:((List Int)×Int)):Prop:=(((iLt x0.2 (lLen x.1))=true→((((iGt x0.2 0)=true→(AY (((List.length x0.1)+(List.length (sRow x.2)))*1)))∧((iGt x0.2 0)=false→True))∧((((0:Int)≤x0.2)∧(x0.2<(((List.length x.1):Int))))∧(((iNat x0.2)<(List.length x.1))∧(AY (((List.length (bSel (iGt x0.2 0) (lApp x0.1 (sRow x.2)) x0.1))+(List.length (sRow (lGet x.1 (iNat x0.2) []))))*1))))))∧((iLt x0.2 (lLen x.1))=false→True))
theorem ZQ (x):Hc x=(rowS (Ar (K9 x) (Nj x) ([],0)).1):=(E7.v x).trans (by kernel_rfl)
theorem ZW (x):Iq x=(LoopOk (K9 x) (Nj x) (Ni x) ([],0)):=(E7.o x).trans (by kernel_rfl)
theorem Z3 (x):FK x=(bSel (bOr (iLt x 1) (iGt x 56)) [] (lGet (Hb ([(97:UInt8),32,98,32,99,32,100,32,101,32,102,32,103,32,104,32,105,32,106,32,107,32,108,32,109,32,110,32,111,32,112,32,113,32,114,32,115,32,116,32,117,32,118,32,119,32,120,32,121,32,122,32,49,32,50,32,51,32,52,32,53,32,54,32,55,32,56,32,57,32,48,32,101,110,116,101,114,32,101,115,99,32,98,97,99,107,32,116,97,98,32,115,112,97,99,101,32,109,105,110,117,115,32,101,113,117,97,108,32,108,101,102,116,32,114,105,103,104,116,32,117,112,32,100,111,119,110,32,102,49,32,102,50,32,102,51,32,102,52,32,102,53,32,102,54,32,102,55,32,102,56,32,102,57],[(32:UInt8)])) (iNat (iSub .i64 x 1)) [])):=(Dm.v x).trans (by kernel_rfl)
theorem Z6 (x):Is x=(((bOr (iLt x 1) (iGt x 56))=true→True)∧((bOr (iLt x 1) (iGt x 56))=false→((Ip ([(97:UInt8),32,98,32,99,32,100,32,101,32,102,32,103,32,104,32,105,32,106,32,107,32,108,32,109,32,110,32,111,32,112,32,113,32,114,32,115,32,116,32,117,32,118,32,119,32,120,32,121,32,122,32,49,32,50,32,51,32,52,32,53,32,54,32,55,32,56,32,57,32,48,32,101,110,116,101,114,32,101,115,99,32,98,97,99,107,32,116,97,98,32,115,112,97,99,101,32,109,105,110,117,115,32,101,113,117,97,108,32,108,101,102,116,32,114,105,103,104,116,32,117,112,32,100,111,119,110,32,102,49,32,102,50,32,102,51,32,102,52,32,102,53,32,102,54,32,102,55,32,102,56,32,102,57],[(32:UInt8)]))∧((((0:Int)≤(iSub .i64 x 1))∧((iSub .i64 x 1)<(((List.length (Hb ([(97:UInt8),32,98,32,99,32,100,32,101,32,102,32,103,32,104,32,105,32,106,32,107,32,108,32,109,32,110,32,111,32,112,32,113,32,114,32,115,32,116,32,117,32,118,32,119,32,120,32,121,32,122,32,49,32,50,32,51,32,52,32,53,32,54,32,55,32,56,32,57,32,48,32,101,110,116,101,114,32,101,115,99,32,98,97,99,107,32,116,97,98,32,115,112,97,99,101,32,109,105,110,117,115,32,101,113,117,97,108,32,108,101,102,116,32,114,105,103,104,116,32,117,112,32,100,111,119,110,32,102,49,32,102,50,32,102,51,32,102,52,32,102,53,32,102,54,32,102,55,32,102,56,32,102,57],[(32:UInt8)]))):Int))))∧((iNat (iSub .i64 x 1))<(List.length (Hb ([(97:UInt8),32,98,32,99,32,100,32,101,32,102,32,103,32,104,32,105,32,106,32,107,32,108,32,109,32,110,32,111,32,112,32,113,32,114,32,115,32,116,32,117,32,118,32,119,32,120,32,121,32,122,32,49,32,50,32,51,32,52,32,53,32,54,32,55,32,56,32,57,32,48,32,101,110,116,101,114,32,101,115,99,32,98,97,99,107,32,116,97,98,32,115,112,97,99,101,32,109,105,110,117,115,32,101,113,117,97,108,32,108,101,102,116,32,114,105,103,104,116,32,117,112,32,100,111,119,110,32,102,49,32,102,50,32,102,51,32,102,52,32,102,53,32,102,54,32,102,55,32,102,56,32,102,57],[(32:UInt8)])))))))):=(Dm.o x).trans (by kernel_rfl)
def K5(x0:((List UInt8)×Int)):Bool:=(iLt x0.2 (lLen [[(67:UInt8)],[(83:UInt8)],[(65:UInt8)],[(71:UInt8)]]))
def Nb(x:Int)(x0:((List UInt8)×Int)):((List UInt8)×Int):=((bSel (iEq (Lx (x,x0.2)) 1) (sAdd x0.1 (lGet [[(67:UInt8)],[(83:UInt8)],[(65:UInt8)],[(71:UInt8)]] (iNat x0.2) [])) x0.1),(iAdd .i64 x0.2 1))
def Nc(x:Int)(x0:((List UInt8)×Int)):Prop:=(((iLt x0.2 (lLen [[(67:UInt8)],[(83:UInt8)],[(65:UInt8)],[(71:UInt8)]]))=true→((((0:Int)≤x0.2)∧(x0.2<(((List.length [[(67:UInt8)],[(83:UInt8)],[(65:UInt8)],[(71:UInt8)]]):Int))))∧(((iNat x0.2)<(List.length [[(67:UInt8)],[(83:UInt8)],[(65:UInt8)],[(71:UInt8)]]))∧((Qj (x,x0.2))∧(((iEq (Lx (x,x0.2)) 1)=true→(((List.length x0.1)+(List.length (lGet [[(67:UInt8)],[(83:UInt8)],[(65:UInt8)],[(71:UInt8)]] (iNat x0.2) [])))≤9223372036854775807))∧((iEq (Lx (x,x0.2)) 1)=false→True))))))∧((iLt x0.2 (lLen [[(67:UInt8)],[(83:UInt8)],[(65:UInt8)],[(71:UInt8)]]))=false→True))
theorem YD (x):Ey x=(bSel (bOr (iLt x 1) (iGt x 15)) [] (Ar K5 (Nb x) ([],0)).1):=(D2.v x).trans (by kernel_rfl)
theorem YO (x):Im x=(((bOr (iLt x 1) (iGt x 15))=true→True)∧((bOr (iLt x 1) (iGt x 15))=false→(LoopOk K5 (Nb x) (Nc x) ([],0)))):=(D2.o x).trans (by kernel_rfl)
theorem Tt (x):It x=(JS x):=(E6.v x).trans (by kernel_rfl)
theorem Tv (x):JK x=(JO x):=(E6.o x).trans (by kernel_rfl)
attribute [irreducible] Nt Nl JQ NB E9 Ir DF Il Hc Iq FK Is Ey Im It JK
end
section
set_option maxRecDepth 8000
def YS:DCode:=(.seq [0] (.region [oa 0 2 (.mv (.c (.str [])))]) (.seq [0] (.seq [7,0] (.region [om 0 6 0,oa 1 7 (.bin .eql (.t 6) (.c (.int .i64 0)))]) (.cond (.t 7) (.seq [2] (.region [oa 0 2 (.mv (.c (.str [48])))]) .ret) .skip)) (.seq [3,0] (.region [oa 0 3 (.mv (.c (.str [])))]) (.seq [3,0] (.seq [4,3,0] (.region [om 0 8 0,om 1 4 8]) (.block 0 (.loop [0,3,4] 1 (.seq [4,3,0] (.seq [10,4,3,0] (.region [om 0 9 4,oa 1 10 (.bin .neq (.t 9) (.c (.int .i64 0)))]) (.cond (.t 10) .skip (.exit 0))) (.seq [4,3,0] (.block 1 (.seq [5,4,3,0] (.region [om 0 13 4,oa 1 14 (.bin .rem (.t 13) (.c (.int .i64 10))),om 2 5 14]) (.seq [5,4,3,0] (.seq [16,5,4,3,0] (.region [om 0 15 5,oa 1 16 (.bin .lss (.t 15) (.c (.int .i64 0)))]) (.cond (.t 16) (.region [om 0 17 5,oa 1 18 (.un .neg (.t 17)),om 2 5 18]) .skip)) (.region [om 0 19 5,oa 1 20 (.bin .add (.c (.int .i64 48)) (.t 19)),oa 2 21 (.conv .u8 (.t 20)),⟨3,some 22,.a false (.litSlice 1 1 [(.int .u8 0)] [(0,1,(.t 21))]) (some (.one (.int .u8))),none,[]⟩,oa 4 23 (.bstr (.t 22)),om 5 24 3,oa 6 25 (.bin .add (.t 23) (.t 24)),om 7 3 25])))) (.region [om 0 11 4,oa 1 12 (.bin .quo (.t 11) (.c (.int .i64 10))),om 2 4 12])))))) (.seq [3] (.seq [27,3] (.region [om 0 26 0,oa 1 27 (.bin .lss (.t 26) (.c (.int .i64 0)))]) (.cond (.t 27) (.seq [2] (.region [om 0 28 3,oa 1 29 (.bin .add (.c (.str [45])) (.t 28)),om 2 2 29]) .ret) .skip)) (.seq [2] (.region [om 0 30 3,om 1 2 30]) .ret))))))
def CP:Fn:=⟨⟨1,31,0,true,[.tmp 2],YS⟩,[.one .frz (.int .i64)],.one (.one .own (.str))⟩
theorem Le:CP.A:=Bm trivial
def CO:Int→List UInt8:=CP.V
def Gm:Int→Prop:=CP.O
theorem Lc:CP.B:=Bq trivial (by kernel_rfl) (fun x=>by kernel_rfl)
def Yp:DCode:=(.seq [1] (.region [oa 0 1 (.boxB 0 4 (.t 0)),oa 1 2 (.mv (.c (.str [])))]) (.seq [1] (.seq [5,1] (.region [oa 0 3 (.loadB 0 (some 4) (.t 1)),oF 1 4 Fa [(.t 3)],oa 2 5 (.un .not (.t 4))]) (.cond (.t 5) (.seq [2] (.region [oa 0 2 (.mv (.c (.str [])))]) .ret) .skip)) (.seq [1] (.seq [7,1] (.region [oa 0 6 (.fieldA 0 (.t 1)),oa 1 7 (.loadB 0 none (.t 6))]) (.block 0 (.seq [8,7,1] (.region [oa 0 9 (.bin .eql (.t 7) (.c (.int .i64 0))),om 1 8 9]) (.cond (.t 8) (.seq [2] (.region [oa 0 2 (.mv (.c (.str [110,111,110,101])))]) .ret) (.seq [10,7,1] (.region [oa 0 11 (.bin .eql (.t 7) (.c (.int .i64 1))),om 1 10 11]) (.cond (.t 10) (.seq [2] (.region [oa 0 2 (.mv (.c (.str [112,97,115,115])))]) .ret) (.seq [12,7,1] (.region [oa 0 13 (.bin .eql (.t 7) (.c (.int .i64 3))),om 1 12 13]) (.cond (.t 12) (.seq [2] (.region [oa 0 14 (.fieldA 3 (.t 1)),oa 1 15 (.loadB 0 none (.t 14)),oF 2 16 CP [(.t 15)],oa 3 17 (.bin .add (.c (.str [109,111,58])) (.t 16)),om 4 2 17]) .ret) (.seq [18,7,1] (.region [oa 0 19 (.bin .eql (.t 7) (.c (.int .i64 4))),om 1 18 19]) (.cond (.t 18) (.seq [2] (.region [oa 0 20 (.fieldA 3 (.t 1)),oa 1 21 (.loadB 0 none (.t 20)),oF 2 22 CP [(.t 21)],oa 3 23 (.bin .add (.c (.str [116,103,58])) (.t 22)),om 4 2 23]) .ret) (.seq [24,7,1] (.region [oa 0 25 (.bin .eql (.t 7) (.c (.int .i64 5))),om 1 24 25]) (.cond (.t 24) (.seq [2] (.region [oa 0 26 (.fieldA 3 (.t 1)),oa 1 27 (.loadB 0 none (.t 26)),oF 2 28 CP [(.t 27)],oa 3 29 (.bin .add (.c (.str [116,111,58])) (.t 28)),om 4 2 29]) .ret) (.seq [30,7,1] (.region [oa 0 31 (.bin .eql (.t 7) (.c (.int .i64 6))),om 1 30 31]) (.cond (.t 30) (.seq [2] (.region [oa 0 32 (.fieldA 2 (.t 1)),xA 1 33 (.loadB 0 none (.t 32)) (rg 1),oa 4 36 (.fieldA 1 (.t 1)),xA 5 37 (.loadB 0 none (.t 36)) [4],xF 2 34 D1 [(.t 33)] (rg 2),xA 3 35 (.bin .add (.t 34) (.c (.str [47]))) (rg 3),xF 6 38 Dp [(.t 37)] [0,1,2,4,5],xA 7 39 (.bin .add (.t 35) (.t 38)) (rg 7),xA 8 2 (.mv (.t 39)) (rg 8)]) .ret) (.seq [40,7,1] (.region [oa 0 41 (.bin .eql (.t 7) (.c (.int .i64 7))),om 1 40 41]) (.cond (.t 40) (.seq [2] (.region [oa 0 42 (.fieldA 3 (.t 1)),xA 1 43 (.loadB 0 none (.t 42)) (rg 1),oa 4 46 (.fieldA 1 (.t 1)),xA 5 47 (.loadB 0 none (.t 46)) [4],xF 2 44 CP [(.t 43)] (rg 2),xA 3 45 (.bin .add (.t 44) (.c (.str [47]))) (rg 3),xF 6 48 Dp [(.t 47)] [0,1,2,4,5],xA 7 49 (.bin .add (.t 45) (.t 48)) (rg 7),xA 8 2 (.mv (.t 49)) (rg 8)]) .ret) (.seq [50,7,1] (.region [oa 0 51 (.bin .eql (.t 7) (.c (.int .i64 8))),om 1 50 51]) (.cond (.t 50) (.seq [2] (.region [oa 0 52 (.fieldA 2 (.t 1)),oa 1 53 (.loadB 0 none (.t 52)),oF 2 54 D1 [(.t 53)],oa 3 55 (.bin .add (.c (.str [111,110,99,101,58])) (.t 54)),om 4 2 55]) .ret) (.seq [56,7,1] (.region [oa 0 57 (.bin .eql (.t 7) (.c (.int .i64 9))),om 1 56 57]) (.cond (.t 56) (.seq [2] (.region [oa 0 58 (.fieldA 3 (.t 1)),oa 1 59 (.loadB 0 none (.t 58)),oF 2 60 CP [(.t 59)],oa 3 61 (.bin .add (.c (.str [109,97,99,114,111,58])) (.t 60)),om 4 2 61]) .ret) (.seq [62,1] (.region [oa 0 63 (.bin .eql (.t 7) (.c (.int .i64 10))),om 1 62 63]) (.cond (.t 62) (.seq [2] (.region [oa 0 2 (.mv (.c (.str [99,97,112,115])))]) .ret) .skip)))))))))))))))))))))) (.seq [1] (.seq [66,1] (.region [oa 0 64 (.fieldA 2 (.t 1)),oa 1 65 (.loadB 0 none (.t 64)),oa 2 66 (.bin .eql (.t 65) (.c (.int .i64 0)))]) (.cond (.t 66) (.seq [2] (.region [oa 0 67 (.fieldA 1 (.t 1)),oa 1 68 (.loadB 0 none (.t 67)),oF 2 69 Dp [(.t 68)],om 3 2 69]) .ret) .skip)) (.seq [2] (.region [oa 0 70 (.fieldA 2 (.t 1)),xA 1 71 (.loadB 0 none (.t 70)) (rg 1),oa 4 74 (.fieldA 1 (.t 1)),xA 5 75 (.loadB 0 none (.t 74)) [4],xF 2 72 D1 [(.t 71)] (rg 2),xA 3 73 (.bin .add (.t 72) (.c (.str [45]))) (rg 3),xF 6 76 Dp [(.t 75)] [0,1,2,4,5],xA 7 77 (.bin .add (.t 73) (.t 76)) (rg 7),xA 8 2 (.mv (.t 77)) (rg 8)]) .ret)))))
def Gk:Fn:=⟨⟨1,78,1,true,[.tmp 2],Yp⟩,[.agg [(.frz,.int .i64),(.frz,.int .i64),(.frz,.int .i64),(.frz,.int .i64)]],.one (.one .own (.str))⟩
theorem Yc:Gk.A:=Bm ⟨Tp,Le,Le,Le,PR,Nw,Le,Nw,PR,Le,Nw,PR,Nw,trivial⟩
def CF:Int×Int×Int×Int→List UInt8:=Gk.V
def Na:Int×Int×Int×Int→Prop:=Gk.O
theorem Yf:Gk.B:=Bq ⟨Tl,Lc,Lc,Lc,PQ,Nr,Lc,Nr,PQ,Lc,Nr,PQ,Nr,trivial⟩ (by kernel_rfl) (fun x=>by kernel_rfl)
def Y5:DCode:=(.seq [0] (.region [oa 0 2 (.mv (.c (.str [])))]) (.seq [2] (.region [om 0 3 0,oc 1 4 Lk Lm TO [(.t 3)],om 2 2 4]) .ret))
def E3:Fn:=⟨⟨1,5,0,true,[.tmp 2],Y5⟩,[.one .frz (.int .i64)],.one (.one .own (.str))⟩
theorem Ti:E3.A:=Bm ⟨aK,trivial⟩
def FJ:Int→List UInt8:=E3.V
def Io:Int→Prop:=E3.O
theorem Tj:E3.B:=Bq ⟨aN,trivial⟩ (by kernel_rfl) (fun x=>by kernel_rfl)
def bh:DCode:=(.seq [0] (.region [oa 0 2 (.mv (.c (.str [])))]) (.seq [] (.seq [3] (.region [om 0 3 0]) (.block 0 (.seq [4,3] (.region [oa 0 5 (.bin .eql (.t 3) (.c (.int .i64 3))),om 1 4 5]) (.cond (.t 4) (.seq [2] (.region [oa 0 2 (.mv (.c (.str [109,111,58])))]) .ret) (.seq [6,3] (.region [oa 0 7 (.bin .eql (.t 3) (.c (.int .i64 4))),om 1 6 7]) (.cond (.t 6) (.seq [2] (.region [oa 0 2 (.mv (.c (.str [116,103,58])))]) .ret) (.seq [8,3] (.region [oa 0 9 (.bin .eql (.t 3) (.c (.int .i64 5))),om 1 8 9]) (.cond (.t 8) (.seq [2] (.region [oa 0 2 (.mv (.c (.str [116,111,58])))]) .ret) (.seq [10] (.region [oa 0 11 (.bin .eql (.t 3) (.c (.int .i64 9))),om 1 10 11]) (.cond (.t 10) (.seq [2] (.region [oa 0 2 (.mv (.c (.str [109,97,99,114,111,58])))]) .ret) .skip)))))))))) (.seq [2] (.region [oa 0 2 (.mv (.c (.str [])))]) .ret)))
def GD:Fn:=⟨⟨1,12,0,true,[.tmp 2],bh⟩,[.one .frz (.int .i64)],.one (.one .own (.str))⟩
theorem aW:GD.A:=Bm trivial
def NJ:Int→List UInt8:=GD.V
def P8:Int→Prop:=GD.O
theorem aZ:GD.B:=Bq trivial (by kernel_rfl) (fun x=>by kernel_rfl)
def Ym:DCode:=(.seq [1] (.region [oa 0 1 (.boxB 0 4 (.t 0)),oa 1 2 (.mv (.c (.str [])))]) (.seq [1] (.seq [5,1] (.region [oa 0 3 (.loadB 0 (some 4) (.t 1)),oF 1 4 E4 [(.t 3)],oa 2 5 (.un .not (.t 4))]) (.cond (.t 5) (.seq [2] (.region [oa 0 2 (.mv (.c (.str [])))]) .ret) .skip)) (.seq [1] (.seq [7,1] (.region [oa 0 6 (.fieldA 0 (.t 1)),oa 1 7 (.loadB 0 none (.t 6))]) (.block 0 (.seq [8,7,1] (.region [oa 0 9 (.bin .eql (.t 7) (.c (.int .i64 0))),om 1 8 9]) (.cond (.t 8) (.seq [2] (.region [oa 0 2 (.mv (.c (.str [110,111,110,101])))]) .ret) (.seq [10,7,1] (.region [oa 0 11 (.bin .eql (.t 7) (.c (.int .i64 1))),om 1 10 11]) (.cond (.t 10) (.seq [2] (.region [oa 0 2 (.mv (.c (.str [112,97,115,115])))]) .ret) (.seq [12,7,1] (.region [oa 0 13 (.bin .eql (.t 7) (.c (.int .i64 10))),om 1 12 13]) (.cond (.t 12) (.seq [2] (.region [oa 0 2 (.mv (.c (.str [99,97,112,115])))]) .ret) (.seq [14,7,1] (.region [oa 0 15 (.bin .eql (.t 7) (.c (.int .i64 2))),om 1 14 15]) (.cond (.t 14) (.seq [1] (.seq [18,1] (.region [oa 0 16 (.fieldA 2 (.t 1)),oa 1 17 (.loadB 0 none (.t 16)),oa 2 18 (.bin .neq (.t 17) (.c (.int .i64 0)))]) (.cond (.t 18) (.seq [2] (.region [oa 0 19 (.fieldA 2 (.t 1)),xA 1 20 (.loadB 0 none (.t 19)) (rg 1),oa 4 23 (.fieldA 1 (.t 1)),xA 5 24 (.loadB 0 none (.t 23)) [4],xF 2 21 D2 [(.t 20)] (rg 2),xA 3 22 (.bin .add (.t 21) (.c (.str [45]))) (rg 3),xF 6 25 Dm [(.t 24)] [0,1,2,4,5],xA 7 26 (.bin .add (.t 22) (.t 25)) (rg 7),xA 8 2 (.mv (.t 26)) (rg 8)]) .ret) .skip)) (.seq [2] (.region [oa 0 27 (.fieldA 1 (.t 1)),oa 1 28 (.loadB 0 none (.t 27)),oF 2 29 Dm [(.t 28)],om 3 2 29]) .ret)) (.seq [30,7,1] (.region [oa 0 31 (.bin .eql (.t 7) (.c (.int .i64 6))),om 1 30 31]) (.cond (.t 30) (.seq [2] (.region [oa 0 32 (.fieldA 2 (.t 1)),xA 1 33 (.loadB 0 none (.t 32)) (rg 1),oa 4 36 (.fieldA 1 (.t 1)),xA 5 37 (.loadB 0 none (.t 36)) [4],xF 2 34 D2 [(.t 33)] (rg 2),xA 3 35 (.bin .add (.t 34) (.c (.str [47]))) (rg 3),xF 6 38 Dm [(.t 37)] [0,1,2,4,5],xA 7 39 (.bin .add (.t 35) (.t 38)) (rg 7),xA 8 2 (.mv (.t 39)) (rg 8)]) .ret) (.seq [40,7,1] (.region [oa 0 41 (.bin .eql (.t 7) (.c (.int .i64 7))),om 1 40 41]) (.cond (.t 40) (.seq [2] (.region [oa 0 42 (.fieldA 3 (.t 1)),xA 1 43 (.loadB 0 none (.t 42)) (rg 1),oa 4 46 (.fieldA 1 (.t 1)),xA 5 47 (.loadB 0 none (.t 46)) [4],xF 2 44 E3 [(.t 43)] (rg 2),xA 3 45 (.bin .add (.t 44) (.c (.str [47]))) (rg 3),xF 6 48 Dm [(.t 47)] [0,1,2,4,5],xA 7 49 (.bin .add (.t 45) (.t 48)) (rg 7),xA 8 2 (.mv (.t 49)) (rg 8)]) .ret) (.seq [50,1] (.region [oa 0 51 (.bin .eql (.t 7) (.c (.int .i64 8))),om 1 50 51]) (.cond (.t 50) (.seq [2] (.region [oa 0 52 (.fieldA 2 (.t 1)),oa 1 53 (.loadB 0 none (.t 52)),oF 2 54 D2 [(.t 53)],oa 3 55 (.bin .add (.c (.str [111,110,99,101,58])) (.t 54)),om 4 2 55]) .ret) .skip)))))))))))))))) (.seq [2] (.region [oa 0 56 (.fieldA 0 (.t 1)),xA 1 57 (.loadB 0 none (.t 56)) (rg 1),oa 3 59 (.fieldA 3 (.t 1)),xA 4 60 (.loadB 0 none (.t 59)) [3],xF 2 58 GD [(.t 57)] (rg 2),xF 5 61 E3 [(.t 60)] (rg 5),xA 6 62 (.bin .add (.t 58) (.t 61)) (rg 6),xA 7 2 (.mv (.t 62)) (rg 7)]) .ret))))
def Gi:Fn:=⟨⟨1,63,1,true,[.tmp 2],Ym⟩,[.agg [(.frz,.int .i64),(.frz,.int .i64),(.frz,.int .i64),(.frz,.int .i64)]],.one (.one .own (.str))⟩
theorem Yl:Gi.A:=Bm ⟨Tm,PT,Nx,Nx,PT,Nx,Ti,Nx,PT,aW,Ti,trivial⟩
def K8:Int×Int×Int×Int→List UInt8:=Gi.V
def M8:Int×Int×Int×Int→Prop:=Gi.O
theorem X9:Gi.B:=Bq ⟨Tn,PU,Ny,Ny,PU,Ny,Tj,Ny,PU,aZ,Tj,trivial⟩ (by kernel_rfl) (fun x=>by kernel_rfl)
end
section
set_option maxRecDepth 100000
def Ik(x0:((List UInt8)×Int)):Bool:=(iNe x0.2 0)
def JF(x0:((List UInt8)×Int)):((List UInt8)×Int):=((sAdd (rowS [(iConv .u8 (iAdd .i64 48 (bSel (iLt (iRem x0.2 10) 0) (iNeg .i64 (iRem x0.2 10)) (iRem x0.2 10))))]) x0.1),(iQuo .i64 x0.2 10))
def Nd(x0:((List UInt8)×Int)):Prop:=(((iNe x0.2 0)=true→(((10:Int)≠0)∧((((List.length (rowS [(iConv .u8 (iAdd .i64 48 (bSel (iLt (iRem x0.2 10) 0) (iNeg .i64 (iRem x0.2 10)) (iRem x0.2 10))))]))+(List.length x0.1))≤9223372036854775807)∧((10:Int)≠0))))∧((iNe x0.2 0)=false→True))
theorem YU (x):CO x=(bSel (iEq x 0) [(48:UInt8)] (bSel (iLt x 0) (sAdd [(45:UInt8)] (Ar Ik JF ([],x)).1) (Ar Ik JF ([],x)).1)):=(CP.v x).trans (by kernel_rfl)
theorem YZ (x):Gm x=(((iEq x 0)=true→True)∧((iEq x 0)=false→((LoopOk Ik JF Nd ([],x))∧(((iLt x 0)=true→(((List.length [(45:UInt8)])+(List.length (Ar Ik JF ([],x)).1))≤9223372036854775807))∧((iLt x 0)=false→True))))):=(CP.o x).trans (by kernel_rfl)
theorem Ys (x):CF x=(bSel (bNot (D4 x)) [] (bSel (iEq x.1 0) [(110:UInt8),111,110,101] (bSel (iEq x.1 1) [(112:UInt8),97,115,115] (bSel (iEq x.1 3) (sAdd [(109:UInt8),111,58] (CO x.2.2.2)) (bSel (iEq x.1 4) (sAdd [(116:UInt8),103,58] (CO x.2.2.2)) (bSel (iEq x.1 5) (sAdd [(116:UInt8),111,58] (CO x.2.2.2)) (bSel (iEq x.1 6) (sAdd (sAdd (DF x.2.2.1) [(47:UInt8)]) (E9 x.2.1)) (bSel (iEq x.1 7) (sAdd (sAdd (CO x.2.2.2) [(47:UInt8)]) (E9 x.2.1)) (bSel (iEq x.1 8) (sAdd [(111:UInt8),110,99,101,58] (DF x.2.2.1)) (bSel (iEq x.1 9) (sAdd [(109:UInt8),97,99,114,111,58] (CO x.2.2.2)) (bSel (iEq x.1 10) [(99:UInt8),97,112,115] (bSel (iEq x.2.2.1 0) (E9 x.2.1) (sAdd (sAdd (DF x.2.2.1) [(45:UInt8)]) (E9 x.2.1)))))))))))))):=(Gk.v x).trans (by kernel_rfl)
theorem Yj (x):Na x=((JI x)∧(((bNot (D4 x))=true→True)∧((bNot (D4 x))=false→(((iEq x.1 0)=true→True)∧((iEq x.1 0)=false→(((iEq x.1 1)=true→True)∧((iEq x.1 1)=false→(((iEq x.1 3)=true→((Gm x.2.2.2)∧(((List.length [(109:UInt8),111,58])+(List.length (CO x.2.2.2)))≤9223372036854775807)))∧((iEq x.1 3)=false→(((iEq x.1 4)=true→((Gm x.2.2.2)∧(((List.length [(116:UInt8),103,58])+(List.length (CO x.2.2.2)))≤9223372036854775807)))∧((iEq x.1 4)=false→(((iEq x.1 5)=true→((Gm x.2.2.2)∧(((List.length [(116:UInt8),111,58])+(List.length (CO x.2.2.2)))≤9223372036854775807)))∧((iEq x.1 5)=false→(((iEq x.1 6)=true→((Il x.2.2.1)∧((((List.length (DF x.2.2.1))+(List.length [(47:UInt8)]))≤9223372036854775807)∧((Ir x.2.1)∧(((List.length (sAdd (DF x.2.2.1) [(47:UInt8)]))+(List.length (E9 x.2.1)))≤9223372036854775807)))))∧((iEq x.1 6)=false→(((iEq x.1 7)=true→((Gm x.2.2.2)∧((((List.length (CO x.2.2.2))+(List.length [(47:UInt8)]))≤9223372036854775807)∧((Ir x.2.1)∧(((List.length (sAdd (CO x.2.2.2) [(47:UInt8)]))+(List.length (E9 x.2.1)))≤9223372036854775807)))))∧((iEq x.1 7)=false→(((iEq x.1 8)=true→((Il x.2.2.1)∧(((List.length [(111:UInt8),110,99,101,58])+(List.length (DF x.2.2.1)))≤9223372036854775807)))∧((iEq x.1 8)=false→(((iEq x.1 9)=true→((Gm x.2.2.2)∧(((List.length [(109:UInt8),97,99,114,111,58])+(List.length (CO x.2.2.2)))≤9223372036854775807)))∧((iEq x.1 9)=false→(((iEq x.1 10)=true→True)∧((iEq x.1 10)=false→(((iEq x.2.2.1 0)=true→(Ir x.2.1))∧((iEq x.2.2.1 0)=false→((Il x.2.2.1)∧((((List.length (DF x.2.2.1))+(List.length [(45:UInt8)]))≤9223372036854775807)∧((Ir x.2.1)∧(((List.length (sAdd (DF x.2.2.1) [(45:UInt8)]))+(List.length (E9 x.2.1)))≤9223372036854775807))))))))))))))))))))))))))))):=(Gk.o x).trans (by kernel_rfl)
theorem Za (x):FJ x=(JR x):=(E3.v x).trans (by kernel_rfl)
theorem Y4 (x):Io x=(JL x):=(E3.o x).trans (by kernel_rfl)
theorem aU (x):NJ x=(bSel (iEq x 3) [(109:UInt8),111,58] (bSel (iEq x 4) [(116:UInt8),103,58] (bSel (iEq x 5) [(116:UInt8),111,58] (bSel (iEq x 9) [(109:UInt8),97,99,114,111,58] [])))):=(GD.v x).trans (by kernel_rfl)
theorem bc (x):P8 x=True:=(GD.o x).trans (by kernel_rfl)
theorem Yd (x):K8 x=(bSel (bNot (Fb x)) [] (bSel (iEq x.1 0) [(110:UInt8),111,110,101] (bSel (iEq x.1 1) [(112:UInt8),97,115,115] (bSel (iEq x.1 10) [(99:UInt8),97,112,115] (bSel (iEq x.1 2) (bSel (iNe x.2.2.1 0) (sAdd (sAdd (Ey x.2.2.1) [(45:UInt8)]) (FK x.2.1)) (FK x.2.1)) (bSel (iEq x.1 6) (sAdd (sAdd (Ey x.2.2.1) [(47:UInt8)]) (FK x.2.1)) (bSel (iEq x.1 7) (sAdd (sAdd (FJ x.2.2.2) [(47:UInt8)]) (FK x.2.1)) (bSel (iEq x.1 8) (sAdd [(111:UInt8),110,99,101,58] (Ey x.2.2.1)) (sAdd (NJ x.1) (FJ x.2.2.2)))))))))):=(Gi.v x).trans (by kernel_rfl)
theorem Ye (x):M8 x=((JG x)∧(((bNot (Fb x))=true→True)∧((bNot (Fb x))=false→(((iEq x.1 0)=true→True)∧((iEq x.1 0)=false→(((iEq x.1 1)=true→True)∧((iEq x.1 1)=false→(((iEq x.1 10)=true→True)∧((iEq x.1 10)=false→(((iEq x.1 2)=true→(((iNe x.2.2.1 0)=true→((Im x.2.2.1)∧((((List.length (Ey x.2.2.1))+(List.length [(45:UInt8)]))≤9223372036854775807)∧((Is x.2.1)∧(((List.length (sAdd (Ey x.2.2.1) [(45:UInt8)]))+(List.length (FK x.2.1)))≤9223372036854775807)))))∧((iNe x.2.2.1 0)=false→(Is x.2.1))))∧((iEq x.1 2)=false→(((iEq x.1 6)=true→((Im x.2.2.1)∧((((List.length (Ey x.2.2.1))+(List.length [(47:UInt8)]))≤9223372036854775807)∧((Is x.2.1)∧(((List.length (sAdd (Ey x.2.2.1) [(47:UInt8)]))+(List.length (FK x.2.1)))≤9223372036854775807)))))∧((iEq x.1 6)=false→(((iEq x.1 7)=true→((Io x.2.2.2)∧((((List.length (FJ x.2.2.2))+(List.length [(47:UInt8)]))≤9223372036854775807)∧((Is x.2.1)∧(((List.length (sAdd (FJ x.2.2.2) [(47:UInt8)]))+(List.length (FK x.2.1)))≤9223372036854775807)))))∧((iEq x.1 7)=false→(((iEq x.1 8)=true→((Im x.2.2.1)∧(((List.length [(111:UInt8),110,99,101,58])+(List.length (Ey x.2.2.1)))≤9223372036854775807)))∧((iEq x.1 8)=false→((P8 x.1)∧((Io x.2.2.2)∧(((List.length (NJ x.1))+(List.length (FJ x.2.2.2)))≤9223372036854775807)))))))))))))))))))):=(Gi.o x).trans (by kernel_rfl)
attribute [irreducible] CO Gm CF Na FJ Io NJ P8 K8 M8
end
section
set_option maxRecDepth 8000
def Yb:DCode:=(.seq [1] (.region [oa 0 1 (.boxB 0 2 (.t 0)),oa 1 2 (.mv (.c (.str [])))]) (.seq [3,1] (.region [⟨0,some 7,.a false (.litSlice 1 0 [] []) (some (.one (.str))),none,[]⟩,om 1 3 7]) (.seq [3] (.seq [4,3,1] (.region [oi 0 4 0]) (.block 0 (.loop [1,3,4] 1 (.seq [4,3,1] (.seq [16,4,3,1] (.region [om 0 8 4,oa 1 9 (.fieldA 1 (.t 1)),oa 2 10 (.loadB 0 none (.t 9)),oa 3 11 (.len (.t 10)),oa 4 12 (.bin .lss (.t 8) (.t 11)),om 5 13 12,og 6 14 (.loadB 0 (some 2) (.t 1)) 13 true,⟨7,some 15,.call false Fc.S Fc.P Fc.D [(.t 14)],(some (13,true)),[]⟩,oa 8 16 (.pick (.t 13) (.t 15) (.c (.bool false)))]) (.cond (.t 16) .skip (.exit 0))) (.seq [4,3,1] (.block 1 (.seq [5,4,3,1] (.region [⟨0,some 19,.a false (.litSlice 1 0 [] []) (some (.one (.str))),none,[]⟩,om 1 5 19]) (.seq [5,4,3,1] (.seq [6,5,4,3,1] (.region [oi 0 6 0]) (.block 2 (.loop [1,3,4,5,6] 1 (.seq [6,5,4,3,1] (.seq [23,6,5,4,3,1] (.region [om 0 20 6,oa 1 21 (.fieldA 0 (.t 1)),oa 2 22 (.loadB 0 none (.t 21)),oa 3 23 (.bin .lss (.t 20) (.t 22))]) (.cond (.t 23) .skip (.exit 2))) (.seq [6,5,4,3,1] (.block 3 (.region [om 0 26 5,oa 1 27 (.fieldA 1 (.t 1)),oa 2 28 (.loadB 0 none (.t 27)),om 3 29 4,oa 4 30 (.indexA 1 (.t 28) (.t 29)),oa 5 31 (.loadH none (.t 30)),om 6 32 6,oa 7 33 (.indexA 4 (.t 31) (.t 32)),oa 8 34 (.loadH (some 4) (.t 33)),oF 9 35 Gk [(.t 34)],⟨10,some 36,.a false (.litSlice 1 1 [(.str [])] [(0,1,(.t 35))]) (some (.one (.str))),none,[]⟩,oa 11 37 (.app 1 (.t 26) (.t 36)),om 12 5 37])) (.region [om 0 24 6,oa 1 25 (.bin .add (.t 24) (.c (.int .i64 1))),om 2 6 25])))))) (.region [om 0 38 3,on 1 39 5,oF 2 40 E7 [(.t 39),(.c (.str [32]))],⟨3,some 41,.a false (.litSlice 1 1 [(.str [])] [(0,1,(.t 40))]) (some (.one (.str))),none,[]⟩,oa 4 42 (.app 1 (.t 38) (.t 41)),om 5 3 42])))) (.region [om 0 17 4,oa 1 18 (.bin .add (.t 17) (.c (.int .i64 1))),om 2 4 18])))))) (.seq [2] (.region [on 0 43 3,oF 1 44 E7 [(.t 43),(.c (.str [32,124,32]))],om 2 2 44]) .ret))))
def Gj:Fn:=⟨⟨1,45,1,true,[.tmp 2],Yb⟩,[.agg [(.frz,.int .i64),(.frz,.sl (.one (.sl B7)))]],.one (.one .own (.str))⟩
theorem Yi:Gj.A:=Bm ⟨Zr,Yc,Tu,Tu,trivial⟩
def JD:Int×(List (List (Int×Int×Int×Int)))→List UInt8:=Gj.V
def M9:Int×(List (List (Int×Int×Int×Int)))→Prop:=Gj.O
theorem Yn:Gj.B:=Bq ⟨ZK,Yf,Tw,Tw,trivial⟩ (by kernel_rfl) (fun x=>by kernel_rfl)
def Yg:DCode:=(.seq [1] (.region [oa 0 1 (.boxB 0 2 (.t 0)),oa 1 2 (.mv (.c (.str [])))]) (.seq [1] (.seq [11,1] (.region [oa 0 9 (.loadB 0 (some 2) (.t 1)),oF 1 10 Gz [(.t 9)],oa 2 11 (.un .not (.t 10))]) (.cond (.t 11) (.seq [2] (.region [oa 0 2 (.mv (.c (.str [])))]) .ret) .skip)) (.seq [3,1] (.region [oa 0 3 (.mv (.c .nils))]) (.seq [3] (.seq [15,14,13,3] (.region [oa 0 12 (.fieldA 1 (.t 1)),oa 1 13 (.loadB 0 none (.t 12)),oa 2 14 (.len (.t 13)),oi 3 15 0]) (.block 0 (.loop [3,13,14,15] 1 (.seq [16,15,14,13,3] (.region [oa 0 16 (.bin .lss (.t 15) (.t 14))]) (.seq [15,14,13,3] (.cond (.t 16) .skip (.exit 0)) (.seq [15,14,13,3] (.block 1 (.seq [15,14,13,5,3] (.region [oa 0 17 (.indexA 1 (.t 13) (.t 15)),oa 1 18 (.loadH none (.t 17)),on 2 5 18]) (.seq [15,14,13,6,5,3] (.region [oa 0 6 (.mv (.c .nils))]) (.seq [15,14,13,6,3] (.seq [21,20,19,15,14,13,6,3] (.region [on 0 19 5,oa 1 20 (.len (.t 19)),oi 2 21 0]) (.block 2 (.loop [3,6,13,14,15,19,20,21] 1 (.seq [22,21,20,19,15,14,13,6,3] (.region [oa 0 22 (.bin .lss (.t 21) (.t 20))]) (.seq [21,20,19,15,14,13,6,3] (.cond (.t 22) .skip (.exit 2)) (.seq [21,20,19,15,14,13,6,3] (.block 3 (.seq [21,20,19,15,14,13,8,6,3] (.region [oa 0 23 (.indexA 4 (.t 19) (.t 21)),ob 1 24 (.loadH (some 4) (.t 23)),oa 2 8 (.allocB 1 [(.int .i64 0),(.int .i64 0),(.int .i64 0),(.int .i64 0)]),os 3 (.storeB 1 4 (.t 8) (.t 24))]) (.region [om 0 25 6,oa 1 26 (.loadB 1 (some 4) (.t 8)),oF 2 27 Gi [(.t 26)],⟨3,some 28,.a false (.litSlice 1 1 [(.str [])] [(0,1,(.t 27))]) (some (.one (.str))),none,[]⟩,oa 4 29 (.app 1 (.t 25) (.t 28)),om 5 6 29]))) (.region [oa 0 30 (.bin .add (.t 21) (.c (.int .i64 1))),om 1 21 30]))))))) (.region [om 0 31 3,on 1 32 6,oF 2 33 E6 [(.t 32),(.c (.str [32]))],⟨3,some 34,.a false (.litSlice 1 1 [(.str [])] [(0,1,(.t 33))]) (some (.one (.str))),none,[]⟩,oa 4 35 (.app 1 (.t 31) (.t 34)),om 5 3 35]))))) (.region [oa 0 36 (.bin .add (.t 15) (.c (.int .i64 1))),om 1 15 36]))))))) (.seq [2] (.region [on 0 37 3,oF 1 38 E6 [(.t 37),(.c (.str [32,124,32]))],om 2 2 38]) .ret)))))
def Gl:Fn:=⟨⟨1,39,2,true,[.tmp 2],Yg⟩,[.agg [(.frz,.int .i64),(.frz,.sl (.one (.sl B7)))]],.one (.one .own (.str))⟩
theorem Yo:Gl.A:=Bm ⟨ZU,Yl,Ts,Ts,trivial⟩
def JE:Int×(List (List (Int×Int×Int×Int)))→List UInt8:=Gl.V
def M7:Int×(List (List (Int×Int×Int×Int)))→Prop:=Gl.O
theorem Ya:Gl.B:=Bq ⟨Zu,X9,Tz,Tz,trivial⟩ (by kernel_rfl) (fun x=>by kernel_rfl)
def X4:DCode:=(.seq [1] (.region [oa 0 1 (.boxB 0 2 (.t 0)),oa 1 2 (.mv (.c (.bool false)))]) (.seq [3,1] (.region [oi 0 3 1048576]) (.seq [3,1] (.region [oa 0 7 (.loadB 0 (some 2) (.t 1)),om 1 8 3,oF 2 9 Gx [(.t 7),(.t 8)],om 3 3 9]) (.seq [1] (.seq [11,1] (.region [om 0 10 3,oa 1 11 (.bin .lss (.t 10) (.c (.int .i64 0)))]) (.cond (.t 11) (.seq [2] (.region [oa 0 2 (.mv (.c (.bool true)))]) .ret) .skip)) (.seq [4,1] (.region [oa 0 12 (.loadB 0 (some 2) (.t 1)),oF 1 13 D5 [(.t 12)],oF 2 14 Gj [(.t 13)],om 3 4 14]) (.seq [5,4,1] (.region [oa 0 15 (.loadB 0 (some 2) (.t 1)),oF 1 16 D5 [(.t 15)],oa 2 5 (.allocB 1 [(.int .i64 0),.nils]),os 3 (.storeB 1 2 (.t 5) (.t 16))]) (.seq [6,5,4,1] (.region [oa 0 17 (.loadB 1 (some 2) (.t 5)),oF 1 18 Gl [(.t 17)],om 2 6 18]) (.seq [5,1] (.seq [21,5,1] (.region [om 0 19 6,om 1 20 4,oa 2 21 (.bin .neq (.t 19) (.t 20))]) (.cond (.t 21) (.seq [2] (.region [oa 0 2 (.mv (.c (.bool false)))]) .ret) .skip)) (.seq [] (.seq [26] (.region [oa 0 22 (.loadB 1 (some 2) (.t 5)),oa 1 23 (.loadB 0 (some 2) (.t 1)),xF 2 24 D5 [(.t 23)] [1],xF 3 25 Gw [(.t 22),(.t 24)] (rg 3),xA 4 26 (.un .not (.t 25)) (rg 4)]) (.cond (.t 26) (.seq [2] (.region [oa 0 2 (.mv (.c (.bool false)))]) .ret) .skip)) (.seq [2] (.region [oa 0 2 (.mv (.c (.bool true)))]) .ret))))))))))
def Ex:Fn:=⟨⟨1,27,2,true,[.tmp 2],X4⟩,[.agg [(.frz,.int .i64),(.frz,.sl (.one (.sl B7)))]],.one (.one .own (.bool))⟩
theorem X3:Ex.A:=Bm ⟨Zo,P1,Yi,P1,Yo,P1,ZN,trivial⟩
def M6:Int×(List (List (Int×Int×Int×Int)))→Bool:=Ex.V
def M5:Int×(List (List (Int×Int×Int×Int)))→Prop:=Ex.O
end
section
set_option maxRecDepth 100000
def Ih(x:Int×(List (List (Int×Int×Int×Int))))(x0:((List (List UInt8))×Int)):Bool:=(bAnd (iLt x0.2 (lLen x.2)) (JN x))
def Ig(x:Int×(List (List (Int×Int×Int×Int))))(x1:((List (List UInt8))×Int)):Bool:=(iLt x1.2 x.1)
def Ie(x:Int×(List (List (Int×Int×Int×Int))))(x0:((List (List UInt8))×Int))(x1:((List (List UInt8))×Int)):((List (List UInt8))×Int):=((lApp x1.1 [(CF (lGet (lGet x.2 (iNat x0.2) []) (iNat x1.2) (0,0,0,0)))]),(iAdd .i64 x1.2 1))
def JB(x:Int×(List (List (Int×Int×Int×Int))))(x0:((List (List UInt8))×Int)):((List (List UInt8))×Int):=((lApp x0.1 [(Hc ((Ar (Ig x) (Ie x x0) ([],0)).1,[(32:UInt8)]))]),(iAdd .i64 x0.2 1))
def PM(x:Int×(List (List (Int×Int×Int×Int))))(x0:((List (List UInt8))×Int))(x1:((List (List UInt8))×Int)):Prop:=(((iLt x1.2 x.1)=true→((((0:Int)≤x0.2)∧(x0.2<(((List.length x.2):Int))))∧(((iNat x0.2)<(List.length x.2))∧((((0:Int)≤x1.2)∧(x1.2<(((List.length (lGet x.2 (iNat x0.2) [])):Int))))∧(((iNat x1.2)<(List.length (lGet x.2 (iNat x0.2) [])))∧((Na (lGet (lGet x.2 (iNat x0.2) []) (iNat x1.2) (0,0,0,0)))∧(AY (((List.length x1.1)+(List.length [(CF (lGet (lGet x.2 (iNat x0.2) []) (iNat x1.2) (0,0,0,0)))]))*1))))))))∧((iLt x1.2 x.1)=false→True))
def K0(x:Int×(List (List (Int×Int×Int×Int))))(x0:((List (List UInt8))×Int)):Prop:=((((iLt x0.2 (lLen x.2))=true→(Ns x))∧((iLt x0.2 (lLen x.2))=false→True))∧(((bAnd (iLt x0.2 (lLen x.2)) (JN x))=true→((LoopOk (Ig x) (Ie x x0) (PM x x0) ([],0))∧((Iq ((Ar (Ig x) (Ie x x0) ([],0)).1,[(32:UInt8)]))∧(AY (((List.length x0.1)+(List.length [(Hc ((Ar (Ig x) (Ie x x0) ([],0)).1,[(32:UInt8)]))]))*1)))))∧((bAnd (iLt x0.2 (lLen x.2)) (JN x))=false→True)))
theorem Yh (x):JD x=(Hc ((Ar (Ih x) (JB x) ([],0)).1,[(32:UInt8),124,32])):=(Gj.v x).trans (by kernel_rfl)
theorem Yk (x):M9 x=((LoopOk (Ih x) (JB x) (K0 x) ([],0))∧(Iq ((Ar (Ih x) (JB x) ([],0)).1,[(32:UInt8),124,32]))):=(Gj.o x).trans (by kernel_rfl)
def K4(x:Int×(List (List (Int×Int×Int×Int))))(x0:((List (List UInt8))×Int)):Bool:=(iLt x0.2 (lLen x.2))
def Ic(x:Int×(List (List (Int×Int×Int×Int))))(x0:((List (List UInt8))×Int))(x1:((List (List UInt8))×Int)):Bool:=(iLt x1.2 (lLen (lGet x.2 (iNat x0.2) [])))
def Ii(x:Int×(List (List (Int×Int×Int×Int))))(x0:((List (List UInt8))×Int))(x1:((List (List UInt8))×Int)):((List (List UInt8))×Int):=((lApp x1.1 [(K8 (lGet (lGet x.2 (iNat x0.2) []) (iNat x1.2) (0,0,0,0)))]),(iAdd .i64 x1.2 1))
def K3(x:Int×(List (List (Int×Int×Int×Int))))(x0:((List (List UInt8))×Int)):((List (List UInt8))×Int):=((lApp x0.1 [(It ((Ar (Ic x x0) (Ii x x0) ([],0)).1,[(32:UInt8)]))]),(iAdd .i64 x0.2 1))
def PL(x:Int×(List (List (Int×Int×Int×Int))))(x0:((List (List UInt8))×Int))(x1:((List (List UInt8))×Int)):Prop:=(((iLt x1.2 (lLen (lGet x.2 (iNat x0.2) [])))=true→((((0:Int)≤x1.2)∧(x1.2<(((List.length (lGet x.2 (iNat x0.2) [])):Int))))∧(((iNat x1.2)<(List.length (lGet x.2 (iNat x0.2) [])))∧((M8 (lGet (lGet x.2 (iNat x0.2) []) (iNat x1.2) (0,0,0,0)))∧(AY (((List.length x1.1)+(List.length [(K8 (lGet (lGet x.2 (iNat x0.2) []) (iNat x1.2) (0,0,0,0)))]))*1))))))∧((iLt x1.2 (lLen (lGet x.2 (iNat x0.2) [])))=false→True))
def PN(x:Int×(List (List (Int×Int×Int×Int))))(x0:((List (List UInt8))×Int)):Prop:=(((iLt x0.2 (lLen x.2))=true→((((0:Int)≤x0.2)∧(x0.2<(((List.length x.2):Int))))∧(((iNat x0.2)<(List.length x.2))∧((LoopOk (Ic x x0) (Ii x x0) (PL x x0) ([],0))∧((JK ((Ar (Ic x x0) (Ii x x0) ([],0)).1,[(32:UInt8)]))∧(AY (((List.length x0.1)+(List.length [(It ((Ar (Ic x x0) (Ii x x0) ([],0)).1,[(32:UInt8)]))]))*1)))))))∧((iLt x0.2 (lLen x.2))=false→True))
theorem Yq (x):JE x=(bSel (bNot (He x)) [] (It ((Ar (K4 x) (K3 x) ([],0)).1,[(32:UInt8),124,32]))):=(Gl.v x).trans (by kernel_rfl)
theorem Yr (x):M7 x=((Nv x)∧(((bNot (He x))=true→True)∧((bNot (He x))=false→((LoopOk (K4 x) (K3 x) (PN x) ([],0))∧(JK ((Ar (K4 x) (K3 x) ([],0)).1,[(32:UInt8),124,32])))))):=(Gl.o x).trans (by kernel_rfl)
theorem X5 (x):M6 x=(bOr (iLt (FL (x,1048576)) 0) (bAnd (bNot (sNe (JE (Dn x)) (JD (Dn x)))) (bNot (bNot (NC ((Dn x),(Dn x))))))):=(Ex.v x).trans (by kernel_rfl)
theorem X6 (x):M5 x=((Nu (x,1048576))∧(((iLt (FL (x,1048576)) 0)=true→True)∧((iLt (FL (x,1048576)) 0)=false→((JH x)∧((M9 (Dn x))∧((JH x)∧((M7 (Dn x))∧(((sNe (JE (Dn x)) (JD (Dn x)))=true→True)∧((sNe (JE (Dn x)) (JD (Dn x)))=false→((JH x)∧(Nq ((Dn x),(Dn x))))))))))))):=(Ex.o x).trans (by kernel_rfl)
attribute [irreducible] JD M9 JE M7 M6 M5
end
end
end Go.Ag
