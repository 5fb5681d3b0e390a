/- Part 5 of what FnExactFormatMacro needs. No conditions. -/
import Derived.WalkKit
import Derived.ProofKit
import Derived.OpenShut
import Derived.Carry
import Derived.ChangeSame
import Derived.Attr
import Derived.KernelRfl
import Derived.Below
import Derived.Lib.Join
import Derived.Lib.Split
import Derived.Lib.Bytealg
import Derived.Lib.ItoaNum
import Derived.Test.YtkjnachjeoeihaaDoorLibD
namespace Go.Ag
set_option linter.unusedSimpArgs false
set_option linter.unusedVariables false
noncomputable section
theorem Vy(d:DS)(c:Opnd)(t:Bool):ChgS d (setc d c t):=by
 cases c with
 |t g=>exact QQ d g t
 |c v=>exact ChgS.refl d
theorem Wc{d:DS}{s:PS}{c:Opnd}{b:Bool}(hs:ES d s)(h:c.pev s.sl= .fl (.bool b)):ES (setc d c b) s:=by
 cases c with
 |t g=>exact V5 hs h
 |c v=>exact hs
theorem F0:∀ (c:DCode) (d:DS),(dev c d).All (ChgS d)
 |.skip,d=>ChgS.refl d
 |.region ops,d=>Q4 ops d (ChgS.refl d)
 | .regionU ops,d=>by
   simp only[dev]
   split
   · exact Q4 ops d (ChgS.refl d)
   · trivial
 | .seq l a b,d=>by
   refine DT.then_all (F0 a d.clean) (fun st h=>?_) (fun st h=>h.rem)
   have h1:ChgS d (H8 d (Pp l st)):=(h.trans (dH l st)).rem
   exact DT.All.imp (fun _ h2=>h1.trans h2) (F0 b _)
 | .cond c a b,d=>by
   simp only[dev]
   cases hc:c.dev d.sl with
   | bool t=>
     cases t with
     |lit t=>cases t<;>first|exact F0 a d|exact F0 b d
     |dyn t=>exact⟨DT.All.imp (fun _ h=>(Vy d c true).trans h) (F0 a _),DT.All.imp (fun _ h=>(Vy d c false).trans h) (F0 b _)⟩
   |_=>trivial
 |.block i a,d=>DT.unexit_all i (F0 a d)
 |.loop live n a,d=>dO (fun d=>F0 a d.clean) d
 |.exit i,d=>ChgS.refl d
 |.ret,d=>ChgS.refl d
theorem Fz:∀ (c:DCode),AllD c.obs→∀ {d d':DS} {s:PS} {e:AExit} {k:DY},ES d s→(dev c d).ok.den→(dev c d).lf=some (e,d')→(∀ s',ES d' s'→k e s')→Ez c.er k s
 | .skip,_,d,d',s,e,k,hs,hok,hl,hk=>by
   simp only[dev,DT.lf,Ai,Ak] at hl
   obtain⟨rfl,rfl⟩:=hl
   exact hk s hs
 | .region ops,ho,d,d',s,e,k,hs,hok,hl,hk=>by
   have he:=W6 ops hl
   subst he
   exact RY ops ho rfl hk d s hs hok hl
 | .regionU ops,ho,d,d',s,e,k,hs,hok,hl,hk=>by
   simp only[dev] at hok hl
   split at hok
   · rename_i hp
     rw[Ab hp] at hl
     have he:=W6 ops hl
     subst he
     exact⟨hp,RY ops ho rfl hk d s hs hok hl⟩
   · exact hok.elim
 | .seq l a b,ho,d,d',s,e,k,hs,hok,hl,hk=>by
   obtain⟨h1,h2⟩:=ho.app
   obtain⟨hoa,hc⟩:=DT.then_s (F0 a d.clean) hok hl
   simp only[DCode.er,Ez]
   rcases hc with⟨st0,m,hla,hm,hch,hob,hlb⟩|⟨he,st0,hla,rfl⟩
   · refine Fz a h1 hs.clean hoa hla fun s' hs'=>?_
     exact Fz b h2 (((hm s' hs').trim l).rem) hob hlb hk
   · refine Fz a h1 hs.clean hoa hla fun s' hs'=>?_
     cases e<;>first|(cases he;done)|exact hk s' hs'.rem
 | .cond c a b,ho,d,d',s,e,k,hs,hok,hl,hk=>by
   obtain⟨h1,h2⟩:=ho.app
   have hv:=c.dev_ev hs
   simp only[dev] at hok hl
   simp only[DCode.er,Ez]
   cases hc:c.dev d.sl with
   | bool t=>
     rw[hc] at hok hl hv
     have hp:=hv.of (by simp)
     simp only[DV.enc] at hp
     rw[hp]
     simp only
     cases t with
     | lit t=>
       cases t with
       |true=>exact Fz a h1 hs hok hl hk
       |false=>exact Fz b h2 hs hok hl hk
     | dyn t=>
       have hok:=(PX.if_den _ _ _).mp hok
       cases t with
       |true=>exact Fz a h1 (Wc hs hp) (hok.1 rfl) hl hk
       |false=>exact Fz b h2 (Wc hs hp) (hok.2 rfl) hl hk
   |_=>rw[hc] at hok;exact hok.elim
 | .block i a,ho,d,d',s,e,k,hs,hok,hl,hk=>by
   simp only[dev,DT.unexit_ok,DT.unexit_lf] at hok hl
   obtain⟨e0,d0,h0⟩:=DT.ok_lf hok
   rw[h0] at hl
   simp only[BB,Ai,Ak] at hl
   obtain⟨rfl,rfl⟩:=hl
   refine Fz a ho hs hok h0 fun s' hs'=>?_
   have:=hk s' hs'
   cases e0 with
   |normal=>exact this
   |ret=>exact this
   | exit j=>
     simp only[RD]
     simp only[AExit.un] at this
     split
     · rename_i hj;rw[Ab hj] at this;exact this
     · rename_i hj;rw[Ad hj] at this;exact this
 | .loop live n a,ho,d,d',s,e,k,hs,hok,hl,hk=>by
   simp only[dev] at hok hl
   exact gR (fun d=>F0 a d.clean) (fun d s e d' k hs hok hl hk=>Fz a ho hs.clean hok hl hk) hs hok hl hk
 | .exit i,_,d,d',s,e,k,hs,hok,hl,hk=>by
   simp only[dev,DT.lf,Ai,Ak] at hl
   obtain⟨rfl,rfl⟩:=hl
   exact hk s hs
 | .ret,_,d,d',s,e,k,hs,hok,hl,hk=>by
   simp only[dev,DT.lf,Ai,Ak] at hl
   obtain⟨rfl,rfl⟩:=hl
   exact hk s hs
mutual
def DV.flt:DV→Bool
 |.bool _|.int _ _|.str _|.ifc _=>true
 |.agg cs=>DV.fltL cs
 |.tup vs=>DV.fltL vs
 |_=>false
def DV.fltL:List DV→Bool
 |[]=>true
 |v::r=>v.flt&&DV.fltL r
end
mutual
theorem RV:∀ (v:DV),v.flt=true→v.enc.flt=true
 |.bool _,_|.int _ _,_|.str _,_|.ifc _,_=>rfl
 |.agg cs,h=>Rb cs h
 |.tup cs,h=>Rb cs h
theorem Rb:∀ (l:List DV),DV.fltL l=true→PV.fltL (DV.encL l)=true
 |[],_=>rfl
 | v::r,h=>by
   simp only[DV.fltL,Ah] at h
   simp only[DV.encL,PV.fltL,RV v h.1,Rb r h.2,BM]
end
theorem Rg:∀ (l:List DV),Gc l=true→DV.okL l=true
 |[],_=>rfl
 | v::r,h=>by
   simp only[Gc,Ah] at h
   have:v.ok=true:=by cases v<;>first|rfl|(have:=h.1;cases this)
   simp only[DV.okL,this,Rg r h.2,BM]
theorem EBx.segm2{a:List DC}{b:List PV}{o n:Nat}(h:EBx a b)(hl:o+n≤a.length)(hk:DV.okL (Bg (Bh a) o n)=true):Go.Ag.segm b o n=DV.encL (Bg (Bh a) o n)∧o+n≤b.length:=by
 rcases h with rfl|h
 · simp only[AV,Nat.le_zero_eq,Nat.add_eq_zero_iff] at hl;obtain⟨rfl,rfl⟩:=hl;refine⟨?_,Fl _⟩;cases b<;>rfl
 · exact⟨h.segm o n hk,by rw[← h.len];exact hl⟩
theorem VO{st st':DS}{s:PS}{r:ARes}{v:DV}(hs:ES st s)(h:L4 st r=some (v,st'))(hv:v.ok=true):∃ s',F6 s r=some (v.enc,s')∧ES st' s':=by
 cases r with
 | tmp t=>
   simp only[L4] at h;split at h
   · rename_i hc;simp only[Ah] at hc;simp only[Ai] at h
     have hk:(AE (.t t) st).1.ok=true:=by
      have:(AE (.t t) st).1=v:=by simp only[AE,h]
      rw[this];exact hv
     obtain⟨m1,m2⟩:=C5 (.t t) hs hk
     have hne:AQ st.sl t≠.any:=by intro e;rw[e] at hc;cases hc.2
     have hp:=(hs.sl.get t).of hne;simp only[AE,h,mvOut] at m1 m2;refine⟨(Dj (Aa s.sl t) t s).2,?_,m2⟩;simp only[F6];rw[Ab (by rw[hp];exact dJ _ hc.1),← m1]
   · cases h
 | cell t n=>
   simp only[L4] at h;have hp:=hs.sl.get t
   cases hv:AQ st.sl t with
   | box i o=>
     rw[hv] at h hp;have hp:=hp.of (by simp);simp only at h;split at h
     · rename_i hc;simp only[Ah] at hc;simp only[Bd] at h;obtain⟨⟨g,r⟩,h1,h2⟩:=h;simp only at h2;subst h2;obtain⟨e1,e2⟩:=(hs.bx.get i).segm2 (BS hc.1) (Rg _ hc.2)
       have hg:g= .tt:=by
        unfold I8 at h1;simp only[AB] at h1;split at h1
        · simp only[Bd,Ak] at h1;obtain⟨_,_,rfl,_⟩:=h1;rfl
        · cases h1
       subst hg;obtain⟨s',e3,e4⟩:=TX (p:=.box i o) hs (.inr rfl) h1;refine⟨s',?_,e4⟩;simp only[F6,hp,DV.enc];rw[Ab ⟨e2,by rw[e1];exact Om _ hc.2⟩];exact e3
     · cases h
   | ptr i o=>
     rw[hv] at h hp;have hp:=hp.of (by simp);simp only at h;split at h
     · rename_i hc;simp only[Ah] at hc;simp only[Bd] at h;obtain⟨⟨g,r⟩,h1,h2⟩:=h;simp only at h2;subst h2;obtain⟨e1,e2⟩:=(hs.hp.get i).segm2 (BS hc.1) (Rg _ hc.2)
       have hg:g= .tt∧i<st.hp.length:=by
        unfold HF at h1;simp only[AB] at h1;split at h1
        · rename_i hb;simp only[Ah] at hb;simp only[Bd,Ak] at h1;obtain⟨_,_,rfl,_⟩:=h1;exact⟨rfl,BS hb.1.1⟩
        · cases h1
       obtain⟨rfl,hi⟩:=hg;obtain⟨s',e3,e4⟩:=T5 (p:=.ptr i o) hs (.inr rfl) h1 trivial;refine⟨s',?_,e4⟩;simp only[F6,hp,DV.enc];rw[Ab ⟨by rw[← hs.hp.len];exact hi,e2,by rw[e1];exact Om _ hc.2⟩];exact e3
     · cases h
   |_=>rw[hv] at h;cases h
theorem U1:∀ {res:List ARes} {st st':DS} {s:PS} {vs:List DV},ES st s→Ke st res=some (vs,st')→DV.okL vs=true→∃ s',FW s res=some (DV.encL vs,s')∧ES st' s'
 | [],st,st',s,vs,hs,h,_=>by
   simp only[Ke,Ai,Ak] at h
   obtain⟨rfl,rfl⟩:=h
   exact⟨s,rfl,hs⟩
 | r :: rs,st,st',s,vs,hs,h,hk=>by
   simp only[Ke] at h
   split at h
   · rename_i v st1 h1
     split at h
     · rename_i vs1 st2 h2
       simp only[Ai,Ak] at h
       obtain⟨rfl,rfl⟩:=h
       simp only[DV.okL,Ah] at hk
       obtain⟨s1,e1,e2⟩:=VO hs h1 hk.1
       obtain⟨s2,e3,e4⟩:=U1 e2 h2 hk.2
       exact⟨s2,by simp only[FW,e1,e3,DV.encL],e4⟩
     · cases h
   · cases h
theorem Ws:∀ {res:List ARes} {st:DS} {s:PS} {v:DV},ES st s→Ep st res=some v→v.ok=true→∃ s',Jb s res=some (v.enc,s'):=by
 have gen:∀ {res:List ARes} {st:DS} {s:PS} {v:DV},ES st s→v.ok=true→(Ke st res).map (fun x=>DV.tup x.1)=some v→∃ s',(FW s res).map (fun(vs,st)=>(PV.tup vs,st))=some (v.enc,s'):=fun hs hv h=>by
  simp only[Bd] at h;obtain⟨⟨vs,st'⟩,h1,rfl⟩:=h;obtain⟨s',e1,_⟩:=U1 hs h1 hv;exact⟨s',by rw[e1];rfl⟩
 intro res st s v hs h hv
 cases res with
 |nil=>exact gen (res:=[]) hs hv h
 | cons r rs=>
   cases rs with
   | nil=>
     simp only[Ep,Bd] at h;obtain⟨⟨v',st'⟩,h1,rfl⟩:=h;obtain⟨s',e1,_⟩:=VO hs h1 hv;exact⟨s',e1⟩
   |cons r2 rs=>exact gen (res:=r::r2::rs) hs hv h
theorem KB {res:List ARes}:∀ {t:DT} {g:PX} {v:DV},t.val res=(g,some v)→v≠.any→g.den →
 t.ok.den∧∃ e st v0,t.lf=some (e,st)∧(∀ i,e≠.exit i)∧Ep st res=some v0∧v0.ok=true∧v.enc=v0.enc
 | .leaf e st,g,v,h,hv,hg=>by
   have gen:(match Ep st res with|some v=>if (v.ok&&!v.hasPtr)=true then (PX.tt,some v) else (PX.ff,none)|none=>(PX.ff,none))=(g,some v)→Ep st res=some v∧v.ok=true:=fun h=>by
    split at h
    · split at h
      · rename_i h1 h2;simp only[Ak,Ai] at h;obtain⟨_,rfl⟩:=h;simp only[Ah] at h2;exact⟨h1,h2.1⟩
      · simp at h
    · simp at h
   cases e with
   |exit i=>simp[DT.val] at h
   |normal=>obtain⟨h1,h2⟩:=gen h;exact⟨trivial,.normal,st,v,rfl,by simp,h1,h2,rfl⟩
   |ret=>obtain⟨h1,h2⟩:=gen h;exact⟨trivial,.ret,st,v,rfl,by simp,h1,h2,rfl⟩
 | .node c a b,g,v,h,hv,hg=>by
   simp only[DT.val] at h
   have hno:∀ {t:DT} {g:PX},t.val res=(g,none)→¬ g.den:=by
    intro t
    induction t with
    | leaf e st=>
      intro g h;cases e<;>simp only[DT.val] at h<;>(repeat' split at h)<;>simp only[Ak,reduceCtorEq,and_false,and_true] at h<;>subst h<;>exact id
    | node c x y ih1 ih2=>
      intro g h hg;simp only[DT.val] at h
      cases h1:x.val res with
      | mk g1 v1=>
        cases h2:y.val res with
        | mk g2 v2=>
          rw[h1,h2] at h
          cases v1 with
          | none=>
            simp only[Ak] at h;obtain⟨rfl,rfl⟩:=h;have:=(PX.if_den _ _ _).mp hg
            cases c with
            |true=>exact ih1 h1 (this.1 rfl)
            |false=>exact ih2 h2 (this.2 rfl)
          |some v1=>cases v2<;>simp at h
    | chk g0 t ih=>
      intro g h hg;simp only[DT.val] at h
      cases h1:t.val res with
      | mk g1 v1=>
        rw[h1] at h;simp only[Ak] at h;obtain⟨rfl,rfl⟩:=h;exact ih h1 ((PX.land_den _ _).mp hg).2
    | bad=>
      intro g h;simp only[DT.val,Ak,and_true] at h;subst h;exact id
   cases h1:a.val res with
   | mk g1 v1=>
     cases h2:b.val res with
     | mk g2 v2=>
       rw[h1,h2] at h
       have fin:∀ (v1 v2:DV),g=PX.if' c g1 g2→a.val res=(g1,some v1)→b.val res=(g2,some v2)→v=B5 c v1 v2→(DT.node c a b).ok.den∧∃ e st v0,(DT.node c a b).lf=some (e,st)∧(∀ i,e≠.exit i)∧Ep st res=some v0∧v0.ok=true∧v.enc=v0.enc:=by
        intro v1 v2 hgg h1 h2 hvv;subst hgg;have hg:=(PX.if_den _ _ _).mp hg;have he:=(OT c v1 v2).resolve_left (by rw[← hvv];exact hv);rw[← hvv] at he
        have n1:v1≠.any:=by rintro rfl;apply hv;rw[hvv];cases v2<;>rfl
        have n2:v2≠.any:=by rintro rfl;apply hv;rw[hvv];cases v1<;>rfl
        show (PX.if' c a.ok b.ok).den∧∃ e st v0,(DT.node c a b).lf=some (e,st)∧(∀ i,e≠.exit i)∧Ep st res=some v0∧v0.ok=true∧v.enc=v0.enc;rw[PX.if_den]
        cases c with
        | true=>
          obtain⟨k1,e,st,v0,k2,k3,k4,k5,k6⟩:=KB h1 n1 (hg.1 rfl);exact⟨⟨fun _=>k1,fun h=>by cases h⟩,e,st,v0,k2,k3,k4,k5,by rw[he];exact k6⟩
        | false=>
          obtain⟨k1,e,st,v0,k2,k3,k4,k5,k6⟩:=KB h2 n2 (hg.2 rfl);exact⟨⟨fun h=>(by cases h),fun _=>k1⟩,e,st,v0,k2,k3,k4,k5,by rw[he];exact k6⟩
       cases v1 with
       | none=>
         simp only[Ak] at h;obtain⟨rfl,rfl⟩:=h;have hg:=(PX.if_den _ _ _).mp hg;show (PX.if' c a.ok b.ok).den∧_;rw[PX.if_den]
         cases c with
         |true=>exact absurd (hg.1 rfl) (hno h1)
         | false=>
           obtain⟨k1,e,st,v0,k2,k3,k4,k5,k6⟩:=KB h2 hv (hg.2 rfl);exact⟨⟨fun h=>(by cases h),fun _=>k1⟩,e,st,v0,k2,k3,k4,k5,k6⟩
       | some v1=>
         cases v2 with
         | none=>
           simp only[Ak,Ai] at h;obtain⟨rfl,rfl⟩:=h;have hg:=(PX.if_den _ _ _).mp hg;show (PX.if' c a.ok b.ok).den∧_;rw[PX.if_den]
           cases c with
           |false=>exact absurd (hg.2 rfl) (hno h2)
           | true=>
             obtain⟨k1,e,st,v0,k2,k3,k4,k5,k6⟩:=KB h1 hv (hg.1 rfl);exact⟨⟨fun _=>k1,fun h=>by cases h⟩,e,st,v0,k2,k3,k4,k5,k6⟩
         | some v2=>
           simp only[Ak,Ai] at h;exact fin v1 v2 h.1.symm h1 h2 h.2.symm
 | .chk g0 t,g,v,h,hv,hg=>by
   simp only[DT.val] at h
   cases h1:t.val res with
   | mk g1 v1=>
     rw[h1] at h;simp only[Ak] at h;obtain⟨rfl,rfl⟩:=h;have hg:=(PX.land_den _ _).mp hg;obtain⟨k1,k2⟩:=KB h1 hv hg.2;exact⟨(PX.land_den _ _).mpr ⟨hg.1,k1⟩,k2⟩
 |.bad,g,v,h,hv,hg=>by simp[DT.val] at h
theorem EL.append:∀ {a:List DC} {b:List PV} {c:List DC} {d:List PV},EL a b→EL c d→EL (a++c) (b++d)
 |[],[],_,_,_,h=>h
 |_::_,_::_,_,_,h,h'=>⟨h.1,EL.append h.2 h'⟩
theorem Rm:∀ (n:Nat),EL (IP n) (Gb n)
 |0=>trivial
 |n+1=>⟨.inl rfl,Rm n⟩
theorem Rl:∀ (n:Nat),EB (IW n) (HY n)
 |0=>trivial
 |n+1=>⟨.inl rfl,Rl n⟩
theorem cR {f:DFun} (ho:AllD f.body.obs) {args:List DV} {g:PX} {v:DV} (h:MN f args=(g,some v)) (hg:g.den) (hv:v≠.any) (hl:args.length=f.nparams) (hp:f.pure=true→v.flt=true)
 {Q:PV→List (List PV)→Prop} (hQ:∀ H,Q v.enc H):IK f.er (DV.encL args) [] Q:=by
 unfold MN at h
 obtain⟨hok,e,st,v0,h1,h2,h3,h4,h5⟩:=KB h hv hg
 refine⟨by rw[DN];exact hl,fun _=>rfl,?_⟩
 refine Fz f.body ho (d:=⟨news args++IP (f.nslots-f.nparams),IW f.nbox,[]⟩) ⟨(EL.news args).append (Rm _),Rl _,trivial⟩ hok h1 fun s' hs'=>?_
 obtain⟨s2,e2⟩:=Ws hs' h3 h4
 rw[← h5] at e2
 have fin:(match Jb s' f.res with|some (v,st)=>if f.pure=true then v.flt=true∧Q v [] else Q v st.hp|none=>False):=by
  rw[e2];simp only;split
  · rename_i hpu;exact⟨RV v (hp hpu),hQ _⟩
  · exact hQ _
 cases e with
 |normal=>exact fin
 |ret=>exact fin
 |exit i=>exact absurd rfl (h2 i)
def TuX:List HT→Type
 |[]=>Unit
 |[a]=>a.D
 |a::r=>a.D×TuX r
def E1:(l:List HT)→List DV→Option (TuX l)
 |[],[]=>some ()
 |[a],[v]=>a.of v
 | a::b::r,v::vs=>(match a.of v,E1 (b::r) vs with
   |some x,some y=>some (x,y)
   |_,_=>none)
 |_,_=>none
def Dh:(l:List HT)→TuX l→List DV
 |[],_=>[]
 |[a],x=>[a.dv x]
 |a::b::r,x=>a.dv x.1::Dh (b::r) x.2
inductive QT where
 |one (h:HT)|tup (l:List HT)
def QT.D:QT→Type
 |.one h=>h.D
 |.tup l=>TuX l
def QT.of:(q:QT)→DV→Option q.D
 |.one h,v=>h.of v
 |.tup l,.tup vs=>E1 l vs
 |.tup _,_=>none
def QT.dv:(q:QT)→q.D→DV
 |.one h,x=>h.dv x
 |.tup l,x=>.tup (Dh l x)
def QT.ofO(q:QT):Option DV→Option q.D
 |some v=>q.of v
 |none=>none
def WR:(l:List (Ql×CT))→AgX l
 |[]=>()
 |[a]=>a.2.dflt
 |a::b::r=>(a.2.dflt,WR (b::r))
def HT.dflt:(h:HT)→h.D
 |.one _ t=>t.dflt
 |.agg l=>WR l
def Xa:(l:List HT)→TuX l
 |[]=>()
 |[a]=>a.dflt
 |a::b::r=>(a.dflt,Xa (b::r))
def QT.dflt:(q:QT)→q.D
 |.one h=>h.dflt
 |.tup l=>Xa l
def HT.flt:HT→Bool
 |.one _ t=>t.flat
 |.agg l=>l.all fun a=>a.2.flat
def QT.flt:QT→Bool
 |.one h=>h.flt
 |.tup l=>l.all HT.flt
theorem MA:∀ {l:List HT} {vs:List DV} {x:TuX l},E1 l vs=some x→DV.encL (Dh l x)=DV.encL vs
 |[],[],_,_=>rfl
 | [a],[v],x,h=>by
   show [(a.dv x).enc]=[v.enc]
   rw[(Mr (t:=a) h).1]
 | a :: b::r,v::vs,x,h=>by
   have h':(match a.of v,E1 (b::r) vs with|some x,some y=>some (x,y)|_,_=>none)=some x:=h
   clear h
   cases h1:a.of v with
   |none=>rw[h1] at h';cases h'
   | some p=>
     cases h2:E1 (b::r) vs with
     |none=>rw[h1,h2] at h';cases h'
     | some q=>
       rw[h1,h2] at h'
       have h':=BZ h'
       subst h'
       show (a.dv p).enc::DV.encL (Dh (b::r) q)=v.enc::DV.encL vs
       rw[(Mr h1).1,MA h2]
theorem Xl{q:QT}{v:DV}{x:q.D}(h:q.of v=some x):(q.dv x).enc=v.enc∧v≠.any:=by
 cases q with
 |one t=>exact Mr (t:=t) h
 | tup l=>
   cases v<;>try (cases h;done)
   rename_i cs;refine⟨?_,by simp⟩;show PV.tup _=PV.tup _;rw[MA (l:=l) h]
theorem Ov:∀ (l:List HT) (x:TuX l),(Dh l x).length=l.length
 |[],_=>rfl
 |[_],_=>rfl
 | a::b::r,x=>by
   show (Dh (b::r) x.2).length+1=(b::r).length+1
   rw[Ov (b::r) x.2]
theorem Sd{q:Ql}{t:CT}{v:DV}{x:t.D}(hf:t.flat=true)(h:t.ofQ q v=some x):v.flt=true:=by
 cases t<;>first|(cases hf;done)|skip
 all_goals (cases v<;>first|rfl|(cases h;done))
theorem WQ:∀ {l:List (Ql×CT)} {vs:List DV} {x:AgX l},l.all (fun a=>a.2.flat)=true→H4 l vs=some x→DV.fltL vs=true
 |[],[],_,_,_=>rfl
 | [a],[v],x,hf,h=>by
   simp only[DW,List.all_nil,Kx] at hf
   simp only[DV.fltL,Sd (q:=a.1) hf h,BM]
 | a :: b::r,v::vs,x,hf,h=>by
   have h':(match a.2.ofQ a.1 v,H4 (b::r) vs with|some x,some y=>some (x,y)|_,_=>none)=some x:=h
   clear h
   rw[DW,Ah] at hf
   cases h1:a.2.ofQ a.1 v with
   |none=>rw[h1] at h';cases h'
   | some p=>
     cases h2:H4 (b::r) vs with
     |none=>rw[h1,h2] at h';cases h'
     |some q=>simp only[DV.fltL,Sd hf.1 h1,WQ hf.2 h2,BM]
theorem SC{t:HT}{v:DV}{x:t.D}(hf:t.flt=true)(h:t.of v=some x):v.flt=true:=by
 cases t with
 |one q t=>exact Sd (q:=q) (t:=t) hf h
 | agg l=>
   cases v<;>try (cases h;done)
   exact WQ (l:=l) hf h
theorem W9:∀ {l:List HT} {vs:List DV} {x:TuX l},l.all HT.flt=true→E1 l vs=some x→DV.fltL vs=true
 |[],[],_,_,_=>rfl
 | [a],[v],x,hf,h=>by
   simp only[DW,List.all_nil,Kx] at hf
   simp only[DV.fltL,SC (t:=a) hf h,BM]
 | a :: b::r,v::vs,x,hf,h=>by
   have h':(match a.of v,E1 (b::r) vs with|some x,some y=>some (x,y)|_,_=>none)=some x:=h
   clear h
   rw[DW,Ah] at hf
   cases h1:a.of v with
   |none=>rw[h1] at h';cases h'
   | some p=>
     cases h2:E1 (b::r) vs with
     |none=>rw[h1,h2] at h';cases h'
     |some q=>simp only[DV.fltL,SC hf.1 h1,W9 hf.2 h2,BM]
theorem W1{q:QT}{v:DV}{x:q.D}(hf:q.flt=true)(h:q.of v=some x):v.flt=true:=by
 cases q with
 |one t=>exact SC (t:=t) hf h
 | tup l=>
   cases v<;>try (cases h;done)
   exact W9 (l:=l) hf h
def F7(hs:List HT)(q:QT)(ok:TuX hs→Prop)(v:TuX hs→q.D):E0:=fun args=>match E1 hs args with
 |some x=>some (.p (ok x),q.dv (v x))
 |none=>none
def DT.valQ(q:QT)(res:List ARes):DT→PX×Option q.D
 |.leaf (.exit _) _=>(.ff,none)
 | .leaf _ st=>(match Ep st res with
   | some v=>if v.ok&&!v.hasPtr then (match q.of v with
     |some y=>(.tt,some y)
     |none=>(.ff,none)) else (.ff,none)
   |none=>(.ff,none))
 | .node c a b=>(match a.valQ q res,b.valQ q res with
   |(g,none),(g',y)=>(PX.if' c g g',y)
   |(g,x),(g',none)=>(PX.if' c g g',x)
   |(g,some x),(g',some y)=>(PX.if' c g g',some (bSel c x y)))
 | .chk g t=>(match t.valQ q res with
   |(g',v)=>(g.land g',v))
 |.bad=>(.ff,none)
theorem Lx{q:QT}{res:List ARes}:∀ {t:DT} {g:PX},t.valQ q res=(g,none)→¬ g.den
 | .leaf e st,g,h=>by
   cases e<;>simp only[DT.valQ] at h<;>(repeat' split at h)<;>simp only[Ak,reduceCtorEq,and_false,and_true] at h<;>subst h<;>exact id
 | .node c x y,g,h=>by
   intro hg
   simp only[DT.valQ] at h
   cases h1:x.valQ q res with
   | mk g1 v1=>
     cases h2:y.valQ q res with
     | mk g2 v2=>
       rw[h1,h2] at h
       cases v1 with
       | none=>
         simp only[Ak] at h
         obtain⟨rfl,rfl⟩:=h
         have:=(PX.if_den _ _ _).mp hg
         cases c with
         |true=>exact Lx h1 (this.1 rfl)
         |false=>exact Lx h2 (this.2 rfl)
       |some v1=>cases v2<;>simp at h
 | .chk g0 t,g,h=>by
   intro hg
   simp only[DT.valQ] at h
   cases h1:t.valQ q res with
   | mk g1 v1=>
     rw[h1] at h
     simp only[Ak] at h
     obtain⟨rfl,rfl⟩:=h
     exact Lx h1 ((PX.land_den _ _).mp hg).2
 | .bad,g,h=>by
   simp only[DT.valQ,Ak,and_true] at h
   subst h;exact id
theorem Pc{q:QT}{res:List ARes}:∀ {t:DT} {g:PX} {y:q.D},t.valQ q res=(g,some y)→g.den →
 t.ok.den∧∃ e st v0,t.lf=some (e,st)∧(∀ i,e≠.exit i)∧Ep st res=some v0∧v0.ok=true∧q.of v0=some y
 | .leaf e st,g,y,h,hg=>by
   have gen:(match Ep st res with|some v=>if (v.ok&&!v.hasPtr)=true then (match q.of v with|some y=>(PX.tt,some y)|none=>(PX.ff,none)) else (PX.ff,none)|none=>(PX.ff,none))=(g,some y)→∃ v,Ep st res=some v∧v.ok=true∧q.of v=some y:=fun h=>by
    split at h
    · rename_i v hv;split at h
      · rename_i hc;simp only[Ah] at hc;split at h
        · rename_i y' hy;simp only[Ak,Ai] at h;obtain⟨_,rfl⟩:=h;exact⟨v,hv,hc.1,hy⟩
        · simp at h
      · simp at h
    · simp at h
   cases e with
   |exit i=>simp[DT.valQ] at h
   |normal=>obtain⟨v,h1,h2,h3⟩:=gen h;exact⟨trivial,.normal,st,v,rfl,by simp,h1,h2,h3⟩
   |ret=>obtain⟨v,h1,h2,h3⟩:=gen h;exact⟨trivial,.ret,st,v,rfl,by simp,h1,h2,h3⟩
 | .node c a b,g,y,h,hg=>by
   simp only[DT.valQ] at h;show (PX.if' c a.ok b.ok).den∧∃ e st v0,(DT.node c a b).lf=some (e,st)∧(∀ i,e≠.exit i)∧Ep st res=some v0∧v0.ok=true∧q.of v0=some y;rw[PX.if_den]
   cases h1:a.valQ q res with
   | mk g1 v1=>
     cases h2:b.valQ q res with
     | mk g2 v2=>
       rw[h1,h2] at h
       have hgg:g=PX.if' c g1 g2:=by
        cases v1<;>cases v2<;>simp only[Ak] at h<;>exact h.1.symm
       subst hgg;have hg:=(PX.if_den _ _ _).mp hg
       cases c with
       | true=>
         have:v1=some y:=by
          cases v1 with
          |none=>exact absurd (hg.1 rfl) (Lx h1)
          |some v1=>cases v2<;>simp only[Ak,Fv] at h<;>exact h.2
         subst this;obtain⟨k1,k2⟩:=Pc h1 (hg.1 rfl);exact⟨⟨fun _=>k1,fun h=>by cases h⟩,k2⟩
       | false=>
         have:v2=some y:=by
          cases v2 with
          |none=>exact absurd (hg.2 rfl) (Lx h2)
          |some v2=>cases v1<;>simp only[Ak,Em] at h<;>exact h.2
         subst this;obtain⟨k1,k2⟩:=Pc h2 (hg.2 rfl);exact⟨⟨fun h=>(by cases h),fun _=>k1⟩,k2⟩
 | .chk g0 t,g,y,h,hg=>by
   simp only[DT.valQ] at h
   cases h1:t.valQ q res with
   | mk g1 v1=>
     rw[h1] at h;simp only[Ak] at h;obtain⟨rfl,rfl⟩:=h;have hg:=(PX.land_den _ _).mp hg;obtain⟨k1,k2⟩:=Pc h1 hg.2;exact⟨(PX.land_den _ _).mpr ⟨hg.1,k1⟩,k2⟩
 |.bad,g,y,h,hg=>by simp[DT.valQ] at h
def QT.isB:QT→Bool
 |.one (.one _ .bool)=>true
 |_=>false
def MV(f:DFun)(hs:List HT)(q:QT)(x:TuX hs):PX×Option q.D:=
 if q.isB then ((MN f (Dh hs x)).1,q.ofO (MN f (Dh hs x)).2)
 else (dev f.body ⟨news (Dh hs x)++IP (f.nslots-f.nparams),IW f.nbox,[]⟩).valQ q f.res
def FF(f:DFun)(hs:List HT)(q:QT)(x:TuX hs):q.D:=(MV f hs q x).2.getD q.dflt
def FC(f:DFun)(hs:List HT)(q:QT)(x:TuX hs):Prop:=(MV f hs q x).1.den
def KI(f:DFun)(hs:List HT)(q:QT)(x:TuX hs):Bool:=(MV f hs q x).2.isSome
def KS(f:DFun)(hs:List HT)(q:QT):Bool:=hs.length == f.nparams&&(!f.pure||q.flt)
theorem VG {f:DFun} {hs:List HT} {q:QT} (ho:AllD f.body.obs) (hst:KS f hs q=true) (x:TuX hs) (hc:KI f hs q x=true) (hok:FC f hs q x)
 {Q:PV→List (List PV)→Prop} (hQ:∀ H,Q (q.dv (FF f hs q x)).enc H):IK f.er (DV.encL (Dh hs x)) [] Q:=by
 simp only[KS,Ah,AA,B1,C8] at hst
 unfold KI at hc
 unfold FF at hQ
 unfold FC at hok
 unfold MV at hc hQ hok
 by_cases hb:q.isB=true
 · rw[Ab hb] at hc hQ hok
   cases hd:MN f (Dh hs x) with
   | mk g o=>
     rw[hd] at hc hQ hok
     cases o with
     |none=>cases hc
     | some w=>
       obtain⟨y,hy⟩:=Option.isSome_iff_exists.mp hc;rw[hy] at hQ;have hy:q.of w=some y:=hy;obtain⟨h1,h2⟩:=Xl hy
       refine cR ho hd hok h2 (by rw[Ov];exact hst.1) (fun hp=>W1 (by simpa [hp] using hst.2) hy) fun H=>?_
       have:=hQ H;rw[ID,h1] at this;exact this
 · rw[Ad hb] at hc hQ hok
   cases hd:(dev f.body ⟨news (Dh hs x)++IP (f.nslots-f.nparams),IW f.nbox,[]⟩).valQ q f.res with
   | mk g o=>
     rw[hd] at hc hQ hok
     cases o with
     |none=>cases hc
     | some y=>
       simp only[ID] at hQ;obtain⟨k1,e,st,v0,k2,k3,k4,k5,k6⟩:=Pc hd hok;obtain⟨h1,h2⟩:=Xl k6;refine⟨by rw[DN,Ov];exact hst.1,fun _=>rfl,?_⟩
       refine Fz f.body ho (d:=⟨news (Dh hs x)++IP (f.nslots-f.nparams),IW f.nbox,[]⟩) ⟨(EL.news _).append (Rm _),Rl _,trivial⟩ k1 k2 fun s' hs'=>?_
       obtain⟨s2,e2⟩:=Ws hs' k4 k5;rw[← h1] at e2
       have fin:(match Jb s' f.res with|some (v,st)=>if f.pure=true then v.flt=true∧Q v [] else Q v st.hp|none=>False):=by
        rw[e2];simp only;split
        · rename_i hpu;exact⟨by rw[h1];exact RV _ (W1 (by simpa [hpu] using hst.2) k6),hQ _⟩
        · exact hQ _
       cases e with
       |normal=>exact fin
       |ret=>exact fin
       |exit i=>exact absurd rfl (k3 i)
theorem U5{f:DFun}{hs:List HT}{q:QT}(ho:AllD f.body.obs)(hst:KS f hs q=true)(hc:∀ x,KI f hs q x=true){ok:TuX hs→Prop}{v:TuX hs→q.D}(hok:∀ x,ok x→FC f hs q x)(hv:∀ x,FF f hs q x=v x) :
 HI (IK f.er) (F7 hs q ok v):=by
 intro args g w Q h hg hQ
 unfold F7 at h
 cases hx:E1 hs args with
 |none=>rw[hx] at h;cases h
 | some x=>
   rw[hx] at h;simp only[Ai,Ak] at h;obtain⟨rfl,rfl⟩:=h;rw[← MA hx]
   exact VG ho hst x (hc x) (hok x hg) fun H=>by rw[hv];exact hQ H
attribute [irreducible] MV FF FC KI KS
def AL:List DV→List DC
 |[]=>[]
 |v::r=>⟨false,v⟩::AL r
open Go.RowKit Go.WideShapes Go.ChangeShapes
inductive Ty where
 |int (k:IntKind)
 |bool
 |str
 |sl (t:Ty)
 |unit
 |pair (a b:Ty)
def Ty.w:Ty→Nat
 |.int _|.bool|.str|.sl _=>1
 |.unit=>0
 |.pair a b=>a.w+b.w
def MH(P:Program)(f:TypeId→Option Ty):List Field→Nat→Option Ty
 |[],_=>some .unit
 | g::r,off=>
   match f g.type with
   |some a=>if g.offset=off∧a.w=P.cellsOf g.type then (match MH P f r (off+a.w) with|some b=>some (.pair a b)|none=>none) else none
   |none=>none
def Gl(P:Program):Nat→TypeId→Option Ty
 |0,_=>none
 | d+1,t=>
   match P.underlying t with
   |some (.int k)=>some (.int k)
   |some .bool=>some .bool
   |some .string=>some .str
   |some (.slice e)=>(match Gl P d e with|some te=>if te.w=P.cellsOf e∧0<te.w then some (.sl te) else none|none=>none)
   |some (.struct fs)=>(match MH P (Gl P d) fs.toList 0 with|some ty=>if ty.w=P.cellsOf t then some ty else none|none=>none)
   |_=>none
def Sh(σ:Ac):Ty→List V→Prop
 |.int k,cs=>∃ n,cs=[.int k n]∧(Lit.int k n).wf=true
 |.bool,cs=>∃ b,cs=[.bool b]
 |.str,cs=>∃ s,cs=[.str s]∧s.length≤maxLen
 |.sl t,cs=>cs=[.nils]∨∃ (l n:Nat) (bs:List V),cs=[.slice l 0 n]∧σ[l]?=some ⟨.ro,t.w,bs⟩∧bs.length=n*t.w∧n≤maxLen∧∀ i,i<n→Sh σ t ((bs.drop (i*t.w)).take t.w)
 |.unit,cs=>cs=[]
 |.pair a b,cs=>∃ xs ys,cs=xs++ys∧Sh σ a xs∧Sh σ b ys
theorem Sh.len{σ:Ac}:∀ {ty:Ty} {cs:List V},Sh σ ty cs→cs.length=ty.w
 |.int _,_,⟨_,h,_⟩=>by rw[h];rfl
 |.bool,_,⟨_,h⟩=>by rw[h];rfl
 |.str,_,⟨_,h,_⟩=>by rw[h];rfl
 |.sl _,_,h=>by rcases h with h|⟨_,_,_,h,_⟩<;>rw[h]<;>rfl
 |.unit,_,h=>by rw[h];rfl
 |.pair a b,_,⟨xs,ys,h,h1,h2⟩=>by rw[h,Cy,h1.len,h2.len];rfl
theorem Sh.mono{σ e:Ac}:∀ {ty:Ty} {cs:List V},Sh σ ty cs→Sh (σ++e) ty cs
 |.int _,_,h=>h
 |.bool,_,h=>h
 |.str,_,h=>h
 | .sl _,_,h=>by
   rcases h with h|⟨l,n,bs,h,h1,h2,h3,h4⟩
   · exact .inl h
   · exact .inr ⟨l,n,bs,h,by rw[Ba (Bs h1)];exact h1,h2,h3,fun i hi=>(h4 i hi).mono⟩
 |.unit,_,h=>h
 |.pair _ _,_,⟨xs,ys,h,h1,h2⟩=>⟨xs,ys,h,h1.mono,h2.mono⟩
def CK(σ:Ac):Prop:=∀ (l:Nat) (b:Blk),σ[l]?=some b→b.k= .ro
def Ms(ι:Am)(σ:Ac)(W:World)(ty:Ty)(cs:List Value):Prop:=
 ∃ ι' e vs,HRel ι' (σ++e) W∧Keeps ι σ ι' (σ++e)∧CK (σ++e)∧Sh (σ++e) ty vs∧vs.length=cs.length∧∀ (i:Nat) v x,vs[i]?=some v→cs[i]?=some x→v.cell=true∧∀ β,Rel ι' (σ++e) β v x
theorem HRel.lay{ι:Am}{σ:Ac}{W:World}(h:HRel ι σ W)(hro:CK σ){b off c:Nat}{wd:Nat}{bs:List V}(hb:b<W.heap.size)(hc:∀ (i:Nat) v,bs[i]?=some v→v.cell=true∧∃ x,W.cell? ⟨b,off+i,none⟩=some x∧∀ β,Rel ι σ β v x) :
 HRel (upd ι σ.length ⟨b,off,c⟩) (σ++[⟨.ro,wd,bs⟩]) W∧CK (σ++[⟨.ro,wd,bs⟩]):=by
 have K:=Lq ι σ ⟨b,off,c⟩ ⟨.ro,wd,bs⟩
 have hall:CK (σ++[⟨.ro,wd,bs⟩]):=by
  intro l blk hl;rcases DK hl with⟨_,hl⟩|⟨_,rfl⟩
  · exact hro l blk hl
  · rfl
 refine⟨⟨fun l blk hl hk i v hv=>?_,fun l blk hl hk=>?_,fun l l' blk blk' hne hl hl' hk hk'=>?_,fun l blk hl hk=>?_⟩,hall⟩
 · rcases DK hl with⟨hlt,hl⟩|⟨rfl,rfl⟩
   · rw[B6 _ _ _ _ (by omega)];obtain⟨a,x,b',c⟩:=h.cells l blk hl hk i v hv;exact⟨a,x,b',fun β=>(c β).cellMono K a⟩
   · rw[Br];obtain⟨a,x,b',c⟩:=hc i v hv;exact⟨a,x,b',fun β=>(c β).cellMono K a⟩
 · have:=hall l blk hl;rw[hk] at this;cases this
 · have:=hall l blk hl;rw[hk] at this;cases this
 · rcases DK hl with⟨hlt,hl⟩|⟨rfl,rfl⟩
   · rw[B6 _ _ _ _ (by omega)];exact h.there l blk hl hk
   · rw[Br];exact hb
theorem aE{w:World}{a:Addr}{v:Value}(h:w.cell? a=some v):a.block<w.heap.size:=by
 unfold World.cell? at h;rcases A9 a.block w.heap.size with h1|h1
 · exact h1
 · rw[Array.getElem?_eq_none h1] at h;cases h
theorem O7{α:Type}{l:List α}{i:Nat}{v:α}(h:l[i]?=some v):i<l.length:=by
 rcases A9 i l.length with h1|h1
 · exact h1
 · rw[A0 h1] at h;cases h
section
variable {H:Type} {enc:TypeId×Value→H} {P:Program} {W:World}
theorem T4(d:Nat)(ih:∀ (t:TypeId)(ty:Ty),Gl P d t=some ty→∀ (fuel:Nat)(cs:List Value) x,DataW.trod enc P W 0 (fun _=>true) true fuel t cs=some x→∀ (ι:Am)(σ:Ac),HRel ι σ W→CK σ→Ms ι σ W ty cs) :
 ∀ (fs:List Field) (off:Nat) (ty:Ty),MH P (Gl P d) fs off=some ty→∀ (fuel:Nat) (cs:List Value),(∀ g∈fs,∃ x,DataW.trod enc P W 0 (fun _=>true) true fuel g.type ((cs.drop g.offset).take (P.cellsOf g.type))=some x) →
   off+ty.w=cs.length→∀ (ι:Am) (σ:Ac),HRel ι σ W→CK σ→Ms ι σ W ty (cs.drop off)
 | [],off,ty,h,fuel,cs,_,hl,ι,σ,H,hro=>by
   simp only[MH,Ai] at h;subst h;simp only[Ty.w,Dx] at hl
   have:cs.drop off=[]:=by rw[hl];simp
   rw[this];exact⟨ι,[],[],by simpa using H,by simpa using Keeps.refl ι σ,by simpa using hro,rfl,rfl,by simp⟩
 | g :: r, off,ty,h,fuel,cs,hg,hl,ι,σ,H,hro=>by
   simp only[MH] at h;split at h
   · rename_i a ha;split at h
     · rename_i hc;obtain⟨h1,h2⟩:=hc;split at h
       · rename_i b hb;cases h;simp only[Ty.w] at hl;obtain⟨x,hx⟩:=hg g (by simp);rw[h1] at hx;obtain⟨ι1,e1,vs1,H1,K1,R1,S1,L1,C1⟩:=ih g.type a ha fuel _ x hx ι σ H hro;obtain⟨ι2,e2,vs2,H2,K2,R2,S2,L2,C2⟩:=T4 d ih r (off+a.w) b hb fuel cs (fun g' hg'=>hg g' (by simp[hg'])) (by omega) ι1 (σ++e1) H1 R1;refine⟨ι2,e1++e2,vs1++vs2,by rw[← Bm];exact H2,by rw[← Bm];exact K1.trans K2,by rw[← Bm];exact R2,⟨vs1,vs2,rfl,by rw[← Bm];exact S1.mono,by rw[← Bm];exact S2⟩,?_,fun i v y hv hy=>?_⟩
         · rw[Cy,L1,L2];simp;omega
         · have hl1:vs1.length=a.w:=S1.len;by_cases hi:i<vs1.length
           · rw[Ba hi] at hv
             have hy':((cs.drop off).take (P.cellsOf g.type))[i]?=some y:=by
              rw[Ft,Ab (by omega)];exact hy
             obtain⟨q1,q2⟩:=C1 i v y hv hy';exact⟨q1,fun β=>by rw[← Bm];exact(q2 β).cellMono K2 q1⟩
           · rw[Ci (by omega)] at hv
             have hy':(cs.drop (off+a.w))[i-vs1.length]?=some y:=by
              rw[I7] at hy ⊢
              have:off+a.w+(i-vs1.length)=off+i:=by omega
              rw[this];exact hy
             obtain⟨q1,q2⟩:=C2 _ v y hv hy';exact⟨q1,fun β=>by rw[← Bm];exact q2 β⟩
       · cases h
     · cases h
   · cases h
theorem Wi{b o:Nat}(n:Nat):Addr.add ⟨b,o,none⟩ n=⟨b,o+n,none⟩:=by
 unfold Addr.add;split
 · rename_i h;subst h;rfl
 · rfl
theorem Ug {d:Nat} (ih:∀ (t:TypeId) (ty:Ty),Gl P d t=some ty→∀ (fuel:Nat) (cs:List Value) x,DataW.trod enc P W 0 (fun _=>true) true fuel t cs=some x→∀ (ι:Am) (σ:Ac),HRel ι σ W→CK σ→Ms ι σ W ty cs)
 {e:TypeId} {te:Ty} (hte:Gl P d e=some te) (hw:te.w=P.cellsOf e) {fuel b o:Nat} :
 ∀ (n:Nat),(∀ i,i<n→∃ cs x,W.cells? 0 ⟨b,o+i*te.w,none⟩ te.w=some cs∧DataW.trod enc P W 0 (fun _=>true) true fuel e cs=some x)→∀ (ι:Am) (σ:Ac),HRel ι σ W→CK σ →
   ∃ (ι':Am) (ext:Ac) (bs:List V),HRel ι' (σ++ext) W∧Keeps ι σ ι' (σ++ext)∧CK (σ++ext)∧bs.length=n*te.w∧(∀ i,i<n→Sh (σ++ext) te ((bs.drop (i*te.w)).take te.w)) ∧
     ∀ (j:Nat) v,bs[j]?=some v→v.cell=true∧∃ x,W.cell? ⟨b,o+j,none⟩=some x∧∀ β,Rel ι' (σ++ext) β v x
 |0,_,ι,σ,H0,hro=>⟨ι,[],[],by simpa using H0,by simpa using Keeps.refl ι σ,by simpa using hro,by simp,fun i hi=>absurd hi (SH i),by simp⟩
 | n + 1,hn,ι,σ,H0,hro=>by
   obtain⟨ι1,e1,bs,H1,K1,R1,L1,S1,C1⟩:=Ug ih hte hw n (fun i hi=>hn i (Nat.lt_succ_of_lt hi)) ι σ H0 hro;obtain⟨cs,x,hc,hx⟩:=hn n (Sm n);obtain⟨ι2,e2,vs,H2,K2,R2,S2,L2,C2⟩:=ih e te hte fuel cs x hx ι1 (σ++e1) H1 R1;obtain⟨_,hcl,hcg⟩:=World.cells?_some hc;refine⟨ι2,e1++e2,bs++vs,by rw[← Bm];exact H2,by rw[← Bm];exact K1.trans K2,by rw[← Bm];exact R2,?_,fun i hi=>?_,fun j v hv=>?_⟩
   · rw[Cy,L1,L2,hcl,IV]
   · rw[← Bm];by_cases h:i<n
     · have h1:(i+1)*te.w≤n*te.w:=F4 _ h;rw[IV] at h1
       have:((bs++vs).drop (i*te.w)).take te.w=(bs.drop (i*te.w)).take te.w:=by
        rw[List.drop_append_of_le_length (by omega),List.take_append_of_le_length (by rw[L7];omega)]
       rw[this];exact(S1 i h).mono
     · have:i=n:=by omega
       subst this
       have:((bs++vs).drop (i*te.w)).take te.w=vs:=by
        rw[← L1,List.drop_left,OW (by omega)]
       rw[this];exact S2
   · by_cases h:j<bs.length
     · rw[Ba h] at hv;obtain⟨q1,y,q2,q3⟩:=C1 j v hv;exact⟨q1,y,q2,fun β=>by rw[← Bm];exact(q3 β).cellMono K2 q1⟩
     · rw[Ci (by omega)] at hv;have hlt:=O7 hv
       have hlt':j-bs.length<te.w:=by rw[← hcl,← L2];exact hlt
       have hg:=hcg (j-bs.length) hlt';rw[Wi] at hg
       have e0:o+n*te.w+(j-bs.length)=o+j:=by omega
       rw[e0] at hg;obtain⟨y,hy⟩:∃ y,cs[j-bs.length]?=some y:=⟨_,Av (by omega)⟩;obtain⟨q1,q2⟩:=C2 _ v y hv hy;exact⟨q1,y,hg.trans hy,fun β=>by rw[← Bm];exact q2 β⟩
theorem P6:∀ (d:Nat) (t:TypeId) (ty:Ty),Gl P d t=some ty→∀ (fuel:Nat) (cs:List Value) x,DataW.trod enc P W 0 (fun _=>true) true fuel t cs=some x→∀ (ι:Am) (σ:Ac),HRel ι σ W→CK σ→Ms ι σ W ty cs
 |0,_,_,h=>by simp[Gl] at h
 | d + 1, t, ty,h=>by
   intro fuel cs x hx ι σ H0 hro
   have one:∀ (v:V) (y:Value),cs=[y]→v.cell=true→(∀ β,Rel ι σ β v y)→Sh σ ty [v]→Ms ι σ W ty cs:=by
    intro v y hc hv hr hs;refine⟨ι,[],[v],by simpa using H0,by simpa using Keeps.refl ι σ,by simpa using hro,by simpa using hs,by rw[hc];rfl,fun i u z hu hz=>?_⟩;rw[hc] at hz
    cases i with
    |zero=>simp at hu hz;subst hu;subst hz;exact⟨hv,by simpa using hr⟩
    |succ i=>simp at hu
   unfold Gl at h;split at h
   · rename_i k hu;cases h;obtain⟨n,hc,_,hwf⟩:=DataW.trod_int hu hx;exact one (.int k n) _ hc rfl (fun β=>.int k n) ⟨n,rfl,hwf⟩
   · rename_i hu;cases h;obtain⟨b,hc,_⟩:=DataW.trod_bool hu hx;exact one (.bool b) _ hc rfl (fun β=>.bool b) ⟨b,rfl⟩
   · rename_i hu;cases h;obtain⟨s,hc,_,hwf⟩:=DataW.trod_string hu hx;exact one (.str s.data.toList) _ hc rfl (fun β=>by have:=Rel.str (ι:=ι) (σ:=σ) (β:=β) s.data.toList;simpa using this) ⟨s.data.toList,rfl,by simpa using hwf⟩
   · rename_i e hu;split at h
     · rename_i te hte;split at h
       · rename_i hw;obtain⟨hw,hpos⟩:=hw;cases h;rcases DataW.trod_slice hu hx with⟨hc,_⟩|⟨a,len,cap,elems,rest,n,_,hc,_,_,hle,hcap,hel,hE,hR,_⟩
         · exact one .nils _ hc rfl (fun β=>.nils none) (.inl rfl)
         · obtain⟨hrl,hR⟩:=hR rfl
           have hcell:∀ i,i<cap→∃ cs' y,W.cells? 0 (a.add (i*P.cellsOf e)) (P.cellsOf e)=some cs'∧DataW.trod enc P W 0 (fun _=>true) true n e cs'=some y:=by
            intro i hi;by_cases h:i<len
            · have h1:=hE i h;obtain⟨y,hy⟩:∃ y,elems[i]?=some y:=⟨_,Av (by omega)⟩;rw[hy,Bn] at h1;obtain⟨cs',h1,h2⟩:=h1;exact⟨cs',y,h1,h2⟩
            · have h1:=hR (i-len) (by omega);obtain⟨y,hy⟩:∃ y,rest[i-len]?=some y:=⟨_,Av (by omega)⟩;rw[hy,Bn] at h1;obtain⟨cs',h1,h2⟩:=h1;rw[show len+(i-len)=i by omega] at h1;exact⟨cs',y,h1,h2⟩
           by_cases hc0:cap=0
           · subst hc0
             have:len=0:=by omega
             subst this;exact one .nils _ hc rfl (fun β=>.nils (some a)) (.inl rfl)
           · have hsp:a.spot=none∧a.block<W.heap.size:=by
              obtain⟨cs',y,h1,_⟩:=hcell 0 (by omega);obtain⟨_,h2,h3⟩:=World.cells?_some h1;have h4:=h3 0 (by omega);obtain⟨z,hz⟩:∃ z,cs'[0]?=some z:=⟨_,Av (by omega)⟩;rw[hz] at h4
              have h5:W.cell? a=some z:=by simpa [Addr.add] using h4
              exact⟨World.cell?_spot h5,aE h5⟩
             obtain⟨ab,ao,asp⟩:=a;obtain⟨hsp,hlt⟩:=hsp;simp only at hsp hlt;subst hsp
             have hcell':∀ i,i<len→∃ cs' y,W.cells? 0 ⟨ab,ao+i*te.w,none⟩ te.w=some cs'∧DataW.trod enc P W 0 (fun _=>true) true n e cs'=some y:=by
              intro i hi;have:=hcell i (by omega);rw[Wi,← hw] at this;exact this
             obtain⟨ι1,e1,bs,H1,K1,R1,L1,S1,C1⟩:=Ug (P6 d) hte hw len hcell' ι σ H0 hro;obtain⟨H2,R2⟩:=H1.lay R1 (c:=cap*te.w) (wd:=te.w) hlt C1;have K2:=Lq ι1 (σ++e1) ⟨ab,ao,cap*te.w⟩ ⟨.ro,te.w,bs⟩
             have hg:((σ++e1)++[(⟨.ro,te.w,bs⟩:Blk)])[(σ++e1).length]?=some ⟨.ro,te.w,bs⟩:=by simp
             refine⟨_,e1++[⟨.ro,te.w,bs⟩],[.slice (σ++e1).length 0 len],by rw[← Bm];exact H2,by rw[← Bm];exact K1.trans K2,by rw[← Bm];exact R2,.inr ⟨_,len,bs,rfl,by rw[← Bm];exact hg,L1,by omega,fun i hi=>by rw[← Bm];exact(S1 i hi).mono⟩,by rw[hc];rfl,fun i u z hu hz=>?_⟩;rw[hc] at hz
             cases i with
             | zero=>
               simp at hu hz;subst hu;subst hz;refine⟨rfl,fun β=>?_⟩;have:=Rel.slice (ι:=upd ι1 (σ++e1).length ⟨ab,ao,cap*te.w⟩) (σ:=(σ++e1)++[⟨.ro,te.w,bs⟩]) (β:=β) (σ++e1).length 0 len cap ⟨.ro,te.w,bs⟩ hg hle (by rw[Br];simp) (by first|assumption|(simp only;omega));rw[Br] at this;simpa using this
             |succ i=>simp at hu
       · cases h
     · cases h
   · rename_i fs hu;split at h
     · rename_i ty' hty;split at h
       · rename_i hw;cases h;obtain⟨xs,n,_,_,hl,hxl,hf⟩:=DataW.trod_struct hu hx
         have:=T4 (enc:=enc) d (P6 d) fs.toList 0 _ hty n cs (fun g hg=>by
          obtain⟨i,hi⟩:=F8 hg;have h1:=hf i g (by simpa using hi)
          have:i<xs.length:=by rw[hxl];have:=O7 hi;simpa using this
          exact⟨_,h1.trans (Av this)⟩) (by omega) ι σ H0 hro
         simpa using this
       · cases h
     · cases h
   · cases h
end
open Go.RowKit Go.WideShapes Go.ChangeShapes
def S3(P:Program)(d:Nat)(t:TypeId):Option (Ty×Bool):=
 match Gl P d t with
 | some ty=>(match P.underlying t with
   |some (.struct _)=>some (ty,true)
   |some (.int _)|some .bool|some .string|some (.slice _)=>some (ty,false)
   |_=>none)
 |none=>none
def Kv(P:Program)(d:Nat):List TypeId→Option (List (Ty×Bool))
 |[]=>some []
 | t::r=>match S3 P d t,Kv P d r with
   |some a,some b=>some (a::b)
   |_,_=>none
def ArgOk(σ:Ac):Ty×Bool→V→Prop
 |(ty,true),v=>∃ cs,v= .agg cs∧Sh σ ty cs∧cs.all V.cell=true
 |(ty,false),v=>Sh σ ty [v]∧v.cell=true
def Kl(σ:Ac):List (Ty×Bool)→List V→Prop
 |[],[]=>True
 |a::r,v::s=>ArgOk σ a v∧Kl σ r s
 |_,_=>False
theorem ArgOk.mono{σ e:Ac}{a:Ty×Bool}{v:V}(h:ArgOk σ a v):ArgOk (σ++e) a v:=by
 obtain⟨ty,b⟩:=a
 cases b with
 |true=>obtain⟨cs,h1,h2,h3⟩:=h;exact⟨cs,h1,h2.mono,h3⟩
 |false=>exact⟨h.1.mono,h.2⟩
theorem ArgOk.noBox{σ:Ac}{a:Ty×Bool}{v:V}(h:ArgOk σ a v):∀ i o,v≠.box i o:=by
 obtain⟨ty,b⟩:=a;intro i o e;subst e
 cases b with
 |true=>obtain⟨cs,h1,_⟩:=h;cases h1
 |false=>have:=h.2;cases this
section
variable {H:Type} {enc:TypeId×Value→H} {P:Program} {W:World} {r:Reach} {base:Nat}
theorem eW {d:Nat} {t:TypeId} {a:Ty×Bool} (ha:S3 P d t=some a) {v:Value} {dd:DataW H} {ps:List MemPlace} (h:DataW.Trod enc P W 0 (fun _=>true) true t v dd ps) (hok:Value.okWide P W r base t v)
 (ι:Am) (σ:Ac) (H0:HRel ι σ W) (hro:CK σ) :
 ∃ ι' e u,HRel ι' (σ++e) W∧Keeps ι σ ι' (σ++e)∧CK (σ++e)∧ArgOk (σ++e) a u∧∀ β,Rel ι' (σ++e) β u v:=by
 unfold S3 at ha
 split at ha
 · rename_i ty hty
   obtain⟨fuel,hx⟩:=h;obtain⟨ι',e,vs,h1,h2,h3,h4,h5,h6⟩:=P6 d t ty hty fuel _ _ hx ι σ H0 hro
   have one:∀ (hc:v.cells=#[v]),a=(ty,false)→∃ ι' e u,HRel ι' (σ++e) W∧Keeps ι σ ι' (σ++e)∧CK (σ++e)∧ArgOk (σ++e) a u∧∀ β,Rel ι' (σ++e) β u v:=by
    intro hc ea;rw[hc] at h5 h6
    match vs,h5,h4,h6 with
    | [u],_,h4,h6=>
      obtain⟨c1,c2⟩:=h6 0 u v rfl rfl;exact⟨ι',e,u,h1,h2,h3,by rw[ea];exact⟨h4,c1⟩,c2⟩
   split at ha
   · rename_i fs hu;cases ha;obtain⟨cs,rfl,_⟩:=okWide_struct hu hok;replace h5:vs.length=cs.toList.length:=h5;refine⟨ι',e,.agg vs,h1,h2,h3,⟨vs,rfl,h4,?_⟩,fun β=>?_⟩
     · rw[Cb];intro u hu';obtain⟨i,hi⟩:=F8 hu'
       have:i<cs.toList.length:=by rw[← h5];exact O7 hi
       exact(h6 i u _ hi (Av this)).1
     · have:=Rel.agg (ι:=ι') (σ:=σ++e) (β:=β) vs cs.toList h5 (fun u hu'=>by
        obtain⟨i,hi⟩:=F8 hu'
        have:i<cs.toList.length:=by rw[← h5];exact O7 hi
        exact(h6 i u _ hi (Av this)).1) (fun i u w hi hw=>(h6 i u w hi hw).2 β)
       simpa using this
   · rename_i k hu;cases ha;obtain⟨n,rfl⟩:=okWide_int hu hok;exact one rfl rfl
   · rename_i hu;cases ha;obtain⟨n,rfl⟩:=okWide_bool hu hok;exact one rfl rfl
   · rename_i hu;cases ha;obtain⟨n,rfl⟩:=okWide_string hu hok;exact one rfl rfl
   · rename_i el hu;cases ha;obtain⟨x,y,z,rfl⟩:=okWide_slice hu hok;exact one rfl rfl
   · cases ha
 · cases ha
theorem Us{d:Nat}:∀ {ts:List TypeId} {tys:List (Ty×Bool)},Kv P d ts=some tys→∀ {vs:List Value} {ds:List (DataW H)} {ps:List MemPlace},DataW.TrodAll enc P W 0 (fun _=>true) true ts vs ds ps →
 (∀ (j:Nat) t v,ts[j]?=some t→vs[j]?=some v→Value.okWide P W r base t v)→∀ (ι:Am) (σ:Ac),HRel ι σ W→CK σ →
 ∃ ι' e us,HRel ι' (σ++e) W∧Keeps ι σ ι' (σ++e)∧CK (σ++e)∧Kl (σ++e) tys us∧us.length=vs.length∧∀ (i:Nat) u v,us[i]?=some u→vs[i]?=some v→(∀ j o,u≠.box j o)∧∀ β,Rel ι' (σ++e) β u v
 | [],tys,h,vs,ds,ps,hd,_,ι,σ,H0,hro=>by
   obtain⟨rfl,_,_⟩:=trodAll_nil hd
   cases h
   exact⟨ι,[],[],by simpa using H0,by simpa using Keeps.refl ι σ,by simpa using hro,trivial,rfl,by simp⟩
 | t :: ts,tys,h,vs,ds,ps,hd,hok,ι,σ,H0,hro=>by
   obtain⟨v,vs',x,ds',p,q,rfl,rfl,rfl,h1,h2⟩:=trodAll_cons hd
   unfold Kv at h
   split at h
   · rename_i a b ha hb
     cases h
     obtain⟨ι1,e1,u,H1,K1,R1,A1,C1⟩:=eW ha h1 (hok 0 t v rfl rfl) ι σ H0 hro
     obtain⟨ι2,e2,us,H2,K2,R2,A2,L2,C2⟩:=Us hb h2 (fun j t' v' hj hv=>hok (j+1) t' v' hj hv) ι1 (σ++e1) H1 R1
     refine⟨ι2,e1++e2,u::us,by rw[← Bm];exact H2,by rw[← Bm];exact K1.trans K2,by rw[← Bm];exact R2,by rw[← Bm];exact⟨A1.mono,A2⟩,by simp[L2],fun i u' v' hu hv=>?_⟩
     rw[← Bm]
     cases i with
     | zero=>
       simp at hu hv;subst hu;subst hv
       exact⟨A1.noBox,fun β=>(C1 β).mono K2 (fun j o e=>absurd e (A1.noBox j o))⟩
     |succ i=>exact C2 i u' v' (by simpa using hu) (by simpa using hv)
   · cases h
end
def Sz(P:Program)(ts:List TypeId):Bool:=ts.all fun t=>P.readableRec t&&decide (t<P.types.size)
theorem TP{H:Type}{enc:TypeId×Value→H}{P:Program}(hl:laidOutB P=true){W W':World}{sp':Nat→Bool}:∀ {ts:List TypeId} {vs:List Value} {ds:List (DataW H)} {ps:List MemPlace},Sz P ts=true →
 DataW.TrodAll enc P W 0 (fun _=>true) true ts vs ds ps→(∀ p∈ps,W.sameAt W' p)→(∀ p∈ps,sp' p.block=true)→DataW.TrodAll enc P W' 0 sp' true ts vs ds ps
 | [],vs,ds,ps,_,h,_,_=>by
   obtain⟨rfl,rfl,rfl⟩:=trodAll_nil h
   rfl
 | t::ts,vs,ds,ps,hr,h,h1,h2=>by
   obtain⟨v,vs',x,ds',p,q,rfl,rfl,rfl,g1,g2⟩:=trodAll_cons h
   unfold Sz at hr
   rw[DW,Ah,Ah,Bl] at hr
   exact⟨p,q,WideElems.Trod_stays hl hr.1.1 hr.1.2 g1 (fun y hy=>h1 y (by simp[hy])) (fun y hy=>h2 y (by simp[hy])),TP hl hr.2 g2 (fun y hy=>h1 y (by simp[hy])) (fun y hy=>h2 y (by simp[hy])),rfl⟩
theorem aG {H:Type} {enc:TypeId×Value→H} {P:Program} {f:Func} {s:ChangeSpec} {apart fresh handsOn again:Bool} {W W':World} {args:Array Value} {v:Value} {ds gs:List (DataW H)} {before pa pv:List MemPlace}
 (hW:DataW.Whole enc P f.params.toList s.vars apart W args.toList ds gs before)
 (hres:∀ (b:Nat) (sp:Nat→Bool) (hd:Bool),DataW.TrodAll enc P W' b sp hd f.resultTypes.toList (v.resultList f.resultTypes.size) (s.fn H (ds++gs)).results [])
 (hargs:∀ sp:Nat→Bool,(∀ p∈before,sp p.block=true)→DataW.TrodAll enc P W' 0 sp true f.params.toList args.toList (s.fn H (ds++gs)).args pa)
 (hvars:∀ sp:Nat→Bool,(∀ p∈before,sp p.block=true)→DataW.TrodVars enc P W' sp s.vars (s.fn H (ds++gs)).vars pv)
 (hps:before=pa++pv) (hb:Below W.heap.size W W')
 (hok:∀ (j:Nat) (t:TypeId) (r:Value),f.resultTypes[j]?=some t→(v.resultList f.resultTypes.size)[j]?=some r→Value.okWide P W' .any 0 t r) :
 s.post enc P f apart fresh handsOn again W args v W':=by
 have hlt:∀ p∈before,p.block<W.heap.size:=fun p hp=>hW.lt p hp
 have hold:∀ p∈before,(fun b=>decide (b<W.heap.size)) p.block=true:=fun p hp=>by simpa using hlt p hp
 refine⟨ds,gs,before,[],pa,pv,hW,hres _ _ _,hargs _ hold,hvars _ hold,World.keptBut_mono (fun p hp=>⟨hp,?_⟩) (hb.frame (·∈before)),fun _=>?_⟩
 · rw[hps,Da] at hp
   exact Or.inr hp
 · obtain⟨_,_,_,_,_,hz,hn⟩:=hW
   refine⟨hok,_,_,([]++pa)++pv,⟨[]++pa,pv,trodAll_append (hargs _ (fun _ _=>rfl)) (hres _ _ _),hvars _ (fun _ _=>rfl),rfl,?_,?_⟩,?_⟩
   · intro b off hp
     have hin:MemPlace.cell b off∈before:=by rw[hps];simpa using hp
     rw[hb.frozen (hlt _ hin)];exact hz b off hin
   · intro ha;have:=hn ha;rw[hps] at this;simpa using this
   · intro p hp _;rw[hps];simpa using hp
theorem bf {H:Type} {enc:TypeId×Value→H} {P:Program} {f:FuncId} {fn:Func} {s:ChangeSpec} {apart fresh handsOn again:Bool} {sem:A8} {tys:List (Ty×Bool)} {d:Nat} {tb:TypeId}
 (hs:Aq P f sem) (has:Kv P d fn.params.toList=some tys) (hrows:Sz P fn.params.toList=true) (hl:laidOutB P=true)
 (hres:fn.resultTypes=#[tb]) (htb:P.underlying tb=some .bool) (hvars:s.vars=[])
 (hspec:∀ ds:List (DataW H),ds.length=tys.length→s.fn H ds={ results:=[.lit (.bool true)],args:=ds })
 (law:∀ (σ:Ac) (us:List V),CK σ→Kl σ tys us→sem us σ fun r _=>r= .bool true)
 {W:World} {base:Nat} {args:Array Value} {ds gs:List (DataW H)} {before:List MemPlace}
 (hval:∀ (j:Nat) t v,fn.params[j]?=some t→args[j]?=some v→Value.okWide P W .any base t v)
 (hW:DataW.Whole enc P fn.params.toList s.vars apart W args.toList ds gs before) :
 Calls P f args W fun e W'=>∃ v,e= .returned v∧s.post enc P fn apart fresh handsOn again W args v W':=by
 have hW':=hW
 obtain⟨p,q,hA,hV,rfl,hfz,hnd⟩:=hW
 rw[hvars] at hV
 obtain⟨rfl,rfl⟩:=trodVars_none hV
 rw[Mi] at hW'
 obtain⟨ι,e,us,H1,_,R1,A1,L1,C1⟩:=Us (d:=d) has hA (fun j t v hj hv=>hval j t v (by simpa using hj) (by simpa using hv)) (fun _=>⟨0,0,0⟩) [] ⟨by simp,by simp,by simp,by simp⟩ (fun l b h=>by simp at h)
 simp only[BL] at H1 R1 A1 C1
 have hc:=hs Phm.no ι e W us args.toList _ (.no e) (by rw[Ox];exact H1) (by rw[Ox];exact⟨L1,fun i u v hu hv=>(C1 i u v hu hv).2⟩) (law e us R1 A1)
 have hlen:ds.length=tys.length:=by
  have h1:∀ {ts:List TypeId} {tys:List (Ty×Bool)},Kv P d ts=some tys→tys.length=ts.length:=by
   intro ts
   induction ts with
   |nil=>intro tys h;cases h;rfl
   | cons t ts ih=>
     intro tys h;unfold Kv at h;split at h
     · rename_i a b _ hb;cases h;simp[ih hb]
     · cases h
  have h2:∀ {ts:List TypeId} {vs:List Value} {ds:List (DataW H)} {ps:List MemPlace},DataW.TrodAll enc P W 0 (fun _=>true) true ts vs ds ps→ds.length=ts.length:=by
   intro ts
   induction ts with
   |nil=>intro vs ds ps h;obtain⟨_,rfl,_⟩:=trodAll_nil h;rfl
   | cons t ts ih=>
     intro vs ds ps h;obtain⟨v,vs',x,ds',p,q,rfl,rfl,rfl,_,g2⟩:=trodAll_cons h;simp[ih g2]
  rw[h1 has,h2 hA]
 refine(Calls.mono (by simpa using hc) fun en W' hd=>?_:Calls P f args W _)
 obtain⟨x,r,σ',ι',rfl,rfl,_,hx,_,hstep⟩:=hd
 rw[Ox,Ox] at hstep
 have hx':=hx (fun _=>0)
 cases hx'
 have hb:Below W.heap.size W W':=⟨hstep.os,hstep.tape,hstep.output,hstep.size,fun k hk=>hstep.frame k hk fun l blk hl hk'=>by have:=R1 l blk hl;rw[hk'] at this;cases this⟩
 have hfn:=hspec (ds++[]) (by simpa using hlen)
 have hlt:∀ x∈p,x.block<W.heap.size:=fun x hx=>hW'.lt x hx
 refine⟨_,rfl,aG (pa:=p) (pv:=[]) hW' (fun _ _ _=>?_) (fun sp hsp=>?_) (fun sp _=>?_) (by simp) hb (ok_one hres rfl (okWide_bool_mk htb true))⟩
 · rw[hfn,hres]
   exact trodAll_cons_mk (shut_bool htb true) trodAll_mk0
 · rw[hfn]
   simp only[Mi];exact TP hl hrows hA (fun x hx=>hb.same (hlt x hx)) hsp
 · rw[hfn,hvars]
   rfl
open Go.ChangeShapes
mutual
def CT.wf:(t:CT)→t.D→Prop
 |.int k,n=>(Lit.int k n).wf=true
 |.bool,_=>True
 |.str,s=>s.length≤maxLen
 |.ifc,_=>True
 |.sl r,l=>@List.length r.D l≤maxLen∧∀ x:r.D,@Membership.mem r.D (List r.D) inferInstance l x→RT.wf r x
def RT.wf:(r:RT)→r.D→Prop
 |.one t,x=>CT.wf t x
 |.cons t r,x=>CT.wf t x.1∧RT.wf r x.2
end
def AgX.wf:(l:List (Ql×CT))→AgX l→Prop
 |[],_=>True
 |[a],x=>a.2.wf x
 |a::b::r,x=>a.2.wf x.1∧AgX.wf (b::r) x.2
def HT.wf:(h:HT)→h.D→Prop
 |.one _ t,x=>t.wf x
 |.agg l,x=>AgX.wf l x
def TuX.wf:(l:List HT)→TuX l→Prop
 |[],_=>True
 |[a],x=>a.wf x
 |a::b::r,x=>a.wf x.1∧TuX.wf (b::r) x.2
def Ev:List CT→RT
 |[]=>.one .bool
 |[a]=>.one a
 |a::b::r=>.cons a (Ev (b::r))
def Ty.cts:Ty→List CT
 |.int k=>[.int k]
 |.bool=>[.bool]
 |.str=>[.str]
 |.sl t=>[.sl (Ev t.cts)]
 |.unit=>[]
 |.pair a b=>a.cts++b.cts
def Ty.good:Ty→Bool
 |.sl t=>Nat.blt 0 t.w&&t.good
 |.pair a b=>a.good&&b.good
 |_=>true
def H9:Ty×Bool→HT
 |(ty,true)=>.agg (ty.cts.map fun t=>(.frz,t))
 |(ty,false)=>match ty.cts with|[c]=>.one .frz c|_=>.agg []
def OB:Ty×Bool→Bool
 |(ty,true)=>ty.good
 |(ty,false)=>ty.good&&ty.cts.length == 1
def DL:List CT→Type
 |[]=>Unit
 |a::r=>a.D×DL r
def DL.wf:(l:List CT)→DL l→Prop
 |[],_=>True
 |a::r,x=>a.wf x.1∧DL.wf r x.2
def DL.enc:(l:List CT)→DL l→List PV
 |[],_=>[]
 |a::r,x=>CT.enc a x.1::DL.enc r x.2
def DL.encF:(l:List CT)→DL l→List PV
 |[],_=>[]
 |a::r,x=>(CT.dv .frz a x.1).enc::DL.encF r x.2
def DL.app:(l m:List CT)→DL l→DL m→DL (l++m)
 |[],_,_,y=>y
 |_::l,m,x,y=>(x.1,DL.app l m x.2 y)
theorem DL.app_enc:∀ (l m:List CT) (x:DL l) (y:DL m),DL.enc (l++m) (DL.app l m x y)=DL.enc l x++DL.enc m y
 |[],_,_,_=>rfl
 | a::l,m,x,y=>by
   show CT.enc a x.1::DL.enc (l++m) (DL.app l m x.2 y)=CT.enc a x.1::(DL.enc l x.2++DL.enc m y)
   rw[DL.app_enc l m x.2 y]
theorem DL.app_encF:∀ (l m:List CT) (x:DL l) (y:DL m),DL.encF (l++m) (DL.app l m x y)=DL.encF l x++DL.encF m y
 |[],_,_,_=>rfl
 | a::l,m,x,y=>by
   show (CT.dv .frz a x.1).enc::DL.encF (l++m) (DL.app l m x.2 y)=(CT.dv .frz a x.1).enc::(DL.encF l x.2++DL.encF m y)
   rw[DL.app_encF l m x.2 y]
theorem DL.app_wf:∀ (l m:List CT) (x:DL l) (y:DL m),DL.wf l x→DL.wf m y→DL.wf (l++m) (DL.app l m x y)
 |[],_,_,_,_,h=>h
 |_::l,m,x,y,h,h'=>⟨h.1,DL.app_wf l m x.2 y h.2 h'⟩
theorem DL.len:∀ (l:List CT) (x:DL l),(DL.enc l x).length=l.length
 |[],_=>rfl
 |_::l,x=>by show _+1=_+1;rw[DL.len l x.2]
theorem DL.lenF:∀ (l:List CT) (x:DL l),(DL.encF l x).length=l.length
 |[],_=>rfl
 |_::l,x=>by show _+1=_+1;rw[DL.lenF l x.2]
def DL.rt:(l:List CT)→DL l→(Ev l).D
 |[],_=>false
 |[_],x=>x.1
 |_::b::r,x=>(x.1,DL.rt (b::r) x.2)
theorem DL.rt_enc:∀ (l:List CT) (x:DL l),l≠[]→RT.enc (Ev l) (DL.rt l x)=DL.enc l x
 |[],_,h=>absurd rfl h
 |[_],_,_=>rfl
 | a::b::r,x,_=>by
   show CT.enc a x.1::RT.enc (Ev (b::r)) (DL.rt (b::r) x.2)=CT.enc a x.1::DL.enc (b::r) x.2
   rw[DL.rt_enc (b::r) x.2 (by simp)]
theorem DL.rt_wf:∀ (l:List CT) (x:DL l),l≠[]→DL.wf l x→RT.wf (Ev l) (DL.rt l x)
 |[],_,h,_=>absurd rfl h
 |[_],_,_,h=>h.1
 |a::b::r,x,_,h=>⟨h.1,DL.rt_wf (b::r) x.2 (by simp) h.2⟩
def DL.ag:(l:List CT)→DL l→AgX (l.map fun t=>(Ql.frz,t))
 |[],_=>()
 |[_],x=>x.1
 |_::b::r,x=>(x.1,DL.ag (b::r) x.2)
theorem DL.ag_enc:∀ (l:List CT) (x:DL l),DV.encL (KK (l.map fun t=>(Ql.frz,t)) (DL.ag l x))=DL.encF l x
 |[],_=>rfl
 |[_],_=>rfl
 | a::b::r,x=>by
   show (CT.dv .frz a x.1).enc::DV.encL (KK ((b::r).map fun t=>(Ql.frz,t)) (DL.ag (b::r) x.2))=(CT.dv .frz a x.1).enc::DL.encF (b::r) x.2
   rw[DL.ag_enc (b::r) x.2]
theorem DL.ag_wf:∀ (l:List CT) (x:DL l),DL.wf l x→AgX.wf (l.map fun t=>(Ql.frz,t)) (DL.ag l x)
 |[],_,_=>trivial
 |[_],_,h=>h.1
 |a::b::r,x,h=>⟨h.1,DL.ag_wf (b::r) x.2 h.2⟩
theorem GS:∀ (t:Ty),t.cts.length=t.w
 |.int _|.bool|.str|.sl _|.unit=>rfl
 |.pair a b=>by simp only[Ty.cts,Ty.w,Cy,GS a,GS b]
def ωro(σ:Ac):Nat→W:=fun l=>if l<σ.length then .frz else .none
theorem ωro_frz{σ:Ac}{l:Nat}{b:Blk}(h:σ[l]?=some b):ωro σ l= .frz:=by
 unfold ωro;rw[Ab (Bs h)]
theorem NA:∀ (a b:List PV) (i:Nat),i<a.length→Aa (a++b) i=Aa a i
 |[],_,_,h=>by cases h
 |_::_,_,0,_=>rfl
 |_::a,b,i+1,h=>NA a b i (by simpa using h)
theorem Nx:∀ (a b:List PV) (i:Nat),Aa (a++b) (a.length+i)=Aa b i
 |[],_,_=>by simp
 | _::a,b,i=>by
   have:=Nx a b i
   simp only[B0,A6,Sp]
   exact this
theorem Qa:∀ (a b:List V) (i:Nat),i<a.length→get (a++b) i=get a i
 |[],_,_,h=>by cases h
 |_::_,_,0,_=>rfl
 |_::a,b,i+1,h=>Qa a b i (by simpa using h)
theorem P9:∀ (a b:List V) (i:Nat),get (a++b) (a.length+i)=get b i
 |[],_,_=>by simp
 | _::a,b,i=>by
   have:=P9 a b i
   simp only[B0,A6,Sp]
   exact this
theorem P8:∀ (l:List V) (o n i:Nat),i<n→get ((l.drop o).take n) i=get l (o+i)
 |[],o,n,i,_=>by simp[get]
 |c::r,0,0,i,h=>by cases h
 |c::r,0,n+1,0,_=>rfl
 | c::r,0,n+1,i+1,h=>by
   have:=P8 r 0 n i (by omega)
   simp only[Bc] at this
   simp only[G3,Sq,get,Bc]
   simpa using this
 | c::r,o+1,n,i,h=>by
   have:=P8 r o n i h
   rw[List.drop_succ_cons,this,Sp]
   rfl
theorem UN{w:Nat}:∀ (es:List (List PV)) (i j:Nat),(∀ e∈es,e.length=w)→j<w→i<es.length→Aa es.flatten (i*w+j)=Aa (As es i) j
 |[],i,_,_,_,h=>by cases h
 | e::r,0,j,hw,hj,_=>by
   have he:=hw e (SE ..)
   rw[HP,Bc,EP,NA _ _ _ (by omega)]
   rfl
 | e::r,i+1,j,hw,hj,h=>by
   have he:=hw e (SE ..)
   rw[EP,show (i+1)*w+j=e.length+(i*w+j) by rw[he,IV];omega,Nx]
   exact UN r i j (fun e h=>hw e (List.mem_cons_of_mem _ h)) hj (by simpa using h)
theorem Vn {α:Type}(f:α→List PV):∀ (l:List α) (i:Nat) (h:i<l.length),As (l.map f) i=f l[i]
 |[],_,h=>by cases h
 |_::_,0,_=>rfl
 |_::l,i+1,h=>Vn f l i (by simpa using h)
theorem LV{σ:Ac}:∀ (ty:Ty) {cs:List V},ty.good=true→Sh σ ty cs→∃ x:DL ty.cts,DL.wf ty.cts x ∧
 (∀ i,RC σ (ωro σ) .fz (Aa (DL.enc ty.cts x) i) (get cs i))∧∀ i hd p,RC σ (ωro σ) (.at hd p) (Aa (DL.encF ty.cts x) i) (get cs i)
 | .int k,cs,_,⟨n,h,hw⟩=>by
   subst h;exact⟨(n,()),⟨hw,trivial⟩,fun i=>by cases i<;>first|exact .v _ _ rfl|exact .undef _ _,fun i hd p=>by cases i<;>first|exact .v _ _ rfl|exact .undef _ _⟩
 | .bool,cs,_,⟨b,h⟩=>by
   subst h;exact⟨(b,()),⟨trivial,trivial⟩,fun i=>by cases i<;>first|exact .v _ _ rfl|exact .undef _ _,fun i hd p=>by cases i<;>first|exact .v _ _ rfl|exact .undef _ _⟩
 | .str,cs,_,⟨s,h,hl⟩=>by
   subst h;exact⟨(s,()),⟨hl,trivial⟩,fun i=>by cases i<;>first|exact .v _ _ rfl|exact .undef _ _,fun i hd p=>by cases i<;>first|exact .v _ _ rfl|exact .undef _ _⟩
 | .unit,cs,_,h=>by
   have h:cs=[]:=h;subst h;exact⟨(),trivial,fun i=>.undef _ _,fun i hd p=>.undef _ _⟩
 | .pair a b,cs,hg,⟨xs,ys,h,h1,h2⟩=>by
   simp only[Ty.good,Ah] at hg;obtain⟨x,x1,x2,x3⟩:=LV a hg.1 h1;obtain⟨y,y1,y2,y3⟩:=LV b hg.2 h2;have hl:=h1.len;subst h;refine⟨DL.app _ _ x y,DL.app_wf _ _ x y x1 y1,fun i=>?_,fun i hd p=>?_⟩
   · simp only[Ty.cts];rw[DL.app_enc];by_cases hi:i<a.w
     · rw[NA _ _ _ (by rw[DL.len,GS];exact hi),Qa _ _ _ (by rw[hl];exact hi)];exact x2 i
     · obtain⟨j,rfl⟩:=Nat.exists_eq_add_of_le (Nat.le_of_not_lt hi);have e1:=Nx (DL.enc a.cts x) (DL.enc b.cts y) j;have e2:=P9 xs ys j;rw[DL.len,GS] at e1;rw[hl] at e2;rw[e1,e2];exact y2 j
   · simp only[Ty.cts];rw[DL.app_encF];by_cases hi:i<a.w
     · rw[NA _ _ _ (by rw[DL.lenF,GS];exact hi),Qa _ _ _ (by rw[hl];exact hi)];exact x3 i hd p
     · obtain⟨j,rfl⟩:=Nat.exists_eq_add_of_le (Nat.le_of_not_lt hi);have e1:=Nx (DL.encF a.cts x) (DL.encF b.cts y) j;have e2:=P9 xs ys j;rw[DL.lenF,GS] at e1;rw[hl] at e2;rw[e1,e2];exact y3 j hd p
 | .sl t,cs,hg,h=>by
   simp only[Ty.good,Ah] at hg;have hw0:0<t.w:=BS hg.1
   have hne:t.cts≠[]:=by intro e;have:=GS t;rw[e] at this;simp only[AV] at this;omega
   rcases h with h|⟨l,n,bs,h,hb,hbl,hn,he⟩
   · subst h;refine⟨(([]:List (Ev t.cts).D),()),⟨⟨Fl _,fun x hx=>by cases hx⟩,trivial⟩,fun i=>?_,fun i hd p=>?_⟩
     · cases i<;>first|exact .nil _ _|exact .undef _ _
     · cases i<;>first|exact .nil _ _|exact .undef _ _
   · subst h
     have ex:∀ i,∃ x:DL t.cts,i<n→DL.wf t.cts x∧(∀ k,RC σ (ωro σ) .fz (Aa (DL.enc t.cts x) k) (get ((bs.drop (i*t.w)).take t.w) k)):=by
      intro i;by_cases hi:i<n
      · obtain⟨x,h1,h2,_⟩:=LV t hg.2 (he i hi);exact⟨x,fun _=>⟨h1,h2⟩⟩
      · have h0:∀ l:List CT,Nonempty (DL l):=by
         intro l
         induction l with
         |nil=>exact⟨()⟩
         |cons a r ih=>obtain⟨y⟩:=ih;exact⟨(a.dflt,y)⟩
        obtain⟨y⟩:=h0 t.cts;exact⟨y,fun h=>absurd h hi⟩
     let f:Nat→DL t.cts:=fun i=>Classical.choose (ex i)
     have hf:∀ i,i<n→DL.wf t.cts (f i)∧∀ k,RC σ (ωro σ) .fz (Aa (DL.enc t.cts (f i)) k) (get ((bs.drop (i*t.w)).take t.w) k):=fun i hi=>Classical.choose_spec (ex i) hi
     let L:List (Ev t.cts).D:=(List.range n).map fun i=>DL.rt t.cts (f i)
     have hL:L.length=n:=by simp[L]
     have hLw:∀ e∈L.map (RT.enc (Ev t.cts)),e.length=t.w:=by
      intro e he;obtain⟨y,hy,rfl⟩:=List.mem_map.mp he;obtain⟨i,_,rfl⟩:=List.mem_map.mp hy;rw[DL.rt_enc _ _ hne,DL.len,GS]
     have hcell:∀ k,k<L.length*t.w→RC σ (ωro σ) .fz (Aa (L.map (RT.enc (Ev t.cts))).flatten k) (get bs (0+k)):=by
      intro k hk
      have hdm:k / t.w*t.w+k % t.w=k:=by rw[Pg];exact O4 k t.w
      have hmod:=GZ k hw0
      have hdiv:k / t.w<n:=by rw[hL] at hk;exact(Pa hw0).2 hk
      have e1:=UN (L.map (RT.enc (Ev t.cts))) (k / t.w) (k % t.w) hLw hmod (by rw[Az,hL];exact hdiv);rw[hdm] at e1;rw[e1,Vn _ _ _ (by rw[hL];exact hdiv),Bc];have e2:=P8 bs (k / t.w*t.w) t.w (k % t.w) hmod;rw[hdm] at e2
      have e3:L[k / t.w]'(by rw[hL];exact hdiv)=DL.rt t.cts (f (k / t.w)):=by simp[L]
      rw[e3,DL.rt_enc _ _ hne,← e2];exact(hf _ hdiv).2 _
     have hwf:∀ x∈L,RT.wf (Ev t.cts) x:=by
      intro x hx;obtain⟨i,hi,rfl⟩:=List.mem_map.mp hx;exact DL.rt_wf _ _ hne (hf i (List.mem_range.mp hi)).1
     have hle:0+(L.map (RT.enc (Ev t.cts))).length*t.w≤bs.length:=by rw[Az,hL,hbl];omega
     refine⟨(L,()),⟨⟨by rw[hL];exact hn,hwf⟩,trivial⟩,fun i=>?_,fun i hd p=>?_⟩
     · cases i with
       |succ i=>exact .undef _ _
       |zero=>exact .sl _ _ _ _ _ _ _ hb (by simp) (ωro_frz hb) (fun e=>by cases e) (by rw[Az,hL]) hLw hle fun k hk=>hcell k (by rw[Az] at hk;exact hk)
     · cases i with
       |succ i=>exact .undef _ _
       |zero=>exact .sl _ _ _ _ _ _ _ hb (by simp) (ωro_frz hb) (fun _ e=>by rcases e with e|⟨_,_,e⟩<;>cases e) (by rw[Az,hL]) hLw hle fun k hk=>hcell k (by rw[Az] at hk;exact hk)
structure ArgD (σ:Ac) (v:PV) (u:V):Prop where
 rc:∀ hd p c,RC σ (ωro σ) (.at hd p) (v.fcell c) (u.fcell c)
 sh:Ax v u
 nx:∀ c i pb tp,(v.fcell c).q≠some (.bor (.x i) pb tp)
theorem hU{v:V}(h:v.cell=true):(∀ us,v≠.agg us)∧∀ us,v≠.tup us:=by
 constructor<;>rintro us rfl<;>cases h
theorem SW:∀ (l:List CT) (x:DL l) (i:Nat) (a:Hd) (pb:List Nat) (tp:Bool),(Aa (DL.encF l x) i).q≠some (.bor a pb tp)
 |[],_,_,_,_,_=>by simp[DL.encF,Aa,PV.q]
 |c::r,x,0,a,pb,tp=>by cases c<;>simp[DL.encF,Aa,CT.dv,DV.enc,PV.q]
 |_::r,x,i+1,a,pb,tp=>SW r x.2 i a pb tp
theorem Vm{σ:Ac}{a:Ty×Bool}{u:V}(hg:OB a=true)(h:ArgOk σ a u):∃ x:(H9 a).D,(H9 a).wf x∧ArgD σ ((H9 a).dv x).enc u:=by
 obtain⟨ty,b⟩:=a
 cases b with
 | true=>
   obtain⟨cs,rfl,hs,hc⟩:=h;obtain⟨x,h1,_,h3⟩:=LV ty hg hs;have hle:=hs.len;refine⟨DL.ag ty.cts x,DL.ag_wf _ _ h1,?_⟩
   have he:((H9 (ty,true)).dv (DL.ag ty.cts x)).enc= .agg (DL.encF ty.cts x):=by
    show PV.agg _=PV.agg _;rw[DL.ag_enc]
   rw[he];refine⟨fun hd p c=>?_,⟨cs,rfl,by rw[hle,DL.lenF,GS]⟩,fun c i pb tp=>?_⟩
   · match c with
     |[]=>exact .undef _ _
     |[c]=>exact h3 c hd p
     |_::_::_=>exact .undef _ _
   · match c with
     |[]=>simp[PV.fcell,PV.q]
     |[c]=>exact SW _ _ _ _ _ _
     |_::_::_=>simp[PV.fcell,PV.q]
 | false =>
   obtain⟨hs,hc⟩:=h;simp only[OB,Ah,AA] at hg;obtain⟨x,h1,_,h3⟩:=LV ty hg.1 hs
   have key:∀ (l:List CT) (x:DL l),l.length=1→DL.wf l x→(∀ i hd p,RC σ (ωro σ) (.at hd p) (Aa (DL.encF l x) i) (get [u] i)) →
    ∃ y:(match l with|[c]=>HT.one .frz c|_=>HT.agg []).D,(match l with|[c]=>HT.one .frz c|_=>HT.agg []).wf y∧ArgD σ ((match l with|[c]=>HT.one .frz c|_=>HT.agg []).dv y).enc u:=by
    intro l x hl hwf h3
    match l,x,hl,hwf,h3 with
    | [c],x,_,hwf,h3=>
      have hsc:=hU hc
      have hnf:∀ p,p≠[0]→((CT.dv .frz c x.1).enc).fcell p= .fl .undef:=by
       intro p hp;cases c<;>(match p with|[]=>rfl|[0]=>exact absurd rfl hp|(_+1)::_=>rfl|0::_::_=>rfl)
      have hf0:((CT.dv .frz c x.1).enc).fcell [0]=(CT.dv .frz c x.1).enc:=by cases c<;>rfl
      have hu0:u.fcell [0]=u:=by cases u<;>first|rfl|exact absurd rfl (hsc.1 _)|exact absurd rfl (hsc.2 _)
      refine⟨x.1,hwf.1,⟨fun hd p q=>?_,?_,fun q i pb tp=>?_⟩⟩
      · by_cases hq:q=[0]
        · subst hq;show RC σ (ωro σ) (.at hd p) (((CT.dv .frz c x.1).enc).fcell [0]) (u.fcell [0]);rw[hf0,hu0];exact h3 0 hd p
        · show RC σ (ωro σ) (.at hd p) (((CT.dv .frz c x.1).enc).fcell q) (u.fcell q);rw[hnf q hq];exact .undef _ _
      · show Ax ((CT.dv .frz c x.1).enc) u;cases c<;>exact hsc
      · show (((CT.dv .frz c x.1).enc).fcell q).q≠_;by_cases hq:q=[0]
        · subst hq;rw[hf0];exact SW [c] x 0 _ _ _
        · rw[hnf q hq];simp[PV.q]
   exact key ty.cts x hg.2 h1 h3
theorem QA{σ:Ac}:∀ {tys:List (Ty×Bool)} {us:List V},tys.all OB=true→Kl σ tys us→∃ x:TuX (tys.map H9),TuX.wf _ x∧us.length=tys.length ∧
 ∀ t,ArgD σ (Aa (DV.encL (Dh (tys.map H9) x)) t) (get us t)
 |[],[],_,_=>⟨(),trivial,rfl,fun t=>⟨fun hd p c=>by
  have:(PV.fl V.undef).fcell c= .fl .undef:=by match c with|[]=>rfl|[0]=>rfl|(_+1)::_=>rfl|0::_::_=>rfl
  show RC σ (ωro σ) (.at hd p) ((PV.fl V.undef).fcell c) _
  rw[this];exact .undef _ _,trivial,fun c i pb tp=>by
  have:(PV.fl V.undef).fcell c= .fl .undef:=by match c with|[]=>rfl|[0]=>rfl|(_+1)::_=>rfl|0::_::_=>rfl
  show ((PV.fl V.undef).fcell c).q≠_
  rw[this];simp[PV.q]⟩⟩
 | [a],[u],hg,h=>by
   simp only[DW,List.all_nil,Kx] at hg;obtain⟨x,h1,h2⟩:=Vm hg h.1;obtain⟨_,_,_,h4⟩:=QA (σ:=σ) (tys:=[]) (us:=[]) rfl trivial;refine⟨x,h1,rfl,fun t=>?_⟩
   cases t with
   |zero=>exact h2
   |succ t=>exact h4 t
 | a::b::r,u::us,hg,h=>by
   rw[DW,Ah] at hg;obtain⟨x,h1,h2⟩:=Vm hg.1 h.1;obtain⟨y,h3,h4,h5⟩:=QA (tys:=b::r) (us:=us) hg.2 h.2;refine⟨(x,y),⟨h1,h3⟩,by simp[h4],fun t=>?_⟩
   cases t with
   |zero=>exact h2
   |succ t=>exact h5 t
 |[_],_::_::_,_,h=>h.2.elim
 |[_],[],_,h=>h.elim
 |_::_::_,[],_,h=>h.elim
 |[],_::_,_,h=>h.elim
theorem jQ{σ:Ac}{as:List PV}{us:List V}(hl:as.length=us.length)(h:∀ t,ArgD σ (Aa as t) (get us t)):RS σ (ωro σ) (ωro σ) (fun _=>0) ⟨as,[],[]⟩ ⟨us,[],σ⟩ X0:=by
 have no:∀ l hd p,ωro σ l≠.own hd p:=by intro l hd p e;unfold ωro at e;split at e<;>cases e
 have nop:∀ l i,ωro σ l≠.ptr i:=by intro l i e;unfold ωro at e;split at e<;>cases e
 have hund:∀ c,(PV.fl V.undef).fcell c= .fl .undef:=by
  intro c;match c with|[]=>rfl|[0]=>rfl|(_+1)::_=>rfl|0::_::_=>rfl
 have cat:∀ (c:List Nat) (l:List V),(AF [] l c).1= .fl .undef:=by
  intro c l;match c with|[]=>rfl|[_]=>rfl|_::_::_=>rfl
 refine⟨⟨fun hd p=>?_,fun l l' hd p e=>absurd e (no l hd p),fun l l' i e=>absurd e (nop l i),fun l e=>?_,fun l e=>?_⟩,fun t=>(h t).sh,fun i=>trivial,hl,rfl,fun i=>rfl,fun i c=>rfl,fun i c=>rfl,fun i hi=>(by cases hi),fun l i e=>absurd e (nop l i),fun l i p e=>absurd e (no l _ p),⟨AM _,fun l _ _=>⟨rfl,rfl⟩,fun l hlt e=>(by rw[e];simp),fun l i e=>e⟩,fun hd p i pb tp=>?_⟩
 · cases hd with
   |s t=>exact(h t).rc _ _ _
   |b i=>show RC σ (ωro σ) _ (AF [] (Ay [] i) p).1 _;rw[cat];exact .undef _ _
   |h i=>show RC σ (ωro σ) _ (AF [] _ p).1 _;rw[cat];exact .undef _ _
   |x i=>show RC σ (ωro σ) _ ((PV.fl V.undef).fcell p) _;rw[hund];exact .undef _ _
 · rcases e with⟨hd,p,e⟩|⟨i,e⟩
   · exact absurd e (no l hd p)
   · exact absurd e (nop l i)
 · unfold ωro at e;split at e
   · assumption
   · cases e
 · cases hd with
   |s t=>exact(h t).nx p i pb tp
   |b j=>show (AF [] (Ay [] j) p).1.q≠_;rw[cat];simp[PV.q]
   |h j=>show (AF [] _ p).1.q≠_;rw[cat];simp[PV.q]
   |x j=>show ((PV.fl V.undef).fcell p).q≠_;rw[hund];simp[PV.q]
theorem jk {f:DFun} {tys:List (Ty×Bool)} {hs:List HT} {s:A8} (hsp:G6 s (IK f.er)) (hhs:tys.map H9=hs) (hg:tys.all OB=true) (ho:AllD f.body.obs)
 (hst:KS f hs (.one (.one .own .bool))=true) (hc:∀ x,KI f hs (.one (.one .own .bool)) x=true)
 (law:∀ x:TuX hs,TuX.wf hs x→FC f hs (.one (.one .own .bool)) x∧FF f hs (.one (.one .own .bool)) x=true) (σ:Ac) (us:List V) (hro:CK σ) (ha:Kl σ tys us):s us σ fun r _=>r= .bool true:=by
 subst hhs
 obtain⟨x,h1,h2,h3⟩:=QA hg ha
 obtain⟨l1,l2⟩:=law x h1
 have hlen:(DV.encL (Dh (tys.map H9) x)).length=us.length:=by rw[DN,Ov,Az,h2]
 refine hsp σ (ωro σ) (fun _=>0) _ us [] (fun r _=>r= .fl (.bool true)) _ (jQ hlen h3) (fun l hd p e=>?_) ?_ fun u h' r H' ω' ρ' hQ R' _=>?_
 · exfalso;unfold ωro at e;split at e<;>cases e
 · refine VG ho hst x (hc x) l1 fun H=>?_
   rw[l2];rfl
 · subst hQ
   have r:=R'.core.rc (.x 0) [0];have hs:=R'.shx 0;have r:RC h' ω' (.at (.x 0) [0]) (.fl (.bool true)) (u.fcell [0]):=r
   have hu:u.fcell [0]=u:=by
    have hs:Ax (.fl (.bool true)) u:=hs
    cases u<;>first|rfl|exact absurd rfl (hs.1 _)|exact absurd rfl (hs.2 _)
   rw[hu] at r;cases r;rfl
def rk(pu:Bool)(res:List ARes)(h0:Ac)(Q:V→Ac→Prop):DD:=PC ⟨0,0,0,pu,res,.skip⟩ h0 Q
@[congr] theorem lk {c:ACode} {k:DD} {st st':St} (h:st=st'):CM c k st=CM c k st':=by rw[h]
@[congr] theorem lj {o:List AOper} {k:St→Prop} {st st':St} (h:st=st'):B4 o k st=B4 o k st':=by rw[h]
@[congr] theorem ll {o:AOp} {d:Option Nat} {k:St→Prop} {st st':St} (h:st=st'):AH o d k st=AH o d k st':=by rw[h]
@[congr] theorem k9 {n:St→Prop} {k:DD} {e e':AExit} {st st':St} (he:e=e') (h:st=st'):Jk n k e st=Jk n k e' st':=by rw[he,h]
@[congr] theorem kZ {i:Nat} {k:DD} {e e':AExit} {st st':St} (he:e=e') (h:st=st'):Km i k e st=Km i k e' st':=by rw[he,h]
@[congr] theorem lp {pu:Bool} {res:List ARes} {h0:Ac} {Q:V→Ac→Prop} {e e':AExit} {st st':St} (he:e=e') (h:st=st'):rk pu res h0 Q e st=rk pu res h0 Q e' st':=by rw[he,h]
def j5:V→Option V
 |.nils=>some (.int .i64 0)
 |.slice _ _ n=>some (.int .i64 n)
 |_=>none
def Wd(hp:Ac)(n:Option Nat):V→Option V
 |.ptr l o=>(rd hp l o (n.getD 1)).bind fun cs=>Cj n cs
 |_=>none
def QS(bx:List (List V))(hp:Ac)(n:Nat)(a x:V):Option (V×List (List V)×Ac):=match a with
 |.ptr l o=>if x.cells.length=n∧x.cells.all V.cell then (wr hp l o x.cells).bind fun h=>some (.undef,bx,h) else none
 |_=>none
theorem bind_some{α:Type}(o:Option α):(o.bind fun x=>some x)=o:=by cases o<;>rfl
section
variable {α:Type}
def KU(f:α→Int→α×Int):List α→Int→List α×Int
 |[],m=>([],m)
 |a::r,m=>((f a m).1::(KU f r (f a m).2).1,(KU f r (f a m).2).2)
end
def ke:IntKind→Int→Int
 |.i64,m=>m
 |k,m=>k.wrap m
mutual
def CT.mkI:(t:CT)→t.D→Int→t.D×Int
 |.int k,_,m=>(ke k m,IntKind.i64.wrap (m+1))
 |.bool,_,m=>((m.tmod 3 == 0:Bool),IntKind.i64.wrap (m+1))
 |.str,s,m=>(s,m)
 |.ifc,b,m=>(b,m)
 |.sl r,l,m=>KU (RT.mkI r) l m
def RT.mkI:(r:RT)→r.D→Int→r.D×Int
 |.one t,x,m=>CT.mkI t x m
 |.cons t r,x,m=>(((CT.mkI t x.1 m).1,(RT.mkI r x.2 (CT.mkI t x.1 m).2).1),(RT.mkI r x.2 (CT.mkI t x.1 m).2).2)
end
mutual
def CT.wl:(t:CT)→t.D→Prop
 |.sl r,l=>l.length≤9223372036854775807∧∀ a:r.D,List.Mem a l→RT.wl r a
 |_,_=>True
def RT.wl:(r:RT)→r.D→Prop
 |.one t,x=>CT.wl t x
 |.cons t r,x=>CT.wl t x.1∧RT.wl r x.2
end
section
variable {h h':Ac} {ω:Nat→W} {hd:Hd} {p:List Nat}
abbrev Je (ω:Nat→W) (hd:Hd) (p:List Nat):Nat→Prop:=fun l=>∃ q,ω l= .own hd (p++q)
abbrev MS (h:Ac) (ω:Nat→W) (hd:Hd) (p:List Nat) (r:RT) (l:List r.D) (u:V):Prop:=RC h ω (.inn hd p) (.sl .own (l.map r.enc)) u
theorem MS.len{r:RT}{l:List r.D}{u:V}(M:MS h ω hd p r l u):j5 u=some (.int .i64 (l.length:Int)):=by
 unfold MS at M;generalize he:l.map r.enc=es at M
 have hl:l.length=es.length:=by rw[← he,Az]
 cases M with
 |nil=>rw[hl];rfl
 |sl _ _ _ l o n b h1 hk hc hne hn hw hle hr=>rw[hl,← hn];rfl
theorem MS.ok1{r:RT}{l:List r.D}{u:V}(M:MS h ω hd p r l u):u.ok1=true∧u.cell=true:=by
 unfold MS at M;generalize l.map r.enc=es at M;cases M<;>exact⟨rfl,rfl⟩
theorem MS.slice{r:RT}{l:List r.D}{u:V}(M:MS h ω hd p r l u)(hl:0<l.length):∃ b,u= .slice b 0 l.length:=by
 unfold MS at M;generalize he:l.map r.enc=es at M
 have hl':l.length=es.length:=by rw[← he,Az]
 cases M with
 |nil=>rw[hl'] at hl;simp at hl
 | sl _ _ _ b o n bk h1 hk hc hne hn hw hle hr=>
   obtain⟨_,rfl,_⟩:=hc;exact⟨b,by rw[hl',hn]⟩
theorem MS.upd {r:RT} {l:List r.D} {b n:Nat} (M:MS h ω hd p r l (.slice b 0 n)) {i off:Nat} (hi:i<l.length) (hoff:off<r.w) {y:r.D} {c:PV} (hy:r.enc y=An (r.enc (l.getD i r.dflt)) off [c])
 {bk:Blk} (h1:h[b]?=some bk) {cs':List V} (h1':h'[b]?=some { bk with cs:=cs' }) (hcl:cs'.length=bk.cs.length) {v:V} (hcs:∀ k,get cs' k=if k=i*r.w+off then v else get bk.cs k)
 (hO:∀ x,x≠b→(∀ q,ω x≠.own hd (p++(i*r.w+off)::q))→h'[x]?=h[x]?) (hc:RC h' ω (.inn hd (p++[i*r.w+off])) c v):MS h' ω hd p r (l.set i y) (.slice b 0 n):=by
 unfold MS at M ⊢
 rw[← LH,hy,← EJ r l i hi]
 generalize he:l.map r.enc=es at M
 have hl':l.length=es.length:=by rw[← he,Az]
 have hwr:∀ e∈es,e.length=r.w:=by rw[← he];intro e h;obtain⟨x,_,rfl⟩:=List.mem_map.1 h;exact HJ r x
 have hi':i<es.length:=by rw[← hl'];exact hi
 cases M with
 | sl _ _ _ _ o _ bk' h1b hk hch hne hn hw hle hr=>
   rw[h1] at h1b;cases h1b
   have hbw:bk.w=r.w:=by rw[← hw _ (C9 (l:=es) hi')];exact hwr _ (C9 hi')
   have hel:=IF hw hi';obtain⟨hb1,_,hb3⟩:=hch
   refine RC.sl _ .own _ b 0 n { bk with cs:=cs' } h1' hk ⟨hb1,rfl,hb3⟩ (fun _ _ h=>by have:=congrArg List.length h;rw[C6] at this;simp only[AV] at this;omega) (by rw[C6];exact hn) (Ml hw (by rw[Ea];exact hel)) (by rw[C6];simp only[hcl];exact hle) fun k hk'=>?_
   simp only[C6] at hk';rw[N5 hw hi' (by rw[hbw];simp only[A6,AV];omega) k hk',Bc,hcs];simp only[A6,AV,hbw];by_cases hkk:k=i*r.w+off
   · subst hkk;rw[Ab ⟨by omega,by omega⟩,Ab rfl,OO];exact hc
   · rw[Ad (by omega),Ad hkk];have r0:=hr k hk';rw[Bc] at r0;refine r0.inn0 (f:=Ren.id) (T:=fun x=>x=b∨∃ q,ω x= .own hd (p++(i*r.w+off)::q)) ⟨fun x e=>⟨e,hO x (by rintro rfl;rw[hb1] at e;cases e) (fun q e'=>by rw[e] at e';cases e')⟩,fun x a q e hn=>⟨by rw[e];rfl,hO x (fun h=>hn (.inl h)) (fun q' e'=>hn (.inr ⟨q',e'⟩))⟩⟩ (fun x q e hT=>?_) (fun q=>rfl);rcases hT with rfl|⟨q',e'⟩
     · rw[hb1] at e;simp only[W.own.injEq] at e;have:=congrArg List.length e.2;simp at this
     · rw[e] at e';simp only[W.own.injEq,Bm,B0,BL,List.append_cancel_left_eq,G2] at e';exact hkk e'.2.1
theorem MS.store {r:RT} {l:List r.D} {b n:Nat} (M:MS h ω hd p r l (.slice b 0 n)) {i off:Nat} (hi:i<l.length) (hoff:off<r.w) {v:V} (hv:v.flat=true) (hvc:v.cells=[v]) {y:r.D} (hy:r.enc y=An (r.enc (l.getD i r.dflt)) off [.fl v])
 (hinj:∀ l l' a q,ω l= .own a q→ω l'= .own a q→l=l') (bx:List (List V)):∃ h',QS bx h 1 (.ptr b (i*r.w+off)) v=some (.undef,bx,h')∧Only (Je ω hd p) h h'∧MS h' ω hd p r (l.set i y) (.slice b 0 n):=by
 have M0:=M
 unfold MS at M0
 generalize he:l.map r.enc=es at M0
 have hl':l.length=es.length:=by rw[← he,Az]
 have hwr:∀ e∈es,e.length=r.w:=by rw[← he];intro e h;obtain⟨x,_,rfl⟩:=List.mem_map.1 h;exact HJ r x
 have hi':i<es.length:=by rw[← hl'];exact hi
 cases M0 with
 | sl _ _ _ _ o _ bk h1 hk hch hne hn hw hle hr=>
   have hbw:bk.w=r.w:=by rw[← hw _ (C9 (l:=es) hi')];exact hwr _ (C9 hi')
   obtain⟨hb1,_,hb3⟩:=hch
   have hlt:i*r.w+off<bk.cs.length:=by
    have:(i+1)*r.w≤es.length*r.w:=F4 _ hi';rw[Cr,HG] at this;rw[hbw] at hle;omega
   have hb:b<h.length:=Bs h1
   have hset:∀ k,(h.set b { bk with cs:=splice bk.cs (i*r.w+off) [v] })[k]?=if k=b then some { bk with cs:=splice bk.cs (i*r.w+off) [v] } else h[k]?:=by
    intro k;rw[ET];by_cases hk:b=k
    · subst hk;simp[hb]
    · rw[Ad hk,Ad (fun h'=>hk h'.symm)]
   have hvcell:[v].all V.cell=true:=by
    cases v<;>first|rfl|(simp[V.flat] at hv)
   refine⟨h.set b { bk with cs:=splice bk.cs (i*r.w+off) [v] },?_,⟨by simp,fun x hx=>?_,fun x bx' hx=>?_⟩,M.upd hi hoff hy h1 (cs':=splice bk.cs (i*r.w+off) [v]) (v:=v) (by rw[hset,Ab rfl]) (DH _ _ _) (fun k=>?_) (fun x hx _=>by rw[hset,Ad hx]) (.v _ _ hv)⟩
   · have hwr':wr h b (i*r.w+off) [v]=some (h.set b { bk with cs:=splice bk.cs (i*r.w+off) [v] }):=by
      rw[wr,h1];simp only;rw[Ab ⟨hb3,by simp only[A6,AV];omega⟩]
     simp only[QS,hvc,hvcell,A6,AV,hwr'];rfl
   · rw[hset,Ad];rintro rfl;exact hx ⟨[],by rw[hb1];simp⟩
   · by_cases hxb:x=b
     · subst hxb;rw[h1] at hx;cases hx;exact⟨{ bk with cs:=splice bk.cs (i*r.w+off) [v] },by rw[hset,Ab rfl],rfl,rfl,DH _ _ _⟩
     · exact⟨bx',by rw[hset,Ad hxb];exact hx,rfl,rfl,rfl⟩
   · rw[Ll _ _ _ _ (by simp only[A6,AV];omega)];simp only[A6,AV];by_cases hkk:k=i*r.w+off
     · subst hkk;rw[Ab ⟨by omega,by omega⟩,Ab rfl,OO];rfl
     · rw[Ad (by omega),Ad hkk]
theorem MS.load{r:RT}{l:List r.D}{b n:Nat}(M:MS h ω hd p r l (.slice b 0 n)){i off:Nat}(hi:i<l.length)(hoff:off<r.w){r':RT}{l':List r'.D}(hx:Aa (r.enc (l.getD i r.dflt)) off= .sl .own (l'.map r'.enc)) :
 ∃ u,Wd h none (.ptr b (i*r.w+off))=some u∧MS h ω hd (p++[i*r.w+off]) r' l' u∧∃ bk,h[b]?=some bk∧get bk.cs (i*r.w+off)=u:=by
 have M0:=M
 unfold MS at M0
 rw[← EJ r l i hi] at hx
 generalize he:l.map r.enc=es at M0 hx
 have hl':l.length=es.length:=by rw[← he,Az]
 have hwr:∀ e∈es,e.length=r.w:=by rw[← he];intro e h;obtain⟨x,_,rfl⟩:=List.mem_map.1 h;exact HJ r x
 have hi':i<es.length:=by rw[← hl'];exact hi
 cases M0 with
 | sl _ _ _ _ o _ bk h1 hk hch hne hn hw hle hr=>
   have hbw:bk.w=r.w:=by rw[← hw _ (C9 (l:=es) hi')];exact hwr _ (C9 hi')
   have hm:(i+1)*r.w≤es.length*r.w:=F4 _ hi';rw[Cr,HG] at hm
   have hlt:i*r.w+off<bk.cs.length:=by rw[hbw] at hle;omega
   have r0:=hr (i*r.w+off) (by rw[hbw];omega);rw[Bc] at r0;have hf:Aa es.flatten (i*r.w+off)=Aa (As es i) off:=Fe (w:=r.w) (by rw[← hbw];exact hw) i off hoff;rw[hf,hx] at r0;refine⟨get bk.cs (i*r.w+off),?_,r0,bk,h1,rfl⟩
   have e1:rd h b (i*r.w+off) 1=some ((bk.cs.drop (i*r.w+off)).take 1):=by
    rw[rd,h1];simp only;rw[Ab ⟨hk,by omega⟩]
   show (rd h b (i*r.w+off) 1).bind (Cj none)=_;rw[e1];rw[OM hlt];simp only[Sq,List.take_zero,HM,Cj,B3,Av hlt];rfl
theorem MS.sub {r:RT} {l:List r.D} {b n:Nat} (M:MS h ω hd p r l (.slice b 0 n)) {i off:Nat} (hi:i<l.length) (hoff:off<r.w) {u:V} {bk:Blk} (h1:h[b]?=some bk) (hu:get bk.cs (i*r.w+off)=u)
 (hO:Only (Je ω hd (p++[i*r.w+off])) h h') {r':RT} {l':List r'.D} (hr:MS h' ω hd (p++[i*r.w+off]) r' l' u) {y:r.D} (hy:r.enc y=An (r.enc (l.getD i r.dflt)) off [.sl .own (l'.map r'.enc)]) :
 Only (Je ω hd p) h h'∧MS h' ω hd p r (l.set i y) (.slice b 0 n):=by
 have hb1:ω b= .own hd p:=by
  have M0:=M;unfold MS at M0;generalize l.map r.enc=es at M0
  cases M0 with
  |sl _ _ _ _ o _ bk h1 hk hch hne hn hw hle hr=>exact hch.1
 refine⟨hO.mono fun x ⟨q,e⟩=>⟨(i*r.w+off)::q,by rw[e];simp⟩,M.upd hi hoff hy h1 (cs':=bk.cs) (v:=u) ?_ rfl (fun k=>?_) (fun x _ hx=>hO.off x (fun⟨q,e⟩=>hx q (by rw[e];simp))) hr⟩
 · rw[hO.off b]
   · exact h1
   · rintro⟨q,e⟩;rw[hb1] at e;simp only[W.own.injEq] at e;have:=congrArg List.length e.2;simp at this
 · split
   · rename_i hk;rw[hk,hu]
   · rfl
theorem MS.frame{r:RT}{l:List r.D}{u:V}(M:MS h ω hd p r l u){i:Nat}(hi:i<l.length):MS h ω hd p r (l.set i (l.getD i r.dflt)) u:=by
 have:l.set i (l.getD i r.dflt)=l:=by
  rw[Du,Av hi];simp
 rw[this];exact M
theorem Qj{r:RT}{l:List r.D}{i:Nat}(hi:i<l.length)(x:r.D):(l.set i x).getD i r.dflt=x:=by
 rw[Du,List.getElem?_set_self (by simpa using hi)];rfl
theorem MS.st {r:RT} {l:List r.D} {b n i:Nat} {x:r.D} (M:MS h ω hd p r (l.set i x) (.slice b 0 n)) (hi:i<l.length) {off:Nat} (hoff:off<r.w) {v:V} (hv:v.flat=true) (hvc:v.cells=[v]) {y:r.D} (hy:r.enc y=An (r.enc x) off [.fl v])
 (hinj:∀ l l' a q,ω l= .own a q→ω l'= .own a q→l=l') (bx:List (List V)):∃ h',QS bx h 1 (.ptr b (i*r.w+off)) v=some (.undef,bx,h')∧Only (Je ω hd p) h h'∧MS h' ω hd p r (l.set i y) (.slice b 0 n):=by
 obtain⟨h',e1,e2,e3⟩:=M.store (i:=i) (off:=off) (by simpa using hi) hoff hv hvc (y:=y) (by rw[Qj hi];exact hy) hinj bx
 rw[List.set_set] at e3
 exact⟨h',e1,e2,e3⟩
theorem MS.sb{r:RT}{l:List r.D}{b n i:Nat}{x:r.D}(M:MS h ω hd p r (l.set i x) (.slice b 0 n))(hi:i<l.length){off:Nat}(hoff:off<r.w){r':RT}{l':List r'.D}(hx:Aa (r.enc x) off= .sl .own (l'.map r'.enc)) :
 ∃ u,Wd h none (.ptr b (i*r.w+off))=some u∧MS h ω hd (p++[i*r.w+off]) r' l' u ∧
   ∀ (h':Ac) (l'':List r'.D) (y:r.D),Only (Je ω hd (p++[i*r.w+off])) h h'→MS h' ω hd (p++[i*r.w+off]) r' l'' u→r.enc y=An (r.enc x) off [.sl .own (l''.map r'.enc)]→Only (Je ω hd p) h h'∧MS h' ω hd p r (l.set i y) (.slice b 0 n):=by
 obtain⟨u,e1,e2,bk,e3,e4⟩:=M.load (i:=i) (off:=off) (by simpa using hi) hoff (r':=r') (l':=l') (by rw[Qj hi];exact hx)
 refine⟨u,e1,e2,fun h' l'' y hO hM hy=>?_⟩
 obtain⟨k1,k2⟩:=M.sub (i:=i) (off:=off) (by simpa using hi) hoff e3 e4 hO hM (y:=y) (by rw[Qj hi];exact hy)
 rw[List.set_set] at k2
 exact⟨k1,k2⟩
theorem RC.flat1{H:Ac}{m:Md}{x u:V}(r:RC H ω m (.fl x) u)(hx:x≠.undef):u=x:=by
 cases r with
 |undef=>exact absurd rfl hx
 |v=>rfl
end
def SlC(s:A8)(r:RT):Prop:=∀ (h:Ac) (ω:Nat→W) (hd:Hd) (p:List Nat) (l:List r.D) (u:V) (m:Int) (Q:V→Ac→Prop),CT.wl (.sl r) l→(∀ l l' a q,ω l= .own a q→ω l'= .own a q→l=l')→MS h ω hd p r l u →
 (∀ h',Only (Je ω hd p) h h'→MS h' ω hd p r (KU r.mkI l m).1 u→Q (.int .i64 (KU r.mkI l m).2) h')→s [u,.int .i64 m] h Q
def kP(r:RT):DMk:=⟨.one (.sl r),false,fun l=>CT.wl (.sl r) l,fun l m=>KU r.mkI l m,false⟩
theorem SlC.sound{s:A8}{r:RT}(hs:SlC s r):R5 s (kP r).P:=by
 rintro h ω hd P b AL us u m K Q hinj hu hl hr ⟨x,rfl,hok,hK⟩ hQ;have hu:us=[u]:=hu;subst hu;have h0:=hr 0 (by show 0<1;omega)
 refine hs h ω hd (P++[b]) x u m Q hok hinj h0 fun h' hO hM=>?_
 refine hQ _ _ h' hK rfl (hO.mono fun l ⟨q,e⟩=>⟨0,_,q,by show 0<1;omega,rfl,by rw[e];simp⟩) fun c hc=>?_
 have:c=0:=by have:c<1:=hc;omega
 subst this;exact hM
structure Fn where
 d:DFun
 h:List HT
 q:QT
@[irreducible] def Fn.S(F:Fn):A8:=Kw F.d.er.er
@[irreducible] def Fn.P(F:Fn):BV:=IK F.d.er
@[irreducible] def Fn.V(F:Fn)(x:TuX F.h):F.q.D:=(shut fun x=>FF F.d F.h F.q x).1 x
@[irreducible] def Fn.O(F:Fn)(x:TuX F.h):Prop:=(shut fun x=>FC F.d F.h F.q x).1 x
def Fn.D(F:Fn):E0:=F7 F.h F.q F.O F.V
theorem Fn.v(F:Fn)(x:TuX F.h):F.V x=FF F.d F.h F.q x:=by unfold Fn.V;exact congrFun (shut _).2 x
theorem Fn.o(F:Fn)(x:TuX F.h):F.O x=FC F.d F.h F.q x:=by unfold Fn.O;exact congrFun (shut _).2 x
def Fn.A(F:Fn):Prop:=G6 F.S F.P
def Fn.B(F:Fn):Prop:=HI F.P F.D
theorem Bp{F:Fn}(o:AllP F.d.er.body.obs):F.A:=by unfold Fn.A Fn.S Fn.P;exact UJ o
theorem Bu{F:Fn}(o:AllD F.d.body.obs)(st:KS F.d F.h F.q=true)(c:∀ x,KI F.d F.h F.q x=true):F.B:=by
 unfold Fn.B Fn.P;exact U5 o st c (fun x h=>Eq.mp (F.o x) h) (fun x=>(F.v x).symm)
@[reducible] def oF (i d:Nat) (F:Fn) (args:List Opnd):DOper:=⟨i,some d,.call false F.S F.P F.D args,none,[]⟩
@[reducible] def xF (i d:Nat) (F:Fn) (args:List Opnd) (a:List Nat):DOper:=⟨i,some d,.call false F.S F.P F.D args,none,a⟩
theorem lF{P:Program}(hm:P.follows .mixedOrders=true){F:Fn}{f:FuncId}{fn:Func}{obs:List (FuncId×A8)}(hf:P.funcs[f]?=some fn)(hk:Po P fn F.d.er.er=true)(ho:Pu P fn F.d.er.er=obs)(hob:AllSound P obs):Aq P f F.S:=by
 unfold Fn.S;exact aW hm hf hk ho hob
section
set_option maxRecDepth 8000
def bc:DCode:=(.seq [2,1,0] (.region [oa 0 6 (.mv (.c (.bool false)))]) (.seq [6] (.region [om 0 7 0,om 1 8 1,oa 2 9 (.bin .geq (.t 7) (.t 8)),om 3 10 9,og 4 11 (.mv (.t 0)) 10 true,og 5 12 (.mv (.t 2)) 10 true,og 6 13 (.bin .leq (.t 11) (.t 12)) 10 true,oa 7 14 (.pick (.t 10) (.t 13) (.c (.bool false))),om 8 6 14]) .ret))
def BW:Fn:=⟨⟨3,15,0,true,[.tmp 6],bc⟩,[.one .frz (.int .i64),.one .frz (.int .i64),.one .frz (.int .i64)],.one (.one .own (.bool))⟩
theorem Ir:BW.A:=Bp trivial
def BA:Int×Int×Int→Bool:=BW.V
def FO:Int×Int×Int→Prop:=BW.O
theorem Iq:BW.B:=Bu trivial (by kernel_rfl) (fun x=>by kernel_rfl)
def Y5:DCode:=(.seq [1] (.region [oa 0 1 (.boxB 0 4 (.t 0)),oa 1 2 (.mv (.c (.bool false)))]) (.seq [3,1] (.region [oa 0 6 (.fieldA 1 (.t 1)),oa 1 7 (.loadB 0 none (.t 6)),oF 2 8 BW [(.t 7),(.c (.int .i64 1)),(.c (.int .i64 56))],om 3 3 8]) (.seq [4,3,1] (.region [oa 0 9 (.fieldA 2 (.t 1)),oa 1 10 (.loadB 0 none (.t 9)),oF 2 11 BW [(.t 10),(.c (.int .i64 1)),(.c (.int .i64 15))],om 3 4 11]) (.seq [5,4,3,1] (.region [oa 0 12 (.fieldA 3 (.t 1)),oa 1 13 (.loadB 0 none (.t 12)),oF 2 14 BW [(.t 13),(.c (.int .i64 1)),(.c (.int .i64 3))],om 3 5 14]) (.seq [] (.seq [16,5,4,3,1] (.region [oa 0 15 (.fieldA 0 (.t 1)),oa 1 16 (.loadB 0 none (.t 15))]) (.block 0 (.seq [17,16,5,4,3,1] (.seq [17,16,5,4,3,1] (.region [oa 0 18 (.bin .eql (.t 16) (.c (.int .i64 0))),om 1 17 18]) (.cond (.t 17) .skip (.seq [17,16,5,4,3,1] (.region [oa 0 19 (.bin .eql (.t 16) (.c (.int .i64 1))),om 1 17 19]) (.cond (.t 17) .skip (.region [oa 0 20 (.bin .eql (.t 16) (.c (.int .i64 10))),om 1 17 20]))))) (.cond (.t 17) (.seq [2] (.region [oa 0 21 (.fieldA 1 (.t 1)),oa 1 22 (.loadB 0 none (.t 21)),oa 2 23 (.bin .eql (.t 22) (.c (.int .i64 0))),om 3 24 23,og 4 25 (.fieldA 2 (.t 1)) 24 true,og 5 26 (.loadB 0 none (.t 25)) 24 true,og 6 27 (.bin .eql (.t 26) (.c (.int .i64 0))) 24 true,oa 7 28 (.pick (.t 24) (.t 27) (.c (.bool false))),om 8 29 28,og 9 30 (.fieldA 3 (.t 1)) 29 true,og 10 31 (.loadB 0 none (.t 30)) 29 true,og 11 32 (.bin .eql (.t 31) (.c (.int .i64 0))) 29 true,oa 12 33 (.pick (.t 29) (.t 32) (.c (.bool false))),om 13 2 33]) .ret) (.seq [34,16,5,4,3,1] (.region [oa 0 35 (.bin .eql (.t 16) (.c (.int .i64 2))),om 1 34 35]) (.cond (.t 34) (.seq [2] (.region [oa 0 36 (.fieldA 3 (.t 1)),oa 1 37 (.loadB 0 none (.t 36)),oa 2 38 (.bin .eql (.t 37) (.c (.int .i64 0))),om 3 39 38,og 4 40 (.mv (.t 3)) 39 true,og 5 41 (.mv (.t 40)) 39 true,og 6 42 (.fieldA 1 (.t 1)) 41 false,og 7 43 (.loadB 0 none (.t 42)) 41 false,og 8 44 (.bin .eql (.t 43) (.c (.int .i64 0))) 41 false,og 9 45 (.mv (.t 44)) 41 false,og 10 46 (.mv (.t 4)) 45 true,og 11 47 (.pick (.t 45) (.t 46) (.c (.bool false))) 41 false,og 12 48 (.pick (.t 41) (.c (.bool true)) (.t 47)) 39 true,oa 13 49 (.pick (.t 39) (.t 48) (.c (.bool false))),om 14 50 49,og 15 51 (.mv (.t 4)) 50 true,og 16 52 (.mv (.t 51)) 50 true,og 17 53 (.fieldA 2 (.t 1)) 52 false,og 18 54 (.loadB 0 none (.t 53)) 52 false,og 19 55 (.bin .eql (.t 54) (.c (.int .i64 0))) 52 false,og 20 56 (.pick (.t 52) (.c (.bool true)) (.t 55)) 50 true,oa 21 57 (.pick (.t 50) (.t 56) (.c (.bool false))),om 22 2 57]) .ret) (.seq [58,16,5,4,3,1] (.seq [58,16,5,4,3,1] (.region [oa 0 59 (.bin .eql (.t 16) (.c (.int .i64 3))),om 1 58 59]) (.cond (.t 58) .skip (.region [oa 0 60 (.bin .eql (.t 16) (.c (.int .i64 4))),om 1 58 60]))) (.cond (.t 58) (.seq [2] (.region [om 0 61 5,om 1 62 61,og 2 63 (.fieldA 1 (.t 1)) 62 true,og 3 64 (.loadB 0 none (.t 63)) 62 true,og 4 65 (.bin .eql (.t 64) (.c (.int .i64 0))) 62 true,oa 5 66 (.pick (.t 62) (.t 65) (.c (.bool false))),om 6 67 66,og 7 68 (.fieldA 2 (.t 1)) 67 true,og 8 69 (.loadB 0 none (.t 68)) 67 true,og 9 70 (.bin .eql (.t 69) (.c (.int .i64 0))) 67 true,oa 10 71 (.pick (.t 67) (.t 70) (.c (.bool false))),om 11 2 71]) .ret) (.seq [72,16,5,4,3,1] (.seq [72,16,5,4,3,1] (.region [oa 0 73 (.bin .eql (.t 16) (.c (.int .i64 5))),om 1 72 73]) (.cond (.t 72) .skip (.region [oa 0 74 (.bin .eql (.t 16) (.c (.int .i64 9))),om 1 72 74]))) (.cond (.t 72) (.seq [2] (.region [oa 0 75 (.fieldA 3 (.t 1)),oa 1 76 (.loadB 0 none (.t 75)),oF 2 77 BW [(.t 76),(.c (.int .i64 0)),(.c (.int .i64 3))],om 3 78 77,og 4 79 (.fieldA 1 (.t 1)) 78 true,og 5 80 (.loadB 0 none (.t 79)) 78 true,og 6 81 (.bin .eql (.t 80) (.c (.int .i64 0))) 78 true,oa 7 82 (.pick (.t 78) (.t 81) (.c (.bool false))),om 8 83 82,og 9 84 (.fieldA 2 (.t 1)) 83 true,og 10 85 (.loadB 0 none (.t 84)) 83 true,og 11 86 (.bin .eql (.t 85) (.c (.int .i64 0))) 83 true,oa 12 87 (.pick (.t 83) (.t 86) (.c (.bool false))),om 13 2 87]) .ret) (.seq [88,16,5,4,3,1] (.region [oa 0 89 (.bin .eql (.t 16) (.c (.int .i64 6))),om 1 88 89]) (.cond (.t 88) (.seq [2] (.region [om 0 90 3,om 1 91 90,og 2 92 (.mv (.t 4)) 91 true,oa 3 93 (.pick (.t 91) (.t 92) (.c (.bool false))),om 4 94 93,og 5 95 (.fieldA 3 (.t 1)) 94 true,og 6 96 (.loadB 0 none (.t 95)) 94 true,og 7 97 (.bin .eql (.t 96) (.c (.int .i64 0))) 94 true,oa 8 98 (.pick (.t 94) (.t 97) (.c (.bool false))),om 9 2 98]) .ret) (.seq [99,16,5,4,3,1] (.region [oa 0 100 (.bin .eql (.t 16) (.c (.int .i64 7))),om 1 99 100]) (.cond (.t 99) (.seq [2] (.region [om 0 101 3,om 1 102 101,og 2 103 (.mv (.t 5)) 102 true,oa 3 104 (.pick (.t 102) (.t 103) (.c (.bool false))),om 4 105 104,og 5 106 (.fieldA 2 (.t 1)) 105 true,og 6 107 (.loadB 0 none (.t 106)) 105 true,og 7 108 (.bin .eql (.t 107) (.c (.int .i64 0))) 105 true,oa 8 109 (.pick (.t 105) (.t 108) (.c (.bool false))),om 9 2 109]) .ret) (.seq [110,4,1] (.region [oa 0 111 (.bin .eql (.t 16) (.c (.int .i64 8))),om 1 110 111]) (.cond (.t 110) (.seq [2] (.region [om 0 112 4,om 1 113 112,og 2 114 (.fieldA 1 (.t 1)) 113 true,og 3 115 (.loadB 0 none (.t 114)) 113 true,og 4 116 (.bin .eql (.t 115) (.c (.int .i64 0))) 113 true,oa 5 117 (.pick (.t 113) (.t 116) (.c (.bool false))),om 6 118 117,og 7 119 (.fieldA 3 (.t 1)) 118 true,og 8 120 (.loadB 0 none (.t 119)) 118 true,og 9 121 (.bin .eql (.t 120) (.c (.int .i64 0))) 118 true,oa 10 122 (.pick (.t 118) (.t 121) (.c (.bool false))),om 11 2 122]) .ret) .skip)))))))))))))))) (.seq [2] (.region [oa 0 2 (.mv (.c (.bool false)))]) .ret))))))
def D7:Fn:=⟨⟨1,123,1,true,[.tmp 2],Y5⟩,[.agg [(.frz,.int .i64),(.frz,.int .i64),(.frz,.int .i64),(.frz,.int .i64)]],.one (.one .own (.bool))⟩
theorem To:D7.A:=Bp ⟨Ir,Ir,Ir,Ir,trivial⟩
def D6:Int×Int×Int×Int→Bool:=D7.V
def JC:Int×Int×Int×Int→Prop:=D7.O
theorem Tn:D7.B:=Bu ⟨Iq,Iq,Iq,Iq,trivial⟩ (by kernel_rfl) (fun x=>by kernel_rfl)
def Z4:DCode:=(.seq [0] (.region [oa 0 2 (.mv (.c (.bool false)))]) (.seq [2] (.region [om 0 3 0,oa 1 4 (.bin .geq (.t 3) (.c (.int .i64 1))),om 2 5 4,og 3 6 (.mv (.t 0)) 5 true,og 4 7 (.bin .leq (.t 6) (.c (.int .i64 56))) 5 true,oa 5 8 (.pick (.t 5) (.t 7) (.c (.bool false))),om 6 2 8]) .ret))
def Dr:Fn:=⟨⟨1,9,0,true,[.tmp 2],Z4⟩,[.one .frz (.int .i64)],.one (.one .own (.bool))⟩
theorem P4:Dr.A:=Bp trivial
def Fa:Int→Bool:=Dr.V
def JL:Int→Prop:=Dr.O
theorem P3:Dr.B:=Bu trivial (by kernel_rfl) (fun x=>by kernel_rfl)
def aA:DCode:=(.seq [0] (.region [oa 0 2 (.mv (.c (.bool false)))]) (.seq [2] (.region [om 0 3 0,oa 1 4 (.bin .geq (.t 3) (.c (.int .i64 1))),om 2 5 4,og 3 6 (.mv (.t 0)) 5 true,og 4 7 (.bin .leq (.t 6) (.c (.int .i64 15))) 5 true,oa 5 8 (.pick (.t 5) (.t 7) (.c (.bool false))),om 6 2 8]) .ret))
def Ct:Fn:=⟨⟨1,9,0,true,[.tmp 2],aA⟩,[.one .frz (.int .i64)],.one (.one .own (.bool))⟩
theorem P2:Ct.A:=Bp trivial
def JO:Int→Bool:=Ct.V
def Im:Int→Prop:=Ct.O
theorem P0:Ct.B:=Bu trivial (by kernel_rfl) (fun x=>by kernel_rfl)
def Y9:DCode:=(.seq [0] (.region [oa 0 2 (.mv (.c (.bool false)))]) (.seq [2] (.region [om 0 3 0,oa 1 4 (.bin .geq (.t 3) (.c (.int .i64 1))),om 2 5 4,og 3 6 (.mv (.t 0)) 5 true,og 4 7 (.bin .leq (.t 6) (.c (.int .i64 3))) 5 true,oa 5 8 (.pick (.t 5) (.t 7) (.c (.bool false))),om 6 2 8]) .ret))
def Dp:Fn:=⟨⟨1,9,0,true,[.tmp 2],Y9⟩,[.one .frz (.int .i64)],.one (.one .own (.bool))⟩
theorem Tz:Dp.A:=Bp trivial
def Ny:Int→Bool:=Dp.V
def La:Int→Prop:=Dp.O
theorem Tv:Dp.B:=Bu trivial (by kernel_rfl) (fun x=>by kernel_rfl)
def YS:DCode:=(.seq [1] (.region [oa 0 1 (.boxB 0 4 (.t 0)),oa 1 2 (.mv (.c (.bool false)))]) (.seq [] (.seq [4,1] (.region [oa 0 3 (.fieldA 0 (.t 1)),oa 1 4 (.loadB 0 none (.t 3))]) (.block 0 (.seq [5,4,1] (.seq [5,4,1] (.region [oa 0 6 (.bin .eql (.t 4) (.c (.int .i64 0))),om 1 5 6]) (.cond (.t 5) .skip (.seq [5,4,1] (.region [oa 0 7 (.bin .eql (.t 4) (.c (.int .i64 1))),om 1 5 7]) (.cond (.t 5) .skip (.region [oa 0 8 (.bin .eql (.t 4) (.c (.int .i64 10))),om 1 5 8]))))) (.cond (.t 5) (.seq [2] (.region [oa 0 9 (.fieldA 1 (.t 1)),oa 1 10 (.loadB 0 none (.t 9)),oa 2 11 (.bin .eql (.t 10) (.c (.int .i64 0))),om 3 12 11,og 4 13 (.fieldA 2 (.t 1)) 12 true,og 5 14 (.loadB 0 none (.t 13)) 12 true,og 6 15 (.bin .eql (.t 14) (.c (.int .i64 0))) 12 true,oa 7 16 (.pick (.t 12) (.t 15) (.c (.bool false))),om 8 17 16,og 9 18 (.fieldA 3 (.t 1)) 17 true,og 10 19 (.loadB 0 none (.t 18)) 17 true,og 11 20 (.bin .eql (.t 19) (.c (.int .i64 0))) 17 true,oa 12 21 (.pick (.t 17) (.t 20) (.c (.bool false))),om 13 2 21]) .ret) (.seq [22,4,1] (.region [oa 0 23 (.bin .eql (.t 4) (.c (.int .i64 2))),om 1 22 23]) (.cond (.t 22) (.seq [2] (.region [oa 0 24 (.fieldA 3 (.t 1)),oa 1 25 (.loadB 0 none (.t 24)),oa 2 26 (.bin .eql (.t 25) (.c (.int .i64 0))),om 3 27 26,og 4 28 (.fieldA 1 (.t 1)) 27 true,og 5 29 (.loadB 0 none (.t 28)) 27 true,og 6 30 (.bin .eql (.t 29) (.c (.int .i64 0))) 27 true,og 7 31 (.mv (.t 30)) 27 true,og 8 32 (.fieldA 1 (.t 1)) 31 false,og 9 33 (.loadB 0 none (.t 32)) 31 false,⟨10,some 34,.call false Dr.S Dr.P Dr.D [(.t 33)],(some (31,false)),[]⟩,og 11 35 (.pick (.t 31) (.c (.bool true)) (.t 34)) 27 true,oa 12 36 (.pick (.t 27) (.t 35) (.c (.bool false))),om 13 37 36,og 14 38 (.fieldA 2 (.t 1)) 37 true,og 15 39 (.loadB 0 none (.t 38)) 37 true,og 16 40 (.bin .eql (.t 39) (.c (.int .i64 0))) 37 true,og 17 41 (.mv (.t 40)) 37 true,og 18 42 (.fieldA 2 (.t 1)) 41 false,og 19 43 (.loadB 0 none (.t 42)) 41 false,⟨20,some 44,.call false Ct.S Ct.P Ct.D [(.t 43)],(some (41,false)),[]⟩,og 21 45 (.pick (.t 41) (.c (.bool true)) (.t 44)) 37 true,oa 22 46 (.pick (.t 37) (.t 45) (.c (.bool false))),om 23 47 46,og 24 48 (.fieldA 1 (.t 1)) 47 true,og 25 49 (.loadB 0 none (.t 48)) 47 true,og 26 50 (.bin .neq (.t 49) (.c (.int .i64 0))) 47 true,og 27 51 (.mv (.t 50)) 47 true,og 28 52 (.fieldA 2 (.t 1)) 51 false,og 29 53 (.loadB 0 none (.t 52)) 51 false,og 30 54 (.bin .neq (.t 53) (.c (.int .i64 0))) 51 false,og 31 55 (.pick (.t 51) (.c (.bool true)) (.t 54)) 47 true,oa 32 56 (.pick (.t 47) (.t 55) (.c (.bool false))),om 33 2 56]) .ret) (.seq [57,4,1] (.seq [57,4,1] (.region [oa 0 58 (.bin .eql (.t 4) (.c (.int .i64 3))),om 1 57 58]) (.cond (.t 57) .skip (.region [oa 0 59 (.bin .eql (.t 4) (.c (.int .i64 4))),om 1 57 59]))) (.cond (.t 57) (.seq [2] (.region [oa 0 60 (.fieldA 1 (.t 1)),oa 1 61 (.loadB 0 none (.t 60)),oa 2 62 (.bin .eql (.t 61) (.c (.int .i64 0))),om 3 63 62,og 4 64 (.fieldA 2 (.t 1)) 63 true,og 5 65 (.loadB 0 none (.t 64)) 63 true,og 6 66 (.bin .eql (.t 65) (.c (.int .i64 0))) 63 true,oa 7 67 (.pick (.t 63) (.t 66) (.c (.bool false))),om 8 68 67,og 9 69 (.fieldA 3 (.t 1)) 68 true,og 10 70 (.loadB 0 none (.t 69)) 68 true,⟨11,some 71,.call false Dp.S Dp.P Dp.D [(.t 70)],(some (68,true)),[]⟩,oa 12 72 (.pick (.t 68) (.t 71) (.c (.bool false))),om 13 2 72]) .ret) (.seq [73,4,1] (.region [oa 0 74 (.bin .eql (.t 4) (.c (.int .i64 5))),om 1 73 74]) (.cond (.t 73) (.seq [2] (.region [oa 0 75 (.fieldA 1 (.t 1)),oa 1 76 (.loadB 0 none (.t 75)),oa 2 77 (.bin .eql (.t 76) (.c (.int .i64 0))),om 3 78 77,og 4 79 (.fieldA 2 (.t 1)) 78 true,og 5 80 (.loadB 0 none (.t 79)) 78 true,og 6 81 (.bin .eql (.t 80) (.c (.int .i64 0))) 78 true,oa 7 82 (.pick (.t 78) (.t 81) (.c (.bool false))),om 8 83 82,og 9 84 (.fieldA 3 (.t 1)) 83 true,og 10 85 (.loadB 0 none (.t 84)) 83 true,og 11 86 (.bin .geq (.t 85) (.c (.int .i64 0))) 83 true,oa 12 87 (.pick (.t 83) (.t 86) (.c (.bool false))),om 13 88 87,og 14 89 (.fieldA 3 (.t 1)) 88 true,og 15 90 (.loadB 0 none (.t 89)) 88 true,og 16 91 (.bin .leq (.t 90) (.c (.int .i64 3))) 88 true,oa 17 92 (.pick (.t 88) (.t 91) (.c (.bool false))),om 18 2 92]) .ret) (.seq [93,4,1] (.region [oa 0 94 (.bin .eql (.t 4) (.c (.int .i64 9))),om 1 93 94]) (.cond (.t 93) (.seq [2] (.region [oa 0 95 (.fieldA 1 (.t 1)),oa 1 96 (.loadB 0 none (.t 95)),oa 2 97 (.bin .eql (.t 96) (.c (.int .i64 0))),om 3 98 97,og 4 99 (.fieldA 2 (.t 1)) 98 true,og 5 100 (.loadB 0 none (.t 99)) 98 true,og 6 101 (.bin .eql (.t 100) (.c (.int .i64 0))) 98 true,oa 7 102 (.pick (.t 98) (.t 101) (.c (.bool false))),om 8 103 102,og 9 104 (.fieldA 3 (.t 1)) 103 true,og 10 105 (.loadB 0 none (.t 104)) 103 true,og 11 106 (.bin .geq (.t 105) (.c (.int .i64 0))) 103 true,oa 12 107 (.pick (.t 103) (.t 106) (.c (.bool false))),om 13 108 107,og 14 109 (.fieldA 3 (.t 1)) 108 true,og 15 110 (.loadB 0 none (.t 109)) 108 true,og 16 111 (.bin .leq (.t 110) (.c (.int .i64 3))) 108 true,oa 17 112 (.pick (.t 108) (.t 111) (.c (.bool false))),om 18 2 112]) .ret) (.seq [113,4,1] (.region [oa 0 114 (.bin .eql (.t 4) (.c (.int .i64 6))),om 1 113 114]) (.cond (.t 113) (.seq [2] (.region [oa 0 115 (.fieldA 1 (.t 1)),oa 1 116 (.loadB 0 none (.t 115)),oF 2 117 Dr [(.t 116)],om 3 118 117,og 4 119 (.fieldA 2 (.t 1)) 118 true,og 5 120 (.loadB 0 none (.t 119)) 118 true,⟨6,some 121,.call false Ct.S Ct.P Ct.D [(.t 120)],(some (118,true)),[]⟩,oa 7 122 (.pick (.t 118) (.t 121) (.c (.bool false))),om 8 123 122,og 9 124 (.fieldA 3 (.t 1)) 123 true,og 10 125 (.loadB 0 none (.t 124)) 123 true,og 11 126 (.bin .eql (.t 125) (.c (.int .i64 0))) 123 true,oa 12 127 (.pick (.t 123) (.t 126) (.c (.bool false))),om 13 2 127]) .ret) (.seq [128,4,1] (.region [oa 0 129 (.bin .eql (.t 4) (.c (.int .i64 7))),om 1 128 129]) (.cond (.t 128) (.seq [2] (.region [oa 0 130 (.fieldA 1 (.t 1)),oa 1 131 (.loadB 0 none (.t 130)),oF 2 132 Dr [(.t 131)],om 3 133 132,og 4 134 (.fieldA 2 (.t 1)) 133 true,og 5 135 (.loadB 0 none (.t 134)) 133 true,og 6 136 (.bin .eql (.t 135) (.c (.int .i64 0))) 133 true,oa 7 137 (.pick (.t 133) (.t 136) (.c (.bool false))),om 8 138 137,og 9 139 (.fieldA 3 (.t 1)) 138 true,og 10 140 (.loadB 0 none (.t 139)) 138 true,⟨11,some 141,.call false Dp.S Dp.P Dp.D [(.t 140)],(some (138,true)),[]⟩,oa 12 142 (.pick (.t 138) (.t 141) (.c (.bool false))),om 13 2 142]) .ret) (.seq [143,1] (.region [oa 0 144 (.bin .eql (.t 4) (.c (.int .i64 8))),om 1 143 144]) (.cond (.t 143) (.seq [2] (.region [oa 0 145 (.fieldA 1 (.t 1)),oa 1 146 (.loadB 0 none (.t 145)),oa 2 147 (.bin .eql (.t 146) (.c (.int .i64 0))),om 3 148 147,og 4 149 (.fieldA 2 (.t 1)) 148 true,og 5 150 (.loadB 0 none (.t 149)) 148 true,⟨6,some 151,.call false Ct.S Ct.P Ct.D [(.t 150)],(some (148,true)),[]⟩,oa 7 152 (.pick (.t 148) (.t 151) (.c (.bool false))),om 8 153 152,og 9 154 (.fieldA 3 (.t 1)) 153 true,og 10 155 (.loadB 0 none (.t 154)) 153 true,og 11 156 (.bin .eql (.t 155) (.c (.int .i64 0))) 153 true,oa 12 157 (.pick (.t 153) (.t 156) (.c (.bool false))),om 13 2 157]) .ret) .skip)))))))))))))))))) (.seq [2] (.region [oa 0 2 (.mv (.c (.bool false)))]) .ret)))
def E5:Fn:=⟨⟨1,158,1,true,[.tmp 2],YS⟩,[.agg [(.frz,.int .i64),(.frz,.int .i64),(.frz,.int .i64),(.frz,.int .i64)]],.one (.one .own (.bool))⟩
theorem Tq:E5.A:=Bp ⟨P4,P2,Tz,P4,P2,P4,Tz,P2,trivial⟩
def EF:Int×Int×Int×Int→Bool:=E5.V
def JD:Int×Int×Int×Int→Prop:=E5.O
theorem Tp:E5.B:=Bu ⟨P3,P0,Tv,P3,P0,P3,Tv,P0,trivial⟩ (by kernel_rfl) (fun x=>by kernel_rfl)
end
section
set_option maxRecDepth 100000
theorem Ip (x):BA x=(bAnd (iGe x.1 x.2.1) (iLe x.1 x.2.2)):=(BW.v x).trans (by kernel_rfl)
theorem Lh (x):FO x=True:=(BW.o x).trans (by kernel_rfl)
theorem Ts (x):D6 x=(bSel (bOr (iEq x.1 0) (bOr (iEq x.1 1) (iEq x.1 10))) (bAnd (iEq x.2.1 0) (bAnd (iEq x.2.2.1 0) (iEq x.2.2.2 0))) (bSel (iEq x.1 2) (bAnd (iEq x.2.2.2 0) (bSel (BA (x.2.1,1,56)) (bOr (BA (x.2.2.1,1,15)) (iEq x.2.2.1 0)) (bAnd (iEq x.2.1 0) (bAnd (BA (x.2.2.1,1,15)) (bOr (BA (x.2.2.1,1,15)) (iEq x.2.2.1 0)))))) (bSel (bOr (iEq x.1 3) (iEq x.1 4)) (bAnd (BA (x.2.2.2,1,3)) (bAnd (iEq x.2.1 0) (iEq x.2.2.1 0))) (bSel (bOr (iEq x.1 5) (iEq x.1 9)) (bAnd (BA (x.2.2.2,0,3)) (bAnd (iEq x.2.1 0) (iEq x.2.2.1 0))) (bSel (iEq x.1 6) (bAnd (BA (x.2.1,1,56)) (bAnd (BA (x.2.2.1,1,15)) (iEq x.2.2.2 0))) (bSel (iEq x.1 7) (bAnd (BA (x.2.1,1,56)) (bAnd (BA (x.2.2.2,1,3)) (iEq x.2.2.1 0))) (bAnd (iEq x.1 8) (bAnd (BA (x.2.2.1,1,15)) (bAnd (iEq x.2.1 0) (iEq x.2.2.2 0)))))))))):=(D7.v x).trans (by kernel_rfl)
theorem YO (x):JC x=((FO (x.2.1,1,56))∧((FO (x.2.2.1,1,15))∧((FO (x.2.2.2,1,3))∧(((bOr (iEq x.1 0) (bOr (iEq x.1 1) (iEq x.1 10)))=true→True)∧((bOr (iEq x.1 0) (bOr (iEq x.1 1) (iEq x.1 10)))=false→(((iEq x.1 2)=true→True)∧((iEq x.1 2)=false→(((bOr (iEq x.1 3) (iEq x.1 4))=true→True)∧((bOr (iEq x.1 3) (iEq x.1 4))=false→(((bOr (iEq x.1 5) (iEq x.1 9))=true→(FO (x.2.2.2,0,3)))∧((bOr (iEq x.1 5) (iEq x.1 9))=false→True))))))))))):=(D7.o x).trans (by kernel_rfl)
theorem ZU (x):Fa x=(bAnd (iGe x 1) (iLe x 56)):=(Dr.v x).trans (by kernel_rfl)
theorem ZP (x):JL x=True:=(Dr.o x).trans (by kernel_rfl)
theorem Z1 (x):JO x=(bAnd (iGe x 1) (iLe x 15)):=(Ct.v x).trans (by kernel_rfl)
theorem az (x):Im x=True:=(Ct.o x).trans (by kernel_rfl)
theorem Zr (x):Ny x=(bAnd (iGe x 1) (iLe x 3)):=(Dp.v x).trans (by kernel_rfl)
theorem Y7 (x):La x=True:=(Dp.o x).trans (by kernel_rfl)
theorem YH (x):EF x=(bSel (bOr (iEq x.1 0) (bOr (iEq x.1 1) (iEq x.1 10))) (bAnd (iEq x.2.1 0) (bAnd (iEq x.2.2.1 0) (iEq x.2.2.2 0))) (bSel (iEq x.1 2) (bAnd (iEq x.2.2.2 0) (bSel (iEq x.2.1 0) (bSel (iEq x.2.2.1 0) (bOr (iNe x.2.1 0) (iNe x.2.2.1 0)) (bAnd (JO x.2.2.1) (bOr (iNe x.2.1 0) (iNe x.2.2.1 0)))) (bAnd (Fa x.2.1) (bSel (iEq x.2.2.1 0) (bOr (iNe x.2.1 0) (iNe x.2.2.1 0)) (bAnd (JO x.2.2.1) (bOr (iNe x.2.1 0) (iNe x.2.2.1 0))))))) (bSel (bOr (iEq x.1 3) (iEq x.1 4)) (bAnd (iEq x.2.1 0) (bAnd (iEq x.2.2.1 0) (Ny x.2.2.2))) (bSel (iEq x.1 5) (bAnd (iEq x.2.1 0) (bAnd (iEq x.2.2.1 0) (bAnd (iGe x.2.2.2 0) (iLe x.2.2.2 3)))) (bSel (iEq x.1 9) (bAnd (iEq x.2.1 0) (bAnd (iEq x.2.2.1 0) (bAnd (iGe x.2.2.2 0) (iLe x.2.2.2 3)))) (bSel (iEq x.1 6) (bAnd (Fa x.2.1) (bAnd (JO x.2.2.1) (iEq x.2.2.2 0))) (bSel (iEq x.1 7) (bAnd (Fa x.2.1) (bAnd (iEq x.2.2.1 0) (Ny x.2.2.2))) (bAnd (iEq x.1 8) (bAnd (iEq x.2.1 0) (bAnd (JO x.2.2.1) (iEq x.2.2.2 0))))))))))):=(E5.v x).trans (by kernel_rfl)
theorem YJ (x):JD x=(((bOr (iEq x.1 0) (bOr (iEq x.1 1) (iEq x.1 10)))=true→True)∧((bOr (iEq x.1 0) (bOr (iEq x.1 1) (iEq x.1 10)))=false→(((iEq x.1 2)=true→(((iEq x.2.2.2 0)=true→(((iEq x.2.1 0)=true→(((iEq x.2.2.1 0)=true→True)∧((iEq x.2.2.1 0)=false→(Im x.2.2.1))))∧((iEq x.2.1 0)=false→((JL x.2.1)∧(((Fa x.2.1)=true→(((iEq x.2.2.1 0)=true→True)∧((iEq x.2.2.1 0)=false→(Im x.2.2.1))))∧((Fa x.2.1)=false→True))))))∧((iEq x.2.2.2 0)=false→True)))∧((iEq x.1 2)=false→(((bOr (iEq x.1 3) (iEq x.1 4))=true→(((iEq x.2.1 0)=true→(((iEq x.2.2.1 0)=true→(La x.2.2.2))∧((iEq x.2.2.1 0)=false→True)))∧((iEq x.2.1 0)=false→True)))∧((bOr (iEq x.1 3) (iEq x.1 4))=false→(((iEq x.1 5)=true→True)∧((iEq x.1 5)=false→(((iEq x.1 9)=true→True)∧((iEq x.1 9)=false→(((iEq x.1 6)=true→((JL x.2.1)∧(((Fa x.2.1)=true→(Im x.2.2.1))∧((Fa x.2.1)=false→True))))∧((iEq x.1 6)=false→(((iEq x.1 7)=true→((JL x.2.1)∧(((Fa x.2.1)=true→(((iEq x.2.2.1 0)=true→(La x.2.2.2))∧((iEq x.2.2.1 0)=false→True)))∧((Fa x.2.1)=false→True))))∧((iEq x.1 7)=false→(((iEq x.1 8)=true→(((iEq x.2.1 0)=true→(Im x.2.2.1))∧((iEq x.2.1 0)=false→True)))∧((iEq x.1 8)=false→True)))))))))))))))):=(E5.o x).trans (by kernel_rfl)
attribute [irreducible] BA FO D6 JC Fa JL JO Im Ny La EF JD
end
section
set_option maxRecDepth 8000
def b7:DCode:=(.seq [1,0] (.region [oi 0 4 0]) (.seq [4] (.region [om 0 5 0,om 1 6 1,oa 2 7 (.bin .shr (.t 5) (.t 6)),oa 3 8 (.bin .and (.t 7) (.c (.int .i64 1))),om 4 4 8]) .ret))
def GK:Fn:=⟨⟨2,9,0,true,[.tmp 4],b7⟩,[.one .frz (.int .i64),.one .frz (.int .i64)],.one (.one .own (.int .i64))⟩
theorem bA:GK.A:=Bp trivial
def Lr:Int×Int→Int:=GK.V
def Qe:Int×Int→Prop:=GK.O
theorem b6:GK.B:=Bu trivial (by kernel_rfl) (fun x=>by kernel_rfl)
end
section
set_option maxRecDepth 100000
theorem bO (x):Lr x=(iAnd .i64 (iShr .i64 x.1 x.2) 1):=(GK.v x).trans (by kernel_rfl)
theorem bU (x):Qe x=((0:Int)≤x.2):=(GK.o x).trans (by kernel_rfl)
attribute [irreducible] Lr Qe
end
section
set_option maxRecDepth 8000
def Zz:DCode:=(.seq [1,0] (.region [oi 0 4 0]) (.seq [1] (.region [om 0 5 1,on 1 6 0,oa 2 7 (.len (.t 6)),oa 3 8 (.bin .sub (.t 5) (.t 7)),om 4 1 8]) (.seq [1] (.seq [10,1] (.region [om 0 9 1,oa 1 10 (.bin .lss (.t 9) (.c (.int .i64 0)))]) (.cond (.t 10) (.seq [4] (.region [oi 0 4 (-1)]) .ret) .skip)) (.seq [4] (.region [om 0 11 1,om 1 4 11]) .ret))))
def GA:Fn:=⟨⟨2,12,0,true,[.tmp 4],Zz⟩,[.one .frz (.sl FE),.one .frz (.int .i64)],.one (.one .own (.int .i64))⟩
theorem Zt:GA.A:=Bp trivial
def FM:(List (Int×Int×Int))×Int→Int:=GA.V
def Np:(List (Int×Int×Int))×Int→Prop:=GA.O
theorem Zx:GA.B:=Bu trivial (by kernel_rfl) (fun x=>by kernel_rfl)
def Z9:DCode:=(.seq [2,1] (.region [oa 0 1 (.boxB 0 3 (.t 0)),oa 1 2 (.allocB 1 [(.int .i64 0),(.int .i64 0),(.int .i64 0)])]) (.seq [3,2,1] (.region [oa 0 3 (.allocB 2 [(.int .i64 0),(.int .i64 0),(.int .i64 0)])]) (.seq [3,2,1] (.region [oa 0 4 (.fieldA 0 (.t 1)),ob 1 5 (.loadB 0 none (.t 4)),oa 2 6 (.fieldA 0 (.t 3)),os 3 (.storeB 2 1 (.t 6) (.t 5))]) (.seq [3,2,1] (.region [oa 0 7 (.fieldA 1 (.t 1)),ob 1 8 (.loadB 0 none (.t 7)),oa 2 9 (.fieldA 1 (.t 3)),os 3 (.storeB 2 1 (.t 9) (.t 8))]) (.seq [3,2] (.region [oa 0 10 (.fieldA 2 (.t 1)),ob 1 11 (.loadB 0 none (.t 10)),oa 2 12 (.fieldA 2 (.t 3)),os 3 (.storeB 2 1 (.t 12) (.t 11))]) (.seq [2] (.region [ob 0 13 (.loadB 2 (some 3) (.t 3)),os 1 (.storeB 1 3 (.t 2) (.t 13))]) .ret))))))
def GD:Fn:=⟨⟨1,14,3,true,[.cell 2 (some 3)],Z9⟩,[.agg [(.frz,.int .i64),(.frz,.int .i64),(.frz,.int .i64)]],.one (.agg [(.own,.int .i64),(.own,.int .i64),(.own,.int .i64)])⟩
theorem aB:GD.A:=Bp trivial
def FN:Int×Int×Int→Int×Int×Int:=GD.V
def Lf:Int×Int×Int→Prop:=GD.O
theorem Z6:GD.B:=Bu trivial (by kernel_rfl) (fun x=>by kernel_rfl)
def Zg:DCode:=(.seq [0] (.region [oa 0 2 (.mv (.c .nils))]) (.seq [3,0] (.region [on 0 5 0,oa 1 6 (.len (.t 5)),⟨2,some 7,.a false (.mkSlice 3 [(.int .i64 0),(.int .i64 0),(.int .i64 0)] (.t 6)) (some FE),none,[]⟩,om 3 3 7]) (.seq [3] (.seq [4,3,0] (.region [oi 0 4 0]) (.block 0 (.loop [0,3,4] 1 (.seq [4,3,0] (.seq [11,4,3,0] (.region [om 0 8 4,on 1 9 0,oa 2 10 (.len (.t 9)),oa 3 11 (.bin .lss (.t 8) (.t 10))]) (.cond (.t 11) .skip (.exit 0))) (.seq [4,3,0] (.block 1 (.region [on 0 14 3,om 1 15 4,on 2 16 0,om 3 17 4,oa 4 18 (.indexA 3 (.t 16) (.t 17)),oa 5 19 (.loadH (some 3) (.t 18)),oF 6 20 GD [(.t 19)],oa 7 21 (.indexA 3 (.t 14) (.t 15)),os 8 (.storeH 3 (.t 21) (.t 20))])) (.region [om 0 12 4,oa 1 13 (.bin .add (.t 12) (.c (.int .i64 1))),om 2 4 13])))))) (.seq [2] (.region [om 0 22 3,om 1 2 22]) .ret))))
def D8:Fn:=⟨⟨1,23,0,false,[.tmp 2],Zg⟩,[.one .frz (.sl FE)],.one (.one .own (.sl FE))⟩
theorem PW:D8.A:=Bp ⟨aB,trivial⟩
def Dq:List (Int×Int×Int)→List (Int×Int×Int):=D8.V
def JH:List (Int×Int×Int)→Prop:=D8.O
theorem PT:D8.B:=Bu ⟨Z6,trivial⟩ (by kernel_rfl) (fun x=>by kernel_rfl)
def ZW:DCode:=(.seq [3,2] (.region [oa 0 2 (.boxB 0 3 (.t 0)),oa 1 3 (.boxB 1 3 (.t 1)),oa 2 4 (.mv (.c (.bool false)))]) (.seq [3,2] (.seq [9,3,2] (.region [oa 0 5 (.fieldA 0 (.t 2)),oa 1 6 (.loadB 0 none (.t 5)),oa 2 7 (.fieldA 0 (.t 3)),oa 3 8 (.loadB 1 none (.t 7)),oa 4 9 (.bin .neq (.t 6) (.t 8))]) (.cond (.t 9) (.seq [4] (.region [oa 0 4 (.mv (.c (.bool false)))]) .ret) .skip)) (.seq [3,2] (.seq [14,3,2] (.region [oa 0 10 (.fieldA 1 (.t 2)),oa 1 11 (.loadB 0 none (.t 10)),oa 2 12 (.fieldA 1 (.t 3)),oa 3 13 (.loadB 1 none (.t 12)),oa 4 14 (.bin .neq (.t 11) (.t 13))]) (.cond (.t 14) (.seq [4] (.region [oa 0 4 (.mv (.c (.bool false)))]) .ret) .skip)) (.seq [] (.seq [19] (.region [oa 0 15 (.fieldA 2 (.t 2)),oa 1 16 (.loadB 0 none (.t 15)),oa 2 17 (.fieldA 2 (.t 3)),oa 3 18 (.loadB 1 none (.t 17)),oa 4 19 (.bin .neq (.t 16) (.t 18))]) (.cond (.t 19) (.seq [4] (.region [oa 0 4 (.mv (.c (.bool false)))]) .ret) .skip)) (.seq [4] (.region [oa 0 4 (.mv (.c (.bool true)))]) .ret)))))
def GH:Fn:=⟨⟨2,20,2,true,[.tmp 4],ZW⟩,[.agg [(.frz,.int .i64),(.frz,.int .i64),(.frz,.int .i64)],.agg [(.frz,.int .i64),(.frz,.int .i64),(.frz,.int .i64)]],.one (.one .own (.bool))⟩
theorem aj:GH.A:=Bp trivial
def GG:(Int×Int×Int)×(Int×Int×Int)→Bool:=GH.V
def Lb:(Int×Int×Int)×(Int×Int×Int)→Prop:=GH.O
theorem ZO:GH.B:=Bu trivial (by kernel_rfl) (fun x=>by kernel_rfl)
def ZC:DCode:=(.seq [1,0] (.region [oa 0 4 (.mv (.c (.bool false)))]) (.seq [1,0] (.seq [10,1,0] (.region [on 0 6 0,oa 1 7 (.len (.t 6)),on 2 8 1,oa 3 9 (.len (.t 8)),oa 4 10 (.bin .neq (.t 7) (.t 9))]) (.cond (.t 10) (.seq [4] (.region [oa 0 4 (.mv (.c (.bool false)))]) .ret) .skip)) (.seq [] (.seq [5,1,0] (.region [oi 0 5 0]) (.block 0 (.loop [0,1,5] 1 (.seq [5,1,0] (.seq [14,5,1,0] (.region [om 0 11 5,on 1 12 0,oa 2 13 (.len (.t 12)),oa 3 14 (.bin .lss (.t 11) (.t 13))]) (.cond (.t 14) .skip (.exit 0))) (.seq [5,1,0] (.block 1 (.seq [26,5,1,0] (.region [on 0 17 0,om 1 18 5,xA 2 19 (.indexA 3 (.t 17) (.t 18)) (rg 2),xA 3 20 (.loadH (some 3) (.t 19)) (rg 3),on 4 21 1,om 5 22 5,xA 6 23 (.indexA 3 (.t 21) (.t 22)) [4,5],xA 7 24 (.loadH (some 3) (.t 23)) [4,5,6],xF 8 25 GH [(.t 20),(.t 24)] (rg 8),xA 9 26 (.un .not (.t 25)) (rg 9)]) (.cond (.t 26) (.seq [4] (.region [oa 0 4 (.mv (.c (.bool false)))]) .ret) .skip))) (.region [om 0 15 5,oa 1 16 (.bin .add (.t 15) (.c (.int .i64 1))),om 2 5 16])))))) (.seq [4] (.region [oa 0 4 (.mv (.c (.bool true)))]) .ret))))
def Gy:Fn:=⟨⟨2,27,0,true,[.tmp 4],ZC⟩,[.one .frz (.sl FE),.one .frz (.sl FE)],.one (.one .own (.bool))⟩
theorem Zy:Gy.A:=Bp ⟨aj,trivial⟩
def Nw:(List (Int×Int×Int))×(List (Int×Int×Int))→Bool:=Gy.V
def Nt:(List (Int×Int×Int))×(List (Int×Int×Int))→Prop:=Gy.O
theorem ZB:Gy.B:=Bu ⟨ZO,trivial⟩ (by kernel_rfl) (fun x=>by kernel_rfl)
end
section
set_option maxRecDepth 100000
theorem Zf (x):FM x=(bSel (iLt (iSub .i64 x.2 (lLen x.1)) 0) (-1) (iSub .i64 x.2 (lLen x.1))):=(GA.v x).trans (by kernel_rfl)
theorem ZD (x):Np x=True:=(GA.o x).trans (by kernel_rfl)
theorem ZQ (x):FN x=(x.1,x.2.1,x.2.2):=(GD.v x).trans (by kernel_rfl)
theorem ZS (x):Lf x=True:=(GD.o x).trans (by kernel_rfl)
theorem Zv (x):Dq x=(AZ (fun(x0:((List (Int×(Int×Int)))×Int))=>(iLt x0.2 (lLen x))) (fun(x0:((List (Int×(Int×Int)))×Int))=>((lSet x0.1 (iNat x0.2) ((FN ((lGet x (iNat x0.2) (0,0,0)).1,(lGet x (iNat x0.2) (0,0,0)).2.1,(lGet x (iNat x0.2) (0,0,0)).2.2)).1,(FN ((lGet x (iNat x0.2) (0,0,0)).1,(lGet x (iNat x0.2) (0,0,0)).2.1,(lGet x (iNat x0.2) (0,0,0)).2.2)).2.1,(FN ((lGet x (iNat x0.2) (0,0,0)).1,(lGet x (iNat x0.2) (0,0,0)).2.1,(lGet x (iNat x0.2) (0,0,0)).2.2)).2.2)),(iAdd .i64 x0.2 1))) ((lRep (lLen x) (0,0,0)),0)).1:=(D8.v x).trans (by kernel_rfl)
theorem Ze (x):JH x=((((0:Int)≤(lLen x))∧(AP ((Int.toNat (lLen x))*3)))∧(LoopOk (fun(x0:((List (Int×(Int×Int)))×Int))=>(iLt x0.2 (lLen x))) (fun(x0:((List (Int×(Int×Int)))×Int))=>((lSet x0.1 (iNat x0.2) ((FN ((lGet x (iNat x0.2) (0,0,0)).1,(lGet x (iNat x0.2) (0,0,0)).2.1,(lGet x (iNat x0.2) (0,0,0)).2.2)).1,(FN ((lGet x (iNat x0.2) (0,0,0)).1,(lGet x (iNat x0.2) (0,0,0)).2.1,(lGet x (iNat x0.2) (0,0,0)).2.2)).2.1,(FN ((lGet x (iNat x0.2) (0,0,0)).1,(lGet x (iNat x0.2) (0,0,0)).2.1,(lGet x (iNat x0.2) (0,0,0)).2.2)).2.2)),(iAdd .i64 x0.2 1))) (fun(x0:((List (Int×(Int×Int)))×Int))=>(((iLt x0.2 (lLen x))=true→((((0:Int)≤x0.2)∧(x0.2<(((List.length x):Int))))∧(((iNat x0.2)<(List.length x))∧((Lf ((lGet x (iNat x0.2) (0,0,0)).1,(lGet x (iNat x0.2) (0,0,0)).2.1,(lGet x (iNat x0.2) (0,0,0)).2.2))∧((((0:Int)≤x0.2)∧(x0.2<(((List.length x0.1):Int))))∧((iNat x0.2)<(List.length x0.1)))))))∧((iLt x0.2 (lLen x))=false→True))) ((lRep (lLen x) (0,0,0)),0))):=(D8.o x).trans (by kernel_rfl)
theorem Z0 (x):GG x=(bAnd (bNot (iNe x.1.1 x.2.1)) (bAnd (bNot (iNe x.1.2.1 x.2.2.1)) (bNot (iNe x.1.2.2 x.2.2.2)))):=(GH.v x).trans (by kernel_rfl)
theorem aa (x):Lb x=True:=(GH.o x).trans (by kernel_rfl)
theorem Zl (x):Nw x=(bAnd (bNot (iNe (lLen x.1) (lLen x.2))) (bNot (iLt (AZ (fun(x0:Int)=>(bAnd (iLt x0 (lLen x.1)) (bNot (bNot (GG (((lGet x.1 (iNat x0) (0,0,0)).1,(lGet x.1 (iNat x0) (0,0,0)).2.1,(lGet x.1 (iNat x0) (0,0,0)).2.2),(lGet x.2 (iNat x0) (0,0,0)).1,(lGet x.2 (iNat x0) (0,0,0)).2.1,(lGet x.2 (iNat x0) (0,0,0)).2.2)))))) (fun(x0:Int)=>(iAdd .i64 x0 1)) 0) (lLen x.1)))):=(Gy.v x).trans (by kernel_rfl)
theorem Zh (x):Nt x=(((iNe (lLen x.1) (lLen x.2))=true→True)∧((iNe (lLen x.1) (lLen x.2))=false→(LoopOk (fun(x0:Int)=>(bAnd (iLt x0 (lLen x.1)) (bNot (bNot (GG (((lGet x.1 (iNat x0) (0,0,0)).1,(lGet x.1 (iNat x0) (0,0,0)).2.1,(lGet x.1 (iNat x0) (0,0,0)).2.2),(lGet x.2 (iNat x0) (0,0,0)).1,(lGet x.2 (iNat x0) (0,0,0)).2.1,(lGet x.2 (iNat x0) (0,0,0)).2.2)))))) (fun(x0:Int)=>(iAdd .i64 x0 1)) (fun(x0:Int)=>(((iLt x0 (lLen x.1))=true→((((0:Int)≤x0)∧(x0<(((List.length x.1):Int))))∧(((iNat x0)<(List.length x.1))∧((((0:Int)≤x0)∧(x0<(((List.length x.2):Int))))∧(((iNat x0)<(List.length x.2))∧(Lb (((lGet x.1 (iNat x0) (0,0,0)).1,(lGet x.1 (iNat x0) (0,0,0)).2.1,(lGet x.1 (iNat x0) (0,0,0)).2.2),(lGet x.2 (iNat x0) (0,0,0)).1,(lGet x.2 (iNat x0) (0,0,0)).2.1,(lGet x.2 (iNat x0) (0,0,0)).2.2)))))))∧((iLt x0 (lLen x.1))=false→True))) 0))):=(Gy.o x).trans (by kernel_rfl)
attribute [irreducible] FM Np FN Lf Dq JH GG Lb Nw Nt
end
section
set_option maxRecDepth 8000
def aq:DCode:=(.seq [3,0] (.region [oa 0 3 (.boxB 0 3 (.t 1)),oi 1 4 0]) (.seq [] (.seq [5,3,0] (.region [oi 0 5 0]) (.block 0 (.loop [0,3,5] 1 (.seq [5,3,0] (.seq [9,5,3,0] (.region [om 0 6 5,on 1 7 0,oa 2 8 (.len (.t 7)),oa 3 9 (.bin .lss (.t 6) (.t 8))]) (.cond (.t 9) .skip (.exit 0))) (.seq [5,3,0] (.block 1 (.seq [31,5,3,0] (.region [on 0 12 0,om 1 13 5,xA 2 14 (.indexA 5 (.t 12) (.t 13)) (rg 2),xA 3 15 (.fieldA 1 (.t 14)) (rg 3),xA 4 16 (.fieldA 1 (.t 15)) (rg 4),xA 5 17 (.loadH none (.t 16)) (rg 5),oa 6 18 (.fieldA 1 (.t 3)),xA 7 19 (.loadB 0 none (.t 18)) [6],xA 8 20 (.bin .eql (.t 17) (.t 19)) (rg 8),xA 9 21 (.mv (.t 20)) (rg 9),⟨10,some 22,.a true (.mv (.t 0)) none,(some (21,true)),[0,1,2,3,4,5,6,7,8,9]⟩,⟨11,some 23,.a false (.mv (.t 5)) none,(some (21,true)),[0,1,2,3,4,5,6,7,8,9]⟩,⟨12,some 24,.a false (.indexA 5 (.t 22) (.t 23)) none,(some (21,true)),[0,1,2,3,4,5,6,7,8,9,10,11]⟩,⟨13,some 25,.a false (.fieldA 1 (.t 24)) none,(some (21,true)),[0,1,2,3,4,5,6,7,8,9,10,11,12]⟩,⟨14,some 26,.a false (.fieldA 2 (.t 25)) none,(some (21,true)),[0,1,2,3,4,5,6,7,8,9,10,11,12,13]⟩,⟨15,some 27,.a false (.loadH none (.t 26)) none,(some (21,true)),[0,1,2,3,4,5,6,7,8,9,10,11,12,13,14]⟩,⟨16,some 28,.a false (.fieldA 2 (.t 3)) none,(some (21,true)),[0,1,2,3,4,5,6,7,8,9]⟩,⟨17,some 29,.a false (.loadB 0 none (.t 28)) none,(some (21,true)),[0,1,2,3,4,5,6,7,8,9,16]⟩,⟨18,some 30,.a false (.bin .eql (.t 27) (.t 29)) none,(some (21,true)),[0,1,2,3,4,5,6,7,8,9,10,11,12,13,14,15,16,17]⟩,xA 19 31 (.pick (.t 21) (.t 30) (.c (.bool false))) (rg 19)]) (.cond (.t 31) (.seq [4] (.region [om 0 32 5,om 1 4 32]) .ret) .skip))) (.region [om 0 10 5,oa 1 11 (.bin .add (.t 10) (.c (.int .i64 1))),om 2 5 11])))))) (.seq [4] (.region [oi 0 4 (-1)]) .ret)))
def GF:Fn:=⟨⟨2,33,1,true,[.tmp 4],aq⟩,[.one .frz (.sl KT),.agg [(.frz,.int .i64),(.frz,.int .i64),(.frz,.int .i64)]],.one (.one .own (.int .i64))⟩
theorem au:GF.A:=Bp trivial
def DG:(List (Int×Int×Int×Int×Int))×(Int×Int×Int)→Int:=GF.V
def Nz:(List (Int×Int×Int×Int×Int))×(Int×Int×Int)→Prop:=GF.O
theorem ZZ:GF.B:=Bu trivial (by kernel_rfl) (fun x=>by kernel_rfl)
def YQ:DCode:=(.seq [2,1] (.region [oa 0 1 (.boxB 0 3 (.t 0)),oa 1 2 (.allocB 1 [(.int .i64 0),(.int .i64 0),(.int .i64 0),(.int .i64 0)])]) (.seq [2] (.region [oa 0 3 (.fieldA 1 (.t 1)),ob 1 4 (.loadB 0 none (.t 3)),oa 2 5 (.fieldA 2 (.t 1)),ob 3 6 (.loadB 0 none (.t 5)),oa 4 7 (.build [(.int .i64 0),(.int .i64 0),(.int .i64 0),(.int .i64 0)] [(0,1,(.c (.int .i64 2))),(1,1,(.t 4)),(2,1,(.t 6))]),os 5 (.storeB 1 4 (.t 2) (.t 7))]) .ret))
def Dm:Fn:=⟨⟨1,8,2,true,[.cell 2 (some 4)],YQ⟩,[.agg [(.frz,.int .i64),(.frz,.int .i64),(.frz,.int .i64)]],.one (.agg [(.own,.int .i64),(.own,.int .i64),(.own,.int .i64),(.own,.int .i64)])⟩
theorem PO:Dm.A:=Bp trivial
def AR:Int×Int×Int→Int×Int×Int×Int:=Dm.V
def K5:Int×Int×Int→Prop:=Dm.O
theorem PQ:Dm.B:=Bu trivial (by kernel_rfl) (fun x=>by kernel_rfl)
def Yw:DCode:=(.seq [1,0] (.region [oa 0 4 (.mv (.c .nils))]) (.seq [4] (.region [on 1 6 0,om 2 7 1,xA 3 8 (.slice 5 (.t 6) none (some (.t 7))) [1,2],on 5 10 0,om 6 11 1,xA 7 12 (.bin .add (.t 11) (.c (.int .i64 1))) [6],xA 8 13 (.slice 5 (.t 10) (some (.t 12)) none) [5,6,7],⟨0,some 5,.a false (.litSlice 5 0 [] []) (some KT),none,[]⟩,xA 4 9 (.app 5 (.t 5) (.t 8)) (rg 4),xA 9 14 (.app 5 (.t 9) (.t 13)) (rg 9),xA 10 4 (.mv (.t 14)) (rg 10)]) .ret))
def Gu:Fn:=⟨⟨2,15,0,false,[.tmp 4],Yw⟩,[.one .frz (.sl KT),.one .frz (.int .i64)],.one (.one .own (.sl KT))⟩
theorem Yv:Gu.A:=Bp trivial
def FJ:(List (Int×Int×Int×Int×Int))×Int→List (Int×Int×Int×Int×Int):=Gu.V
def Nc:(List (Int×Int×Int×Int×Int))×Int→Prop:=Gu.O
theorem YA:Gu.B:=Bu trivial (by kernel_rfl) (fun x=>by kernel_rfl)
def Zu:DCode:=(.seq [0] (.region [oa 0 2 (.mv (.c (.bool false)))]) (.seq [3,0] (.region [⟨0,some 7,.a false (.litSlice 5 0 [] []) (some KT),none,[]⟩,om 1 3 7]) (.seq [3,0] (.seq [4,3,0] (.region [oi 0 4 0]) (.block 0 (.loop [0,3,4] 1 (.seq [4,3,0] (.seq [11,4,3,0] (.region [om 0 8 4,on 1 9 0,oa 2 10 (.len (.t 9)),oa 3 11 (.bin .lss (.t 8) (.t 10))]) (.cond (.t 11) .skip (.exit 0))) (.seq [4,3,0] (.block 1 (.seq [5,4,3,0] (.region [on 0 14 0,om 1 15 4,oa 2 16 (.indexA 3 (.t 14) (.t 15)),ob 3 17 (.loadH (some 3) (.t 16)),oa 4 5 (.allocB 0 [(.int .i64 0),(.int .i64 0),(.int .i64 0)]),os 5 (.storeB 0 3 (.t 5) (.t 17))]) (.seq [6,5,4,3,0] (.region [on 0 18 3,oa 1 19 (.loadB 0 (some 3) (.t 5)),oF 2 20 GF [(.t 18),(.t 19)],om 3 6 20]) (.seq [6,5,4,3,0] (.seq [38,6,5,4,3,0] (.region [oa 0 21 (.fieldA 0 (.t 5)),oa 1 22 (.loadB 0 none (.t 21)),oF 2 23 BW [(.t 22),(.c (.int .i64 0)),(.c (.int .i64 2))],oa 3 24 (.un .not (.t 23)),om 4 25 24,og 5 26 (.loadB 0 (some 3) (.t 5)) 25 false,⟨6,some 27,.call false Dm.S Dm.P Dm.D [(.t 26)],(some (25,false)),[]⟩,⟨7,some 28,.call false D7.S D7.P D7.D [(.t 27)],(some (25,false)),[]⟩,og 8 29 (.un .not (.t 28)) 25 false,oa 9 30 (.pick (.t 25) (.c (.bool true)) (.t 29)),om 10 31 30,og 11 32 (.fieldA 0 (.t 5)) 31 false,og 12 33 (.loadB 0 none (.t 32)) 31 false,og 13 34 (.bin .eql (.t 33) (.c (.int .i64 2))) 31 false,og 14 35 (.mv (.t 6)) 31 false,og 15 36 (.bin .geq (.t 35) (.c (.int .i64 0))) 31 false,og 16 37 (.eqB true (.t 34) (.t 36)) 31 false,oa 17 38 (.pick (.t 31) (.c (.bool true)) (.t 37))]) (.cond (.t 38) (.seq [2] (.region [oa 0 2 (.mv (.c (.bool false)))]) .ret) .skip)) (.seq [40,6,5,4,3,0] (.region [oa 0 39 (.fieldA 0 (.t 5)),oa 1 40 (.loadB 0 none (.t 39))]) (.block 2 (.seq [41,40,6,5,4,3,0] (.region [oa 0 42 (.bin .eql (.t 40) (.c (.int .i64 1))),om 1 41 42]) (.cond (.t 41) (.region [om 0 43 3,oa 1 44 (.loadB 0 (some 3) (.t 5)),oF 2 45 Dm [(.t 44)],oa 3 46 (.build [(.int .i64 0),(.int .i64 0),(.int .i64 0),(.int .i64 0),(.int .i64 0)] [(1,4,(.t 45))]),⟨4,some 47,.a false (.litSlice 5 1 [(.int .i64 0),(.int .i64 0),(.int .i64 0),(.int .i64 0),(.int .i64 0)] [(0,5,(.t 46))]) (some KT),none,[]⟩,oa 5 48 (.app 5 (.t 43) (.t 47)),om 6 3 48]) (.seq [49,6,4,3,0] (.region [oa 0 50 (.bin .eql (.t 40) (.c (.int .i64 2))),om 1 49 50]) (.cond (.t 49) (.region [on 0 51 3,om 1 52 6,oF 2 53 Gu [(.t 51),(.t 52)],om 3 3 53]) .skip)))))))))) (.region [om 0 12 4,oa 1 13 (.bin .add (.t 12) (.c (.int .i64 1))),om 2 4 13])))))) (.seq [2] (.region [on 0 54 0,oa 1 55 (.len (.t 54)),oa 2 56 (.bin .leq (.t 55) (.c (.int .i64 8))),om 3 57 56,⟨4,some 58,.a true (.mv (.t 3)) none,(some (57,true)),[]⟩,og 5 59 (.len (.t 58)) 57 true,og 6 60 (.bin .eql (.t 59) (.c (.int .i64 0))) 57 true,oa 7 61 (.pick (.t 57) (.t 60) (.c (.bool false))),om 8 2 61]) .ret))))
def E9:Fn:=⟨⟨1,62,1,true,[.tmp 2],Zu⟩,[.one .frz (.sl FE)],.one (.one .own (.bool))⟩
theorem Zn:E9.A:=Bp ⟨au,Ir,PO,To,PO,Yv,trivial⟩
def Hn:List (Int×Int×Int)→Bool:=E9.V
def Nr:List (Int×Int×Int)→Prop:=E9.O
theorem Zj:E9.B:=Bu ⟨ZZ,Iq,PQ,Tn,PQ,YA,trivial⟩ (by kernel_rfl) (fun x=>by kernel_rfl)
def ax:DCode:=(.seq [3,0] (.region [oa 0 3 (.boxB 0 2 (.t 1)),oi 1 4 0]) (.seq [] (.seq [9,8,7,3] (.region [on 0 7 0,oa 1 8 (.len (.t 7)),oi 2 9 0]) (.block 0 (.loop [3,7,8,9] 1 (.seq [10,9,8,7,3] (.region [oa 0 10 (.bin .lss (.t 9) (.t 8))]) (.seq [9,8,7,3] (.cond (.t 10) .skip (.exit 0)) (.seq [9,8,7,3] (.block 1 (.seq [9,8,7,6,5,3] (.region [om 0 11 9,oa 1 12 (.indexA 2 (.t 7) (.t 9)),ob 2 13 (.loadH (some 2) (.t 12)),oa 3 6 (.allocB 1 [(.int .i64 0),(.int .i64 0)]),om 4 5 11,os 5 (.storeB 1 2 (.t 6) (.t 13))]) (.seq [16,9,8,7,5,3] (.region [oa 0 14 (.loadB 1 (some 2) (.t 6)),oa 1 15 (.loadB 0 (some 2) (.t 3)),oa 2 16 (.eqA 2 false (.t 14) (.t 15))]) (.cond (.t 16) (.seq [4] (.region [om 0 17 5,om 1 4 17]) .ret) .skip)))) (.region [oa 0 18 (.bin .add (.t 9) (.c (.int .i64 1))),om 1 9 18]))))))) (.seq [4] (.region [oi 0 4 (-1)]) .ret)))
def GC:Fn:=⟨⟨2,19,2,true,[.tmp 4],ax⟩,[.one .frz (.sl (.cons (.int .i64) (.one (.int .i64)))),.agg [(.frz,.int .i64),(.frz,.int .i64)]],.one (.one .own (.int .i64))⟩
theorem ZY:GC.A:=Bp trivial
def Bq:(List (Int×Int))×(Int×Int)→Int:=GC.V
def Nv:(List (Int×Int))×(Int×Int)→Prop:=GC.O
theorem ZX:GC.B:=Bu trivial (by kernel_rfl) (fun x=>by kernel_rfl)
def Zp:DCode:=(.seq [0] (.region [oa 0 2 (.mv (.c (.bool false)))]) (.seq [0] (.seq [10,0] (.region [on 0 8 0,oa 1 9 (.len (.t 8)),oa 2 10 (.bin .gtr (.t 9) (.c (.int .i64 8)))]) (.cond (.t 10) (.seq [2] (.region [oa 0 2 (.mv (.c (.bool false)))]) .ret) .skip)) (.seq [3,0] (.region [⟨0,some 3,.aw [(0,2)] false (.mv (.c .nils)) none,none,[]⟩]) (.seq [3] (.seq [13,12,11,3] (.region [on 0 11 0,oa 1 12 (.len (.t 11)),oi 2 13 0]) (.block 0 (.loop [3,11,12,13] 1 (.seq [14,13,12,11,3] (.region [oa 0 14 (.bin .lss (.t 13) (.t 12))]) (.seq [13,12,11,3] (.cond (.t 14) .skip (.exit 0)) (.seq [13,12,11,3] (.block 1 (.seq [13,12,11,5,3] (.region [oa 0 15 (.indexA 3 (.t 11) (.t 13)),ob 1 16 (.loadH (some 3) (.t 15)),oa 2 5 (.allocB 0 [(.int .i64 0),(.int .i64 0),(.int .i64 0)]),os 3 (.storeB 0 3 (.t 5) (.t 16))]) (.seq [13,12,11,6,5,3] (.region [oa 0 17 (.fieldA 1 (.t 5)),ob 1 18 (.loadB 0 none (.t 17)),oa 2 19 (.fieldA 2 (.t 5)),ob 3 20 (.loadB 0 none (.t 19)),oa 4 21 (.build [(.int .i64 0),(.int .i64 0)] [(0,1,(.t 18)),(1,1,(.t 20))]),oa 5 6 (.allocB 1 [(.int .i64 0),(.int .i64 0)]),os 6 (.storeB 1 2 (.t 6) (.t 21))]) (.seq [13,12,11,7,6,5,3] (.region [on 0 22 3,oa 1 23 (.loadB 1 (some 2) (.t 6)),oF 2 24 GC [(.t 22),(.t 23)],om 3 7 24]) (.seq [13,12,11,7,6,5,3] (.seq [31,13,12,11,7,6,5,3] (.region [oa 0 25 (.fieldA 1 (.t 5)),ob 1 26 (.loadB 0 none (.t 25)),oa 2 27 (.fieldA 2 (.t 5)),ob 3 28 (.loadB 0 none (.t 27)),oa 4 29 (.build [(.int .i64 0),(.int .i64 0),(.int .i64 0),(.int .i64 0)] [(0,1,(.c (.int .i64 2))),(1,1,(.t 26)),(2,1,(.t 28))]),oF 5 30 E5 [(.t 29)],oa 6 31 (.un .not (.t 30))]) (.cond (.t 31) (.seq [2] (.region [oa 0 2 (.mv (.c (.bool false)))]) .ret) .skip)) (.seq [33,13,12,11,7,6,5,3] (.region [oa 0 32 (.fieldA 0 (.t 5)),oa 1 33 (.loadB 0 none (.t 32))]) (.block 2 (.seq [34,33,13,12,11,7,6,5,3] (.seq [34,33,13,12,11,7,6,5,3] (.region [oa 0 35 (.bin .eql (.t 33) (.c (.int .i64 0))),om 1 34 35]) (.cond (.t 34) .skip (.region [oa 0 36 (.bin .eql (.t 33) (.c (.int .i64 1))),om 1 34 36]))) (.cond (.t 34) (.seq [13,12,11,6,5,3] (.seq [38,13,12,11,6,5,3] (.region [om 0 37 7,oa 1 38 (.bin .geq (.t 37) (.c (.int .i64 0)))]) (.cond (.t 38) (.seq [2] (.region [oa 0 2 (.mv (.c (.bool false)))]) .ret) .skip)) (.seq [41,13,12,11,6,3] (.region [oa 0 39 (.fieldA 0 (.t 5)),oa 1 40 (.loadB 0 none (.t 39)),oa 2 41 (.bin .eql (.t 40) (.c (.int .i64 1)))]) (.cond (.t 41) (.region [om 0 42 3,ob 1 43 (.loadB 1 (some 2) (.t 6)),⟨2,some 44,.a false (.litSlice 2 1 [(.int .i64 0),(.int .i64 0)] [(0,2,(.t 43))]) (some (.cons (.int .i64) (.one (.int .i64)))),none,[]⟩,⟨3,some 45,.aw [(0,2)] false (.app 2 (.t 42) (.t 44)) none,none,[]⟩,⟨4,some 3,.aw [(0,2)] false (.mv (.t 45)) none,none,[]⟩]) .skip))) (.seq [46,13,12,11,7,3] (.region [oa 0 47 (.bin .eql (.t 33) (.c (.int .i64 2))),om 1 46 47]) (.cond (.t 46) (.seq [13,12,11,7,3] (.seq [49,13,12,11,7,3] (.region [om 0 48 7,oa 1 49 (.bin .lss (.t 48) (.c (.int .i64 0)))]) (.cond (.t 49) (.seq [2] (.region [oa 0 2 (.mv (.c (.bool false)))]) .ret) .skip)) (.region [on 0 50 3,om 1 51 7,xA 2 52 (.slice 2 (.t 50) none (some (.t 51))) (rg 2),on 3 53 3,om 4 54 7,xA 5 55 (.bin .add (.t 54) (.c (.int .i64 1))) [4],xA 6 56 (.slice 2 (.t 53) (some (.t 55)) none) [3,4,5],⟨7,some 57,.aw [(0,2)] false (.app 2 (.t 52) (.t 56)) none,none,[0,1,2,3,4,5,6]⟩,⟨8,some 3,.aw [(0,2)] false (.mv (.t 57)) none,none,[0,1,2,3,4,5,6,7]⟩])) (.seq [2] (.region [oa 0 2 (.mv (.c (.bool false)))]) .ret)))))))))))) (.region [oa 0 58 (.bin .add (.t 13) (.c (.int .i64 1))),om 1 13 58]))))))) (.seq [2] (.region [on 0 59 3,oa 1 60 (.len (.t 59)),oa 2 61 (.bin .eql (.t 60) (.c (.int .i64 0))),om 3 2 61]) .ret)))))
def Gz:Fn:=⟨⟨1,62,2,true,[.tmp 2],Zp⟩,[.one .frz (.sl FE)],.one (.one .own (.bool))⟩
theorem Zc:Gz.A:=Bp ⟨ZY,Tq,trivial⟩
def JJ:List (Int×Int×Int)→Bool:=Gz.V
def Nq:List (Int×Int×Int)→Prop:=Gz.O
theorem Zo:Gz.B:=Bu ⟨ZX,Tp,trivial⟩ (by kernel_rfl) (fun x=>by kernel_rfl)
end
section
set_option maxRecDepth 100000
theorem ZL (x):DG x=(bSel (iLt (AZ (fun(x0:Int)=>(bAnd (iLt x0 (lLen x.1)) (bNot (bAnd (iEq (lGet x.1 (iNat x0) (0,0,0,0,0)).2.2.1 x.2.2.1) (iEq (lGet x.1 (iNat x0) (0,0,0,0,0)).2.2.2.1 x.2.2.2))))) (fun(x0:Int)=>(iAdd .i64 x0 1)) 0) (lLen x.1)) (AZ (fun(x0:Int)=>(bAnd (iLt x0 (lLen x.1)) (bNot (bAnd (iEq (lGet x.1 (iNat x0) (0,0,0,0,0)).2.2.1 x.2.2.1) (iEq (lGet x.1 (iNat x0) (0,0,0,0,0)).2.2.2.1 x.2.2.2))))) (fun(x0:Int)=>(iAdd .i64 x0 1)) 0) (-1)):=(GF.v x).trans (by kernel_rfl)
theorem ZT (x):Nz x=(LoopOk (fun(x0:Int)=>(bAnd (iLt x0 (lLen x.1)) (bNot (bAnd (iEq (lGet x.1 (iNat x0) (0,0,0,0,0)).2.2.1 x.2.2.1) (iEq (lGet x.1 (iNat x0) (0,0,0,0,0)).2.2.2.1 x.2.2.2))))) (fun(x0:Int)=>(iAdd .i64 x0 1)) (fun(x0:Int)=>(((iLt x0 (lLen x.1))=true→((((0:Int)≤x0)∧(x0<(((List.length x.1):Int))))∧(((iNat x0)<(List.length x.1))∧(((iEq (lGet x.1 (iNat x0) (0,0,0,0,0)).2.2.1 x.2.2.1)=true→((((0:Int)≤x0)∧(x0<(((List.length x.1):Int))))∧((iNat x0)<(List.length x.1))))∧((iEq (lGet x.1 (iNat x0) (0,0,0,0,0)).2.2.1 x.2.2.1)=false→True)))))∧((iLt x0 (lLen x.1))=false→True))) 0):=(GF.o x).trans (by kernel_rfl)
theorem K6 (x):AR x=(2,x.2.1,x.2.2,0):=(Dm.v x).trans (by kernel_rfl)
theorem Tl (x):K5 x=True:=(Dm.o x).trans (by kernel_rfl)
theorem Tj (x):FJ x=(lApp (lApp [] (lSub x.1 0 (iNat x.2))) (lSub x.1 (iNat (iAdd .i64 x.2 1)) (lN x.1))):=(Gu.v x).trans (by kernel_rfl)
theorem Yx (x):Nc x=((((0:Int)≤x.2)∧((0≤(iNat x.2))∧(((iNat x.2)≤(List.length x.1))∧(0<(List.length x.1)))))∧((((0:Int)≤(iAdd .i64 x.2 1))∧(((iNat (iAdd .i64 x.2 1))≤(lN x.1))∧(((lN x.1)≤(List.length x.1))∧(0<(List.length x.1)))))∧((AP (((List.length ([]:List (Int×(Int×(Int×(Int×Int))))))+(List.length (lSub x.1 0 (iNat x.2))))*5))∧(AP (((List.length (lApp [] (lSub x.1 0 (iNat x.2))))+(List.length (lSub x.1 (iNat (iAdd .i64 x.2 1)) (lN x.1))))*5))))):=(Gu.o x).trans (by kernel_rfl)
theorem TB (x):Hn x=(bAnd (bNot (iLt (AZ (fun(x0:((List (Int×(Int×(Int×(Int×Int)))))×Int))=>(bAnd (iLt x0.2 (lLen x)) (bNot (bOr (bNot (BA ((lGet x (iNat x0.2) (0,0,0)).1,0,2))) (bOr (bNot (D6 ((AR ((lGet x (iNat x0.2) (0,0,0)).1,(lGet x (iNat x0.2) (0,0,0)).2.1,(lGet x (iNat x0.2) (0,0,0)).2.2)).1,(AR ((lGet x (iNat x0.2) (0,0,0)).1,(lGet x (iNat x0.2) (0,0,0)).2.1,(lGet x (iNat x0.2) (0,0,0)).2.2)).2.1,(AR ((lGet x (iNat x0.2) (0,0,0)).1,(lGet x (iNat x0.2) (0,0,0)).2.1,(lGet x (iNat x0.2) (0,0,0)).2.2)).2.2.1,(AR ((lGet x (iNat x0.2) (0,0,0)).1,(lGet x (iNat x0.2) (0,0,0)).2.1,(lGet x (iNat x0.2) (0,0,0)).2.2)).2.2.2))) (bNot (bIff (iEq (lGet x (iNat x0.2) (0,0,0)).1 2) (iGe (DG (x0.1,(lGet x (iNat x0.2) (0,0,0)).1,(lGet x (iNat x0.2) (0,0,0)).2.1,(lGet x (iNat x0.2) (0,0,0)).2.2)) 0)))))))) (fun(x0:((List (Int×(Int×(Int×(Int×Int)))))×Int))=>((bSel (iEq (lGet x (iNat x0.2) (0,0,0)).1 1) (lApp x0.1 [(0,(AR ((lGet x (iNat x0.2) (0,0,0)).1,(lGet x (iNat x0.2) (0,0,0)).2.1,(lGet x (iNat x0.2) (0,0,0)).2.2)).1,(AR ((lGet x (iNat x0.2) (0,0,0)).1,(lGet x (iNat x0.2) (0,0,0)).2.1,(lGet x (iNat x0.2) (0,0,0)).2.2)).2.1,(AR ((lGet x (iNat x0.2) (0,0,0)).1,(lGet x (iNat x0.2) (0,0,0)).2.1,(lGet x (iNat x0.2) (0,0,0)).2.2)).2.2.1,(AR ((lGet x (iNat x0.2) (0,0,0)).1,(lGet x (iNat x0.2) (0,0,0)).2.1,(lGet x (iNat x0.2) (0,0,0)).2.2)).2.2.2)]) (bSel (iEq (lGet x (iNat x0.2) (0,0,0)).1 2) (FJ (x0.1,(DG (x0.1,(lGet x (iNat x0.2) (0,0,0)).1,(lGet x (iNat x0.2) (0,0,0)).2.1,(lGet x (iNat x0.2) (0,0,0)).2.2)))) x0.1)),(iAdd .i64 x0.2 1))) ([],0)).2 (lLen x))) (bAnd (iLe (lLen x) 8) (iEq (lLen (AZ (fun(x0:((List (Int×(Int×(Int×(Int×Int)))))×Int))=>(bAnd (iLt x0.2 (lLen x)) (bNot (bOr (bNot (BA ((lGet x (iNat x0.2) (0,0,0)).1,0,2))) (bOr (bNot (D6 ((AR ((lGet x (iNat x0.2) (0,0,0)).1,(lGet x (iNat x0.2) (0,0,0)).2.1,(lGet x (iNat x0.2) (0,0,0)).2.2)).1,(AR ((lGet x (iNat x0.2) (0,0,0)).1,(lGet x (iNat x0.2) (0,0,0)).2.1,(lGet x (iNat x0.2) (0,0,0)).2.2)).2.1,(AR ((lGet x (iNat x0.2) (0,0,0)).1,(lGet x (iNat x0.2) (0,0,0)).2.1,(lGet x (iNat x0.2) (0,0,0)).2.2)).2.2.1,(AR ((lGet x (iNat x0.2) (0,0,0)).1,(lGet x (iNat x0.2) (0,0,0)).2.1,(lGet x (iNat x0.2) (0,0,0)).2.2)).2.2.2))) (bNot (bIff (iEq (lGet x (iNat x0.2) (0,0,0)).1 2) (iGe (DG (x0.1,(lGet x (iNat x0.2) (0,0,0)).1,(lGet x (iNat x0.2) (0,0,0)).2.1,(lGet x (iNat x0.2) (0,0,0)).2.2)) 0)))))))) (fun(x0:((List (Int×(Int×(Int×(Int×Int)))))×Int))=>((bSel (iEq (lGet x (iNat x0.2) (0,0,0)).1 1) (lApp x0.1 [(0,(AR ((lGet x (iNat x0.2) (0,0,0)).1,(lGet x (iNat x0.2) (0,0,0)).2.1,(lGet x (iNat x0.2) (0,0,0)).2.2)).1,(AR ((lGet x (iNat x0.2) (0,0,0)).1,(lGet x (iNat x0.2) (0,0,0)).2.1,(lGet x (iNat x0.2) (0,0,0)).2.2)).2.1,(AR ((lGet x (iNat x0.2) (0,0,0)).1,(lGet x (iNat x0.2) (0,0,0)).2.1,(lGet x (iNat x0.2) (0,0,0)).2.2)).2.2.1,(AR ((lGet x (iNat x0.2) (0,0,0)).1,(lGet x (iNat x0.2) (0,0,0)).2.1,(lGet x (iNat x0.2) (0,0,0)).2.2)).2.2.2)]) (bSel (iEq (lGet x (iNat x0.2) (0,0,0)).1 2) (FJ (x0.1,(DG (x0.1,(lGet x (iNat x0.2) (0,0,0)).1,(lGet x (iNat x0.2) (0,0,0)).2.1,(lGet x (iNat x0.2) (0,0,0)).2.2)))) x0.1)),(iAdd .i64 x0.2 1))) ([],0)).1) 0))):=(E9.v x).trans (by kernel_rfl)
theorem Za (x):Nr x=(LoopOk (fun(x0:((List (Int×(Int×(Int×(Int×Int)))))×Int))=>(bAnd (iLt x0.2 (lLen x)) (bNot (bOr (bNot (BA ((lGet x (iNat x0.2) (0,0,0)).1,0,2))) (bOr (bNot (D6 ((AR ((lGet x (iNat x0.2) (0,0,0)).1,(lGet x (iNat x0.2) (0,0,0)).2.1,(lGet x (iNat x0.2) (0,0,0)).2.2)).1,(AR ((lGet x (iNat x0.2) (0,0,0)).1,(lGet x (iNat x0.2) (0,0,0)).2.1,(lGet x (iNat x0.2) (0,0,0)).2.2)).2.1,(AR ((lGet x (iNat x0.2) (0,0,0)).1,(lGet x (iNat x0.2) (0,0,0)).2.1,(lGet x (iNat x0.2) (0,0,0)).2.2)).2.2.1,(AR ((lGet x (iNat x0.2) (0,0,0)).1,(lGet x (iNat x0.2) (0,0,0)).2.1,(lGet x (iNat x0.2) (0,0,0)).2.2)).2.2.2))) (bNot (bIff (iEq (lGet x (iNat x0.2) (0,0,0)).1 2) (iGe (DG (x0.1,(lGet x (iNat x0.2) (0,0,0)).1,(lGet x (iNat x0.2) (0,0,0)).2.1,(lGet x (iNat x0.2) (0,0,0)).2.2)) 0)))))))) (fun(x0:((List (Int×(Int×(Int×(Int×Int)))))×Int))=>((bSel (iEq (lGet x (iNat x0.2) (0,0,0)).1 1) (lApp x0.1 [(0,(AR ((lGet x (iNat x0.2) (0,0,0)).1,(lGet x (iNat x0.2) (0,0,0)).2.1,(lGet x (iNat x0.2) (0,0,0)).2.2)).1,(AR ((lGet x (iNat x0.2) (0,0,0)).1,(lGet x (iNat x0.2) (0,0,0)).2.1,(lGet x (iNat x0.2) (0,0,0)).2.2)).2.1,(AR ((lGet x (iNat x0.2) (0,0,0)).1,(lGet x (iNat x0.2) (0,0,0)).2.1,(lGet x (iNat x0.2) (0,0,0)).2.2)).2.2.1,(AR ((lGet x (iNat x0.2) (0,0,0)).1,(lGet x (iNat x0.2) (0,0,0)).2.1,(lGet x (iNat x0.2) (0,0,0)).2.2)).2.2.2)]) (bSel (iEq (lGet x (iNat x0.2) (0,0,0)).1 2) (FJ (x0.1,(DG (x0.1,(lGet x (iNat x0.2) (0,0,0)).1,(lGet x (iNat x0.2) (0,0,0)).2.1,(lGet x (iNat x0.2) (0,0,0)).2.2)))) x0.1)),(iAdd .i64 x0.2 1))) (fun(x0:((List (Int×(Int×(Int×(Int×Int)))))×Int))=>(((iLt x0.2 (lLen x))=true→((((0:Int)≤x0.2)∧(x0.2<(((List.length x):Int))))∧(((iNat x0.2)<(List.length x))∧((Nz (x0.1,(lGet x (iNat x0.2) (0,0,0)).1,(lGet x (iNat x0.2) (0,0,0)).2.1,(lGet x (iNat x0.2) (0,0,0)).2.2))∧(((FO ((lGet x (iNat x0.2) (0,0,0)).1,0,2))∧(((bNot (BA ((lGet x (iNat x0.2) (0,0,0)).1,0,2)))=true→True)∧((bNot (BA ((lGet x (iNat x0.2) (0,0,0)).1,0,2)))=false→((K5 ((lGet x (iNat x0.2) (0,0,0)).1,(lGet x (iNat x0.2) (0,0,0)).2.1,(lGet x (iNat x0.2) (0,0,0)).2.2))∧(JC ((AR ((lGet x (iNat x0.2) (0,0,0)).1,(lGet x (iNat x0.2) (0,0,0)).2.1,(lGet x (iNat x0.2) (0,0,0)).2.2)).1,(AR ((lGet x (iNat x0.2) (0,0,0)).1,(lGet x (iNat x0.2) (0,0,0)).2.1,(lGet x (iNat x0.2) (0,0,0)).2.2)).2.1,(AR ((lGet x (iNat x0.2) (0,0,0)).1,(lGet x (iNat x0.2) (0,0,0)).2.1,(lGet x (iNat x0.2) (0,0,0)).2.2)).2.2.1,(AR ((lGet x (iNat x0.2) (0,0,0)).1,(lGet x (iNat x0.2) (0,0,0)).2.1,(lGet x (iNat x0.2) (0,0,0)).2.2)).2.2.2))))))∧(((bOr (bNot (BA ((lGet x (iNat x0.2) (0,0,0)).1,0,2))) (bOr (bNot (D6 ((AR ((lGet x (iNat x0.2) (0,0,0)).1,(lGet x (iNat x0.2) (0,0,0)).2.1,(lGet x (iNat x0.2) (0,0,0)).2.2)).1,(AR ((lGet x (iNat x0.2) (0,0,0)).1,(lGet x (iNat x0.2) (0,0,0)).2.1,(lGet x (iNat x0.2) (0,0,0)).2.2)).2.1,(AR ((lGet x (iNat x0.2) (0,0,0)).1,(lGet x (iNat x0.2) (0,0,0)).2.1,(lGet x (iNat x0.2) (0,0,0)).2.2)).2.2.1,(AR ((lGet x (iNat x0.2) (0,0,0)).1,(lGet x (iNat x0.2) (0,0,0)).2.1,(lGet x (iNat x0.2) (0,0,0)).2.2)).2.2.2))) (bNot (bIff (iEq (lGet x (iNat x0.2) (0,0,0)).1 2) (iGe (DG (x0.1,(lGet x (iNat x0.2) (0,0,0)).1,(lGet x (iNat x0.2) (0,0,0)).2.1,(lGet x (iNat x0.2) (0,0,0)).2.2)) 0)))))=true→True)∧((bOr (bNot (BA ((lGet x (iNat x0.2) (0,0,0)).1,0,2))) (bOr (bNot (D6 ((AR ((lGet x (iNat x0.2) (0,0,0)).1,(lGet x (iNat x0.2) (0,0,0)).2.1,(lGet x (iNat x0.2) (0,0,0)).2.2)).1,(AR ((lGet x (iNat x0.2) (0,0,0)).1,(lGet x (iNat x0.2) (0,0,0)).2.1,(lGet x (iNat x0.2) (0,0,0)).2.2)).2.1,(AR ((lGet x (iNat x0.2) (0,0,0)).1,(lGet x (iNat x0.2) (0,0,0)).2.1,(lGet x (iNat x0.2) (0,0,0)).2.2)).2.2.1,(AR ((lGet x (iNat x0.2) (0,0,0)).1,(lGet x (iNat x0.2) (0,0,0)).2.1,(lGet x (iNat x0.2) (0,0,0)).2.2)).2.2.2))) (bNot (bIff (iEq (lGet x (iNat x0.2) (0,0,0)).1 2) (iGe (DG (x0.1,(lGet x (iNat x0.2) (0,0,0)).1,(lGet x (iNat x0.2) (0,0,0)).2.1,(lGet x (iNat x0.2) (0,0,0)).2.2)) 0)))))=false→(((iEq (lGet x (iNat x0.2) (0,0,0)).1 1)=true→((K5 ((lGet x (iNat x0.2) (0,0,0)).1,(lGet x (iNat x0.2) (0,0,0)).2.1,(lGet x (iNat x0.2) (0,0,0)).2.2))∧(AP (((List.length x0.1)+(List.length [(0,(AR ((lGet x (iNat x0.2) (0,0,0)).1,(lGet x (iNat x0.2) (0,0,0)).2.1,(lGet x (iNat x0.2) (0,0,0)).2.2)).1,(AR ((lGet x (iNat x0.2) (0,0,0)).1,(lGet x (iNat x0.2) (0,0,0)).2.1,(lGet x (iNat x0.2) (0,0,0)).2.2)).2.1,(AR ((lGet x (iNat x0.2) (0,0,0)).1,(lGet x (iNat x0.2) (0,0,0)).2.1,(lGet x (iNat x0.2) (0,0,0)).2.2)).2.2.1,(AR ((lGet x (iNat x0.2) (0,0,0)).1,(lGet x (iNat x0.2) (0,0,0)).2.1,(lGet x (iNat x0.2) (0,0,0)).2.2)).2.2.2)]))*5))))∧((iEq (lGet x (iNat x0.2) (0,0,0)).1 1)=false→(((iEq (lGet x (iNat x0.2) (0,0,0)).1 2)=true→(Nc (x0.1,(DG (x0.1,(lGet x (iNat x0.2) (0,0,0)).1,(lGet x (iNat x0.2) (0,0,0)).2.1,(lGet x (iNat x0.2) (0,0,0)).2.2)))))∧((iEq (lGet x (iNat x0.2) (0,0,0)).1 2)=false→True)))))))))))∧((iLt x0.2 (lLen x))=false→True))) ([],0)):=(E9.o x).trans (by kernel_rfl)
theorem TL (x):Bq x=(bSel (iLt (AZ (fun(x0:Int)=>(bAnd (iLt x0 (lLen x.1)) (bNot (bAnd (iEq (lGet x.1 (iNat x0) (0,0)).1 x.2.1) (iEq (lGet x.1 (iNat x0) (0,0)).2 x.2.2))))) (fun(x0:Int)=>(iAdd .i64 x0 1)) 0) (lLen x.1)) (AZ (fun(x0:Int)=>(bAnd (iLt x0 (lLen x.1)) (bNot (bAnd (iEq (lGet x.1 (iNat x0) (0,0)).1 x.2.1) (iEq (lGet x.1 (iNat x0) (0,0)).2 x.2.2))))) (fun(x0:Int)=>(iAdd .i64 x0 1)) 0) (-1)):=(GC.v x).trans (by kernel_rfl)
theorem Z3 (x):Nv x=(LoopOk (fun(x0:Int)=>(bAnd (iLt x0 (lLen x.1)) (bNot (bAnd (iEq (lGet x.1 (iNat x0) (0,0)).1 x.2.1) (iEq (lGet x.1 (iNat x0) (0,0)).2 x.2.2))))) (fun(x0:Int)=>(iAdd .i64 x0 1)) (fun(x0:Int)=>(((iLt x0 (lLen x.1))=true→((((0:Int)≤x0)∧(x0<(((List.length x.1):Int))))∧((iNat x0)<(List.length x.1))))∧((iLt x0 (lLen x.1))=false→True))) 0):=(GC.o x).trans (by kernel_rfl)
theorem Y8 (x):JJ x=(bAnd (bNot (iGt (lLen x) 8)) (bAnd (bNot (iLt (AZ (fun(x0:((List (Int×Int))×Int))=>(bAnd (iLt x0.2 (lLen x)) (bAnd (bNot (bNot (EF (2,(lGet x (iNat x0.2) (0,0,0)).2.1,(lGet x (iNat x0.2) (0,0,0)).2.2,0)))) (bSel (bOr (iEq (lGet x (iNat x0.2) (0,0,0)).1 0) (iEq (lGet x (iNat x0.2) (0,0,0)).1 1)) (bNot (iGe (Bq (x0.1,(lGet x (iNat x0.2) (0,0,0)).2.1,(lGet x (iNat x0.2) (0,0,0)).2.2)) 0)) (bAnd (iEq (lGet x (iNat x0.2) (0,0,0)).1 2) (bNot (iLt (Bq (x0.1,(lGet x (iNat x0.2) (0,0,0)).2.1,(lGet x (iNat x0.2) (0,0,0)).2.2)) 0))))))) (fun(x0:((List (Int×Int))×Int))=>((bSel (bOr (iEq (lGet x (iNat x0.2) (0,0,0)).1 0) (iEq (lGet x (iNat x0.2) (0,0,0)).1 1)) (bSel (iEq (lGet x (iNat x0.2) (0,0,0)).1 1) (lApp x0.1 [((lGet x (iNat x0.2) (0,0,0)).2.1,(lGet x (iNat x0.2) (0,0,0)).2.2)]) x0.1) (lApp (lTake x0.1 (lN (lSub x0.1 0 (iNat (Bq (x0.1,(lGet x (iNat x0.2) (0,0,0)).2.1,(lGet x (iNat x0.2) (0,0,0)).2.2)))))) (lSub x0.1 (iNat (iAdd .i64 (Bq (x0.1,(lGet x (iNat x0.2) (0,0,0)).2.1,(lGet x (iNat x0.2) (0,0,0)).2.2)) 1)) (lN x0.1)))),(iAdd .i64 x0.2 1))) ([],0)).2 (lLen x))) (iEq (lLen (AZ (fun(x0:((List (Int×Int))×Int))=>(bAnd (iLt x0.2 (lLen x)) (bAnd (bNot (bNot (EF (2,(lGet x (iNat x0.2) (0,0,0)).2.1,(lGet x (iNat x0.2) (0,0,0)).2.2,0)))) (bSel (bOr (iEq (lGet x (iNat x0.2) (0,0,0)).1 0) (iEq (lGet x (iNat x0.2) (0,0,0)).1 1)) (bNot (iGe (Bq (x0.1,(lGet x (iNat x0.2) (0,0,0)).2.1,(lGet x (iNat x0.2) (0,0,0)).2.2)) 0)) (bAnd (iEq (lGet x (iNat x0.2) (0,0,0)).1 2) (bNot (iLt (Bq (x0.1,(lGet x (iNat x0.2) (0,0,0)).2.1,(lGet x (iNat x0.2) (0,0,0)).2.2)) 0))))))) (fun(x0:((List (Int×Int))×Int))=>((bSel (bOr (iEq (lGet x (iNat x0.2) (0,0,0)).1 0) (iEq (lGet x (iNat x0.2) (0,0,0)).1 1)) (bSel (iEq (lGet x (iNat x0.2) (0,0,0)).1 1) (lApp x0.1 [((lGet x (iNat x0.2) (0,0,0)).2.1,(lGet x (iNat x0.2) (0,0,0)).2.2)]) x0.1) (lApp (lTake x0.1 (lN (lSub x0.1 0 (iNat (Bq (x0.1,(lGet x (iNat x0.2) (0,0,0)).2.1,(lGet x (iNat x0.2) (0,0,0)).2.2)))))) (lSub x0.1 (iNat (iAdd .i64 (Bq (x0.1,(lGet x (iNat x0.2) (0,0,0)).2.1,(lGet x (iNat x0.2) (0,0,0)).2.2)) 1)) (lN x0.1)))),(iAdd .i64 x0.2 1))) ([],0)).1) 0))):=(Gz.v x).trans (by kernel_rfl)
theorem Zw (x):Nq x=(((iGt (lLen x) 8)=true→True)∧((iGt (lLen x) 8)=false→(LoopOk (fun(x0:((List (Int×Int))×Int))=>(bAnd (iLt x0.2 (lLen x)) (bAnd (bNot (bNot (EF (2,(lGet x (iNat x0.2) (0,0,0)).2.1,(lGet x (iNat x0.2) (0,0,0)).2.2,0)))) (bSel (bOr (iEq (lGet x (iNat x0.2) (0,0,0)).1 0) (iEq (lGet x (iNat x0.2) (0,0,0)).1 1)) (bNot (iGe (Bq (x0.1,(lGet x (iNat x0.2) (0,0,0)).2.1,(lGet x (iNat x0.2) (0,0,0)).2.2)) 0)) (bAnd (iEq (lGet x (iNat x0.2) (0,0,0)).1 2) (bNot (iLt (Bq (x0.1,(lGet x (iNat x0.2) (0,0,0)).2.1,(lGet x (iNat x0.2) (0,0,0)).2.2)) 0))))))) (fun(x0:((List (Int×Int))×Int))=>((bSel (bOr (iEq (lGet x (iNat x0.2) (0,0,0)).1 0) (iEq (lGet x (iNat x0.2) (0,0,0)).1 1)) (bSel (iEq (lGet x (iNat x0.2) (0,0,0)).1 1) (lApp x0.1 [((lGet x (iNat x0.2) (0,0,0)).2.1,(lGet x (iNat x0.2) (0,0,0)).2.2)]) x0.1) (lApp (lTake x0.1 (lN (lSub x0.1 0 (iNat (Bq (x0.1,(lGet x (iNat x0.2) (0,0,0)).2.1,(lGet x (iNat x0.2) (0,0,0)).2.2)))))) (lSub x0.1 (iNat (iAdd .i64 (Bq (x0.1,(lGet x (iNat x0.2) (0,0,0)).2.1,(lGet x (iNat x0.2) (0,0,0)).2.2)) 1)) (lN x0.1)))),(iAdd .i64 x0.2 1))) (fun(x0:((List (Int×Int))×Int))=>(((iLt x0.2 (lLen x))=true→((((0:Int)≤x0.2)∧(x0.2<(((List.length x):Int))))∧(((iNat x0.2)<(List.length x))∧((Nv (x0.1,(lGet x (iNat x0.2) (0,0,0)).2.1,(lGet x (iNat x0.2) (0,0,0)).2.2))∧((JD (2,(lGet x (iNat x0.2) (0,0,0)).2.1,(lGet x (iNat x0.2) (0,0,0)).2.2,0))∧(((bNot (EF (2,(lGet x (iNat x0.2) (0,0,0)).2.1,(lGet x (iNat x0.2) (0,0,0)).2.2,0)))=true→True)∧((bNot (EF (2,(lGet x (iNat x0.2) (0,0,0)).2.1,(lGet x (iNat x0.2) (0,0,0)).2.2,0)))=false→(((bOr (iEq (lGet x (iNat x0.2) (0,0,0)).1 0) (iEq (lGet x (iNat x0.2) (0,0,0)).1 1))=true→(((iGe (Bq (x0.1,(lGet x (iNat x0.2) (0,0,0)).2.1,(lGet x (iNat x0.2) (0,0,0)).2.2)) 0)=true→True)∧((iGe (Bq (x0.1,(lGet x (iNat x0.2) (0,0,0)).2.1,(lGet x (iNat x0.2) (0,0,0)).2.2)) 0)=false→(((iEq (lGet x (iNat x0.2) (0,0,0)).1 1)=true→(AP (((List.length x0.1)+(List.length [((lGet x (iNat x0.2) (0,0,0)).2.1,(lGet x (iNat x0.2) (0,0,0)).2.2)]))*2)))∧((iEq (lGet x (iNat x0.2) (0,0,0)).1 1)=false→True)))))∧((bOr (iEq (lGet x (iNat x0.2) (0,0,0)).1 0) (iEq (lGet x (iNat x0.2) (0,0,0)).1 1))=false→(((iEq (lGet x (iNat x0.2) (0,0,0)).1 2)=true→(((iLt (Bq (x0.1,(lGet x (iNat x0.2) (0,0,0)).2.1,(lGet x (iNat x0.2) (0,0,0)).2.2)) 0)=true→True)∧((iLt (Bq (x0.1,(lGet x (iNat x0.2) (0,0,0)).2.1,(lGet x (iNat x0.2) (0,0,0)).2.2)) 0)=false→((((0:Int)≤(Bq (x0.1,(lGet x (iNat x0.2) (0,0,0)).2.1,(lGet x (iNat x0.2) (0,0,0)).2.2)))∧((0≤(iNat (Bq (x0.1,(lGet x (iNat x0.2) (0,0,0)).2.1,(lGet x (iNat x0.2) (0,0,0)).2.2))))∧(((iNat (Bq (x0.1,(lGet x (iNat x0.2) (0,0,0)).2.1,(lGet x (iNat x0.2) (0,0,0)).2.2)))≤(List.length x0.1))∧(0<(List.length x0.1)))))∧((((0:Int)≤(iAdd .i64 (Bq (x0.1,(lGet x (iNat x0.2) (0,0,0)).2.1,(lGet x (iNat x0.2) (0,0,0)).2.2)) 1))∧(((iNat (iAdd .i64 (Bq (x0.1,(lGet x (iNat x0.2) (0,0,0)).2.1,(lGet x (iNat x0.2) (0,0,0)).2.2)) 1))≤(lN x0.1))∧(((lN x0.1)≤(List.length x0.1))∧(0<(List.length x0.1)))))∧((0<(List.length x0.1))∧(((List.length (lSub x0.1 0 (iNat (Bq (x0.1,(lGet x (iNat x0.2) (0,0,0)).2.1,(lGet x (iNat x0.2) (0,0,0)).2.2)))))≤(List.length x0.1))∧(AP (((List.length (lSub x0.1 0 (iNat (Bq (x0.1,(lGet x (iNat x0.2) (0,0,0)).2.1,(lGet x (iNat x0.2) (0,0,0)).2.2)))))+(List.length (lSub x0.1 (iNat (iAdd .i64 (Bq (x0.1,(lGet x (iNat x0.2) (0,0,0)).2.1,(lGet x (iNat x0.2) (0,0,0)).2.2)) 1)) (lN x0.1))))*2)))))))))∧((iEq (lGet x (iNat x0.2) (0,0,0)).1 2)=false→True)))))))))))∧((iLt x0.2 (lLen x))=false→True))) ([],0)))):=(Gz.o x).trans (by kernel_rfl)
attribute [irreducible] DG Nz AR K5 FJ Nc Hn Nr Bq Nv JJ Nq
end
open Go.RowKit
theorem HRel.below{ι:Am}{σ:Ac}{w w':World}(H:HRel ι σ w)(B:Below w.heap.size w w'):HRel ι σ w':=by
 have far:∀ (j:Nat) (b:Blk),σ[j]?=some b→b.k≠.dead→w'.heap[(ι j).b]?=w.heap[(ι j).b]?:=fun j b hj hbk=>B.block _ (H.there j b hj hbk)
 refine⟨fun l blk h hd i v hv=>?_,fun l blk h hk=>?_,H.apart,fun l blk h hd=>GY (H.there l blk h hd) B.size⟩
 · obtain⟨c,x,hx,hr⟩:=H.cells l blk h hd i v hv;exact⟨c,x,by rw[Oz (w:=w) (far l blk h hd)];exact hx,hr⟩
 · obtain⟨g1,g2,arr,e,g3,g4⟩:=H.own l blk h hk;exact⟨g1,g2,arr,e,by rw[far l blk h (by rw[hk];decide)];exact g3,g4⟩
theorem Step.below{ι:Am}{σ:Ac}{w w':World}(B:Below w.heap.size w w'):Step ι σ w ι σ w':=
 { Step.refl ι σ w with frame:=fun b hb _=>B.block b hb,size:=B.size,os:=B.os,output:=B.output,tape:=B.tape }
def BH(xs:List (List UInt8))(sep:List UInt8):List UInt8:=sep.intercalate xs
def Ld:A8:=fun args h Q=>∃ (u:V) (sep:List UInt8) (xs:List (List UInt8)),args=[u,.str sep]∧xs.length≤140737488355328∧(BH xs sep).length≤140737488355328 ∧
 ((xs=[]∧(u= .nils∨∃ l o,u= .slice l o 0))∨∃ (l o:Nat) (b:Blk),u= .slice l o xs.length∧0<xs.length∧h[l]?=some b∧b.k≠.dead∧∀ (k:Nat) x,xs[k]?=some x→b.cs[o+k]?=some (.str x))∧Q (.str (BH xs sep)) h
def gO(P:Program)(g:FuncId):Prop:=
 (∀ (bk o c:Nat) (xs:List ByteArray) (sep:ByteArray) (w:World),(∀ (j:Nat) x,xs[j]?=some x→w.cell? ⟨bk,o+j,none⟩=some (.string x))→bk<w.heap.size→xs.length≤140737488355328→xs.length≤c→(Lib.join (xs.map (·.data.toList)) sep.data.toList).length≤140737488355328 →
  Calls P g #[.slice (some ⟨bk,o,none⟩) xs.length c,.string sep] w fun e w'=>e= .returned (.string ⟨(Lib.join (xs.map (·.data.toList)) sep.data.toList).toArray⟩)∧Below w.heap.size w w') ∧
 ∀ (a:Option Addr) (c:Nat) (sep:ByteArray) (w:World),Calls P g #[.slice a 0 c,.string sep] w fun e w'=>e= .returned (.string ⟨#[]⟩)∧w'=w
theorem dc{P:Program}{g:FuncId}(hs:gO P g):Aq P g Ld:=by
 rintro Φ ι σ w args xs Q hΦ H hargs ⟨u,sep,ss,rfl,hn,hlen,hu,hQ⟩;have hl:=hargs.1
 match xs,hl with
 | [x, y], _=>
   have hy:=FV (hargs.2 1 _ _ rfl rfl (fun _=>0));have hx:=hargs.2 0 _ _ rfl rfl (fun _=>0);subst hy;rcases hu with⟨rfl,hu⟩|⟨l,o,b,rfl,hpos,hb,hk,hc⟩
   · have key:∃ a c,x= .slice a 0 c:=by
      rcases hu with rfl|⟨l,o,rfl⟩
      · obtain⟨a,rfl⟩:=J0 hx;exact⟨a,0,rfl⟩
      · obtain⟨_,_,⟨c,rfl,_⟩|⟨_,a,rfl⟩⟩:=DJ hx
        · exact⟨_,c,rfl⟩
        · exact⟨a,0,rfl⟩
     obtain⟨a,c,rfl⟩:=key;refine(hs.2 a c ⟨sep.toArray⟩ w).mono ?_;rintro e w' ⟨rfl,rfl⟩;exact⟨_,.str (BH [] sep),σ,ι,rfl,hQ,hΦ,fun β=>.str _,H,.refl _ _ _⟩
   · have hl:Φ l=none:=(Rw hx).1 l o _ rfl
     have hb':(kill Φ σ)[l]?=some b:=by rw[Kc hl];exact hb
     obtain⟨b1,g1,hc1⟩:=DJ hx;rw[hb'] at g1;cases g1;rcases hc1 with⟨c,rfl,c1,c2⟩|⟨h0,_⟩
     · have hbs:∀ (s:List UInt8),(ByteArray.mk s.toArray).data.toList=s:=fun s=>by simp
       have e1:(ss.map fun s=>ByteArray.mk s.toArray).map (·.data.toList)=ss:=by
        rw[List.map_map];simp[Function.comp_def]
       have hcall:=hs.1 (ι l).b ((ι l).o+o) c (ss.map fun s=>ByteArray.mk s.toArray) ⟨sep.toArray⟩ w (fun j x hx=>by
        rw[En] at hx
        cases hj:ss[j]? with
        |none=>rw[hj] at hx;cases hx
        | some s=>
          rw[hj] at hx;cases hx;obtain⟨_,z,q1,q2⟩:=H.cells l b hb' hk (o+j) _ (hc j s hj)
          rw[Kq,q1,FV (q2 (fun _=>0))]) (H.there l b hb' hk) (by simpa using hn) (by simpa using c1) (by rw[e1,hbs];exact hlen)
       rw[Az,e1,hbs] at hcall;refine hcall.mono ?_;rintro e w' ⟨rfl,B⟩;exact⟨_,.str (BH ss sep),σ,ι,rfl,hQ,hΦ,fun β=>.str _,H.below B,Step.below B⟩
     · omega
def B7:List UInt8:=[97,32,98,32,99,32,100,32,101,32,102,32,103,32,104,32,105,32,106,32,107,32,108,32,109,32,110,32,111,32,112,32,113,32,114,32,115,32,116,32,117,32,118,32,119,32,120,32,121,32,122,32,49,32,50,32,51,32,52,32,53,32,54,32,55,32,56,32,57,32,48,32,101,110,116,101,114,32,101,115,99,32,98,97,99,107,32,116,97,98,32,115,112,97,99,101,32,109,105,110,117,115,32,101,113,117,97,108,32,108,101,102,116,32,114,105,103,104,116,32,117,112,32,100,111,119,110,32,102,49,32,102,50,32,102,51,32,102,52,32,102,53,32,102,54,32,102,55,32,102,56,32,102,57]
def BO:List (List UInt8):=[[97],[98],[99],[100],[101],[102],[103],[104],[105],[106],[107],[108],[109],[110],[111],[112],[113],[114],[115],[116],[117],[118],[119],[120],[121],[122],[49],[50],[51],[52],[53],[54],[55],[56],[57],[48],[101,110,116,101,114],[101,115,99],[98,97,99,107],[116,97,98],[115,112,97,99,101],[109,105,110,117,115],[101,113,117,97,108],[108,101,102,116],[114,105,103,104,116],[117,112],[100,111,119,110],[102,49],[102,50],[102,51],[102,52],[102,53],[102,54],[102,55],[102,56],[102,57]]
def JG:A8:=fun args h Q=>args=[.str B7,.str [32]]∧Q (.slice h.length 0 56) (h++[⟨.own,1,BO.map .str⟩])
def UL(P:Program)(g:FuncId):Prop:=∀ (w:World),Calls P g #[.string ⟨B7.toArray⟩,.string ⟨#[32]⟩] w fun e w'=>∃ T,e= .returned (.slice (some ⟨w.heap.size,0,none⟩) 56 56)∧w'=w.alloc (.cells (BO.map fun s=>Value.string ⟨s.toArray⟩).toArray T)
theorem bJ{P:Program}{g:FuncId}(hs:UL P g):Aq P g JG:=by
 rintro Φ ι σ w args xs Q hΦ H hargs ⟨rfl,hQ⟩;have hl:=hargs.1
 match xs,hl with
 | [x, y],_=>
   have hx:=FV (hargs.2 0 _ _ rfl rfl (fun _=>0));have hy:=FV (hargs.2 1 _ _ rfl rfl (fun _=>0));subst hx;subst hy;refine(hs w).mono ?_;rintro e w' ⟨T,rfl,rfl⟩
   have hcl:RelCells ι (kill Φ σ) (BO.map .str) (BO.map fun s=>Value.string ⟨s.toArray⟩).toArray.toList:=by
    refine⟨by simp,fun i v hv=>?_⟩;rw[En] at hv
    cases hi:BO[i]? with
    |none=>rw[hi] at hv;cases hv
    | some s=>
      rw[hi] at hv;cases hv;exact⟨rfl,.string ⟨s.toArray⟩,by simp[hi],fun β=>.str s⟩
   have B:BRel ι (kill Φ σ) (fun _=>0) [] w w:=⟨fun i cs h=>by simp at h,fun i cs h=>by simp at h,fun i j cs ds _ h=>by simp at h,fun i cs l blk h=>by simp at h⟩;have S:SRel ι (kill Φ σ) (fun _=>0) [] #[]:=⟨AM _,fun i=>by rw[show get [] i=V.undef from rfl];exact Rel.undef _⟩;obtain⟨g1,_,_,g2⟩:=J8 H B S (BO.map fun s=>Value.string ⟨s.toArray⟩).toArray T 1 (BO.map .str) hcl;rw[← GO hΦ] at g1 g2;refine⟨_,.slice σ.length 0 56,_,_,rfl,hQ,hΦ.push _,fun β=>?_,g1,g2⟩;have hlen:(kill Φ σ).length=σ.length:=Cn Φ σ;rw[GO hΦ];have:=Rel.slice (ι:=upd ι (kill Φ σ).length ⟨w.heap.size,0,(BO.map fun s=>Value.string ⟨s.toArray⟩).toArray.size⟩) (σ:=kill Φ σ++[⟨.own,1,BO.map .str⟩]) (β:=β) σ.length 0 56 56 ⟨.own,1,BO.map .str⟩ (by rw[← hlen];simp) (by decide) (by rw[← hlen,Br];simp[show BO.length=56 from rfl]) (by decide);rw[← hlen,Br] at this;rw[← hlen];simpa using this
def Le:A8:=fun args h Q=>∃ i:Nat,args=[.int .i64 i]∧i<100∧Q (.str (Lib.decDigits i)) h
def gq(P:Program)(g:FuncId):Prop:=∀ (i:Nat) (_:i<100) (w:World),Calls P g #[.int .i64 i] w fun e w'=>e= .returned (.string ⟨(Lib.decDigits i).toArray⟩)∧w'=w
theorem cT{P:Program}{g:FuncId}(hs:gq P g):Aq P g Le:=by
 rintro Φ ι σ w args xs Q hΦ H hargs ⟨i,rfl,hi,hQ⟩;have hl:=hargs.1
 match xs,hl with
 | [x],_=>
   have hx:=CS (hargs.2 0 _ _ rfl rfl (fun _=>0));subst hx;refine(hs i hi w).mono ?_;rintro e w' ⟨rfl,rfl⟩;exact⟨_,.str (Lib.decDigits i),σ,ι,rfl,hQ,hΦ,fun β=>.str _,H,.refl _ _ _⟩
section
set_option maxRecDepth 8000
def pL(hs:List HT)(q:QT)(ok:TuX hs→Prop)(v:TuX hs→q.D):BV:=fun args H Q=>∃ x:TuX hs,DV.encL (Dh hs x)=args∧ok x∧Q (q.dv (v x)).enc H
theorem VH(hs:List HT)(q:QT)(ok:TuX hs→Prop)(v:TuX hs→q.D):HI (pL hs q ok v) (F7 hs q ok v):=by
 intro args g w Q h hg hQ;unfold F7 at h
 cases hx:E1 hs args with
 |none=>rw[hx] at h;cases h
 | some x=>
   rw[hx] at h;simp only[Ai,Ak] at h;obtain⟨rfl,rfl⟩:=h;exact⟨x,MA hx,hg,hQ []⟩
theorem Wa{h h0:Ac}{ω0 ω:Nat→W}{ρ:Nat→Nat}{args:List PV}{us:List V}{H:List (List PV)}(R:RS h0 ω0 ω ρ ⟨args,[],H⟩ ⟨us,[],h⟩ X0)(x:V)(hx:x.flat=true):RS h0 ω0 ω ρ ⟨[],[],H⟩ ⟨[],[],h⟩ (X1 (.fl x) x):=by
 have e:∀ p:List Nat,((PV.fl x).fcell p= .fl .undef)∨((PV.fl x).fcell p= .fl x∧x.fcell p=x):=by
  intro p
  match p with
  |[]=>exact .inl rfl
  |[0]=>right;cases x<;>first|exact⟨rfl,rfl⟩|cases hx
  |[n+1]=>exact .inl rfl
  |_::_::_=>exact .inl (by simp[PV.fcell])
 refine(R.forget).handx ?_ (fun p=>?_) (fun p i pb tp=>?_)
 · cases x<;>first|trivial|(refine⟨fun us h=>?_,fun us h=>?_⟩<;>cases h)|cases hx
 · rcases e p with e|⟨e1,e2⟩
   · rw[e];exact .undef _ _
   · rw[e1,e2];exact .v _ _ hx
 · rcases e p with e|⟨e1,e2⟩
   · rw[e];simp[PV.q]
   · rw[e1];simp[PV.q]
theorem Xc(x:V):(PV.fl x).nob:=by
 intro p hb pb tp
 match p with
 |[]=>simp[PV.fcell,PV.q]
 |[0]=>simp[PV.fcell,PV.q]
 |[n+1]=>simp[PV.fcell,PV.q]
 |_::_::_=>simp[PV.fcell,PV.q]
theorem L3{h0:Ac}{ω0 ω:Nat→W}{ρ:Nat→Nat}{st:PS}{us:St}(R:RS h0 ω0 ω ρ st us X0)(t:Nat){v:PV}(hv:Aa st.sl t=v)(h1:∀ cs,v≠.agg cs)(h2:∀ vs,v≠.tup vs)(h3:v≠.fl .undef):RC us.hp ω (.at (.s t) [0]) v (get us.sl t):=by
 have r:RC us.hp ω (.at (.s t) [0]) ((Aa st.sl t).fcell [0]) ((get us.sl t).fcell [0]):=R.core.rc (.s t) [0];have sh:=R.sh t;rw[hv] at r sh
 have e1:v.fcell [0]=v:=by cases v<;>first|rfl|exact absurd rfl (h1 _)|exact absurd rfl (h2 _)
 have e2:(get us.sl t).fcell [0]=get us.sl t:=by
  have s1:(∀ us',get us.sl t≠.agg us')∧∀ us',get us.sl t≠.tup us':=by
   cases v with
   |agg cs=>exact absurd rfl (h1 _)
   |tup vs=>exact absurd rfl (h2 _)
   |fl x=>cases x<;>first|exact absurd rfl h3|exact sh
   |_=>exact sh
  generalize get us.sl t=u at s1
  cases u<;>first|rfl|exact absurd rfl (s1.1 _)|exact absurd rfl (s1.2 _)
 rw[e1,e2] at r;exact r
def Jf(l:List (List UInt8)):List (List PV):=l.map fun s=>[.fl (.str s)]
theorem cE(l:List (List UInt8)):(Jf l).flatten=l.map fun s=>.fl (.str s):=by
 induction l with
 |nil=>rfl
 |cons n r ih=>simpa [Jf] using ih
theorem dx{l:List (List UInt8)}{k:Nat}(h:k<l.length):Aa (Jf l).flatten k= .fl (.str (l[k])):=by
 rw[cE,CR,En,Av h];rfl
def TM:List HT:=[.one .frz (.sl (.one .str)),.one .frz .str]
def TI:QT:=.one (.one .own .str)
@[irreducible] def JM(x:List (List UInt8)×List UInt8):List UInt8:=(shut fun(x:List (List UInt8)×List UInt8)=>BH x.1 x.2).1 x
@[irreducible] def JF(x:List (List UInt8)×List UInt8):Prop:=(shut fun(x:List (List UInt8)×List UInt8)=>x.1.length≤140737488355328∧(BH x.1 x.2).length≤140737488355328).1 x
theorem Tx (x):JM x=BH x.1 x.2:=by unfold JM;exact congrFun (shut _).2 x
theorem Tw (x):JF x=(x.1.length≤140737488355328∧(BH x.1 x.2).length≤140737488355328):=by unfold JF;exact congrFun (shut _).2 x
def TG:E0:=F7 TM TI JF JM
@[irreducible] def Lc:BV:=pL TM TI JF JM
theorem Zb:HI Lc TG:=by unfold Lc;exact VH _ _ _ _
theorem Zm:G6 Ld Lc:=by
 unfold Lc;rintro h ω0 ρ args us H Q K R hloc ⟨⟨(xs:List (List UInt8)),(sep:List UInt8)⟩,rfl,hok,hQ⟩ hK;have hlen:=R.lsl
 match us,hlen with
 | [u1,u2],_=>
   have c1:RC h ω0 (.at (.s 0) [0]) (.sl .frz (Jf xs)) u1:=L3 (us:=⟨[u1,u2],[],h⟩) R 0 rfl (by simp) (by simp) (by simp);have c2:RC h ω0 (.at (.s 1) [0]) (.fl (.str sep)) u2:=L3 (us:=⟨[u1,u2],[],h⟩) R 1 rfl (by simp) (by simp) (by simp)
   have e2:u2= .str sep:=by cases c2;rfl
   subst e2;have hok:JF (xs,sep):=hok;have hQ:Q (.fl (.str (JM (xs,sep)))) H:=hQ;rw[Tw] at hok;rw[Tx] at hQ;refine⟨u1,sep,xs,rfl,hok.1,hok.2,?_,hK _ _ _ _ _ _ hQ (Wa R _ rfl) (Xc _)⟩;generalize hes:Jf xs=es at c1
   have hxl:es.length=xs.length:=by rw[← hes];simp[Jf]
   cases c1 with
   |nil=>exact .inl ⟨Dy (by rw[← hxl];rfl),.inl rfl⟩
   | sl _ _ _ l o n b hb hk hc hne hn hw hle hr=>
     subst hes;rcases Ku xs.length with h0|h0
     · exact .inl ⟨Dy h0,.inr ⟨l,o,by rw[hn,hxl,h0]⟩⟩
     · refine .inr ⟨l,o,b,by rw[hn,hxl],h0,hb,hk,fun k x hx=>?_⟩
       have hkl:k<xs.length:=by
        rcases A9 k xs.length with h|h
        · exact h
        · rw[A0 h] at hx;cases hx
       have hbw:b.w=1:=by
        obtain⟨y,ys,rfl⟩:=List.exists_cons_of_length_pos h0;have:=hw [.fl (.str y)] (by simp[Jf]);simpa using this.symm
       rw[hxl,hbw,I3] at hle hr;have r:=hr k hkl;rw[dx hkl] at r;rw[Av hkl] at hx;cases hx
       have e:get b.cs (o+k)= .str (xs[k]):=by
        generalize get b.cs (o+k)=z at r
        cases r with
        |v=>rfl
       rw[B3,Av (show o+k<b.cs.length by omega)] at e;rw[Av (show o+k<b.cs.length by omega)];simpa using e
def Y6:DCode:=(.seq [2] (.region [⟨0,some 2,.a false (.litSlice 1 56 (BO.map fun _=>.str []) (BO.zipIdx.map fun x=>(x.2,1,.c (.str x.1)))) (some (.one .str)),none,[]⟩]) .ret)
def D5:DFun:=⟨2,3,0,false,[.tmp 2],Y6⟩
theorem fY(Q:V→Ac→Prop)(h:Ac):Kw D5.er.er [.str B7,.str [32]] h Q→JG [.str B7,.str [32]] h Q:=by
 intro hs;refine⟨rfl,?_⟩
 have e:Kw D5.er.er [.str B7,.str [32]] h Q=(2=2∧Q (.slice h.length 0 56) (h++[⟨.own,1,BO.map .str⟩])):=by kernel_rfl
 exact(e▸hs).2
def E7:List HT:=[.one .frz .str,.one .frz .str]
def E6:QT:=.one (.one .own (.sl (.one .str)))
@[irreducible] def Hm(x:List UInt8×List UInt8):List (List UInt8):=(shut fun x=>FF D5 E7 E6 x).1 x
@[irreducible] def Ij(x:List UInt8×List UInt8):Prop:=(shut fun x=>(x.1=B7∧x.2=[32])∧FC D5 E7 E6 x).1 x
theorem YI (x):Hm x=BO:=by unfold Hm;exact(congrFun (shut _).2 x).trans (by kernel_rfl)
theorem YL (x):Ij x=((x.1=B7∧x.2=[32])∧True):=by unfold Ij;exact(congrFun (shut _).2 x).trans (by kernel_rfl)
def PU:E0:=F7 E7 E6 Ij Hm
@[irreducible] def K8:BV:=fun args H Q=>args=[.fl (.str B7),.fl (.str [32])]∧IK D5.er args H Q
theorem YD:G6 JG K8:=by
 unfold K8;rintro h ω0 ρ args us H Q K R hloc ⟨rfl,hp⟩ hK;have hlen:=R.lsl
 match us,hlen with
 | [u1,u2],_=>
   have c1:RC h ω0 (.at (.s 0) [0]) (.fl (.str B7)) u1:=L3 (us:=⟨[u1,u2],[],h⟩) R 0 rfl (by simp) (by simp) (by simp);have c2:RC h ω0 (.at (.s 1) [0]) (.fl (.str [32])) u2:=L3 (us:=⟨[u1,u2],[],h⟩) R 1 rfl (by simp) (by simp) (by simp)
   have e1:u1= .str B7:=by cases c1;rfl
   have e2:u2= .str [32]:=by cases c2;rfl
   subst e1;subst e2;exact fY K h (UJ (f:=D5.er) trivial h ω0 ρ _ _ H Q K R hloc hp hK)
theorem YE:HI K8 PU:=by
 intro args g w Q h hg hQ;have h0:=h;unfold PU F7 at h
 cases hx:E1 E7 args with
 |none=>rw[hx] at h;cases h
 | some x=>
   rw[hx] at h;simp only[Ai,Ak] at h;obtain⟨rfl,rfl⟩:=h;have hg':Ij x:=hg
   have ho:Ij x=((x.1=B7∧x.2=[32])∧FC D5 E7 E6 x):=by unfold Ij;exact congrFun (shut _).2 x
   have hv:FF D5 E7 E6 x=Hm x:=by unfold Hm;exact(congrFun (shut _).2 x).symm
   rw[ho] at hg';have hd:=U5 (f:=D5) (hs:=E7) (q:=E6) trivial (by kernel_rfl) (fun x=>by kernel_rfl) (ok:=FC D5 E7 E6) (v:=FF D5 E7 E6) (fun _ h=>h) (fun _=>rfl);unfold K8;refine⟨?_,hd args (.p (FC D5 E7 E6 x)) (E6.dv (FF D5 E7 E6 x)) Q (by unfold F7;rw[hx]) hg'.2 fun H=>by rw[hv];exact hQ H⟩;obtain⟨⟨a,b⟩,_⟩:=hg';rw[← MA hx];obtain⟨x1,x2⟩:=x;have a:x1=B7:=a;have b:x2=[32]:=b;subst a;subst b;rfl
def TK:List HT:=[.one .frz (.int .i64)]
def TJ:QT:=.one (.one .own .str)
@[irreducible] def JI(x:Int):List UInt8:=(shut fun(x:Int)=>Lib.decDigits x.toNat).1 x
@[irreducible] def JE(x:Int):Prop:=(shut fun(x:Int)=>0≤x∧x<100).1 x
theorem TC (x):JI x=Lib.decDigits x.toNat:=by unfold JI;exact congrFun (shut _).2 x
theorem Tt (x):JE x=(0≤x∧x<100):=by unfold JE;exact congrFun (shut _).2 x
def TH:E0:=F7 TK TJ JE JI
@[irreducible] def Lg:BV:=pL TK TJ JE JI
theorem Zd:HI Lg TH:=by unfold Lg;exact VH _ _ _ _
theorem ZH:G6 Le Lg:=by
 unfold Lg;rintro h ω0 ρ args us H Q K R hloc ⟨(x:Int),rfl,hok,hQ⟩ hK;have hlen:=R.lsl
 match us,hlen with
 | [u1],_=>
   have c1:RC h ω0 (.at (.s 0) [0]) (.fl (.int .i64 x)) u1:=L3 (us:=⟨[u1],[],h⟩) R 0 rfl (by simp) (by simp) (by simp)
   have e1:u1= .int .i64 x:=by cases c1;rfl
   subst e1;have hok:JE x:=hok;have hQ:Q (.fl (.str (JI x))) H:=hQ;rw[Tt] at hok;rw[TC] at hQ;obtain⟨i,rfl⟩:∃ i:Nat,x=i:=⟨x.toNat,by omega⟩;rw[Cs] at hQ;exact⟨i,rfl,by omega,hK _ _ _ _ _ _ hQ (Wa R _ rfl) (Xc _)⟩
end
section
set_option maxRecDepth 8000
def Yu:DCode:=(.seq [1,0] (.region [oa 0 4 (.mv (.c .nils))]) (.seq [5,1,0] (.region [⟨0,some 8,.a false (.litSlice 1 0 [] []) (some (.one (.str))),none,[]⟩,om 1 5 8]) (.seq [6,5,1,0] (.region [oi 0 6 0]) (.seq [5] (.seq [7,6,5,1,0] (.region [oi 0 7 0]) (.block 0 (.loop [0,1,5,6,7] 1 (.seq [7,6,5,1,0] (.seq [12,7,6,5,1,0] (.region [om 0 9 7,om 1 10 0,oa 2 11 (.lenT (.t 10)),oa 3 12 (.bin .leq (.t 9) (.t 11))]) (.cond (.t 12) .skip (.exit 0))) (.seq [7,6,5,1,0] (.block 1 (.seq [25,7,6,5,1,0] (.region [om 0 15 7,om 1 16 0,oa 2 17 (.lenT (.t 16)),oa 3 18 (.bin .eql (.t 15) (.t 17)),om 4 19 18,og 5 20 (.mv (.t 0)) 19 false,og 6 21 (.mv (.t 7)) 19 false,og 7 22 (.index (.t 20) (.t 21)) 19 false,og 8 23 (.mv (.t 1)) 19 false,og 9 24 (.bin .eql (.t 22) (.t 23)) 19 false,oa 10 25 (.pick (.t 19) (.c (.bool true)) (.t 24))]) (.cond (.t 25) (.seq [7,5,1,0] (.region [om 0 26 5,om 1 27 0,om 2 28 6,om 3 29 7,oa 4 30 (.substr (.t 27) (some (.t 28)) (some (.t 29))),⟨5,some 31,.a false (.litSlice 1 1 [(.str [])] [(0,1,(.t 30))]) (some (.one (.str))),none,[]⟩,oa 6 32 (.app 1 (.t 26) (.t 31)),om 7 5 32]) (.region [om 0 33 7,oa 1 34 (.bin .add (.t 33) (.c (.int .i64 1))),om 2 6 34])) .skip))) (.region [om 0 13 7,oa 1 14 (.bin .add (.t 13) (.c (.int .i64 1))),om 2 7 14])))))) (.seq [4] (.region [om 0 35 5,om 1 4 35]) .ret)))))
def Gt:Fn:=⟨⟨2,36,0,false,[.tmp 4],Yu⟩,[.one .frz (.str),.one .frz (.int .u8)],.one (.one .own (.sl (.one (.str))))⟩
theorem Ys:Gt.A:=Bp trivial
def Nh:List UInt8×Int→List (List UInt8):=Gt.V
def Nb:List UInt8×Int→Prop:=Gt.O
theorem Yo:Gt.B:=Bu trivial (by kernel_rfl) (fun x=>by kernel_rfl)
def ZA:DCode:=(.seq [] (.region [oa 0 0 (.mv (.c .nils))]) (.seq [0] (.region [oF 0 1 Gt [(.c (.str [97,32,98,32,99,32,100,32,101,32,102,32,103,32,104,32,105,32,106,32,107,32,108,32,109,32,110,32,111,32,112,32,113,32,114,32,115,32,116,32,117,32,118,32,119,32,120,32,121,32,122,32,49,32,50,32,51,32,52,32,53,32,54,32,55,32,56,32,57,32,48,32,101,110,116,101,114,32,101,115,99,32,98,97,99,107,32,116,97,98,32,115,112,97,99,101,32,109,105,110,117,115,32,101,113,117,97,108,32,108,101,102,116,32,114,105,103,104,116,32,117,112,32,100,111,119,110,32,102,49,32,102,50,32,102,51,32,102,52,32,102,53,32,102,54,32,102,55,32,102,56,32,102,57])),(.c (.int .u8 32))],om 1 0 1]) .ret))
def Gx:Fn:=⟨⟨0,2,0,false,[.tmp 0],ZA⟩,[],.one (.one .own (.sl (.one (.str))))⟩
theorem ZG:Gx.A:=Bp ⟨Ys,trivial⟩
def JK:Unit→List (List UInt8):=Gx.V
def Nu:Unit→Prop:=Gx.O
theorem Zs:Gx.B:=Bu ⟨Yo,trivial⟩ (by kernel_rfl) (fun x=>by kernel_rfl)
def YV:DCode:=(.seq [0] (.region [oa 0 2 (.mv (.c (.str [])))]) (.seq [0] (.seq [5,0] (.region [om 0 3 0,oF 1 4 BW [(.t 3),(.c (.int .i64 1)),(.c (.int .i64 56))],oa 2 5 (.un .not (.t 4))]) (.cond (.t 5) (.seq [2] (.region [oa 0 2 (.mv (.c (.str [])))]) .ret) .skip)) (.seq [2] (.region [oF 0 6 Gx [],om 1 7 0,oa 2 8 (.bin .sub (.t 7) (.c (.int .i64 1))),oa 3 9 (.indexA 1 (.t 6) (.t 8)),ob 4 10 (.loadH none (.t 9)),om 5 2 10]) .ret)))
def Dl:Fn:=⟨⟨1,11,0,true,[.tmp 2],YV⟩,[.one .frz (.int .i64)],.one (.one .own (.str))⟩
theorem Ng:Dl.A:=Bp ⟨Ir,ZG,trivial⟩
def E8:Int→List UInt8:=Dl.V
def Il:Int→Prop:=Dl.O
theorem Nf:Dl.B:=Bu ⟨Iq,Zs,trivial⟩ (by kernel_rfl) (fun x=>by kernel_rfl)
def Yi:DCode:=(.seq [0] (.region [oa 0 2 (.mv (.c (.str [])))]) (.seq [3,0] (.region [oa 0 3 (.mv (.c (.str [])))]) (.seq [3] (.seq [4,3,0] (.region [oi 0 4 0]) (.block 0 (.loop [0,3,4] 1 (.seq [4,3,0] (.seq [10,4,3,0] (.region [om 0 5 4,oa 1 6 (.bin .lss (.t 5) (.c (.int .i64 4))),om 2 7 6,og 3 8 (.mv (.t 0)) 7 true,⟨4,some 9,.call false BW.S BW.P BW.D [(.t 8),(.c (.int .i64 1)),(.c (.int .i64 15))],(some (7,true)),[]⟩,oa 5 10 (.pick (.t 7) (.t 9) (.c (.bool false)))]) (.cond (.t 10) .skip (.exit 0))) (.seq [4,3,0] (.block 1 (.seq [17,4,3,0] (.region [om 0 13 0,om 1 14 4,oa 2 15 (.bin .shr (.t 13) (.t 14)),oa 3 16 (.bin .and (.t 15) (.c (.int .i64 1))),oa 4 17 (.bin .eql (.t 16) (.c (.int .i64 1)))]) (.cond (.t 17) (.region [om 0 18 3,om 1 19 4,om 2 20 4,oa 3 21 (.bin .add (.t 20) (.c (.int .i64 1))),oa 4 22 (.substr (.c (.str [67,83,65,71])) (some (.t 19)) (some (.t 21))),oa 5 23 (.bin .add (.t 18) (.t 22)),om 6 3 23]) .skip))) (.region [om 0 11 4,oa 1 12 (.bin .add (.t 11) (.c (.int .i64 1))),om 2 4 12])))))) (.seq [2] (.region [om 0 24 3,om 1 2 24]) .ret))))
def D3:Fn:=⟨⟨1,25,0,true,[.tmp 2],Yi⟩,[.one .frz (.int .i64)],.one (.one .own (.str))⟩
theorem PG:D3.A:=Bp ⟨Ir,trivial⟩
def Dk:Int→List UInt8:=D3.V
def Ig:Int→Prop:=D3.O
theorem PJ:D3.B:=Bu ⟨Iq,trivial⟩ (by kernel_rfl) (fun x=>by kernel_rfl)
def Y4:DCode:=(.seq [1,0] (.region [oa 0 4 (.mv (.c (.str [])))]) (.seq [5,1,0] (.region [⟨0,some 7,.a false (.litSlice 1 0 [] []) (some (.one (.int .u8))),none,[]⟩,om 1 5 7]) (.seq [5] (.seq [6,5,1,0] (.region [oi 0 6 0]) (.block 0 (.loop [0,1,5,6] 1 (.seq [6,5,1,0] (.seq [11,6,5,1,0] (.region [om 0 8 6,on 1 9 0,oa 2 10 (.len (.t 9)),oa 3 11 (.bin .lss (.t 8) (.t 10))]) (.cond (.t 11) .skip (.exit 0))) (.seq [6,5,1,0] (.block 1 (.seq [6,5,1,0] (.seq [15,6,5,1,0] (.region [om 0 14 6,oa 1 15 (.bin .gtr (.t 14) (.c (.int .i64 0)))]) (.cond (.t 15) (.region [om 0 16 5,om 1 17 1,oa 2 18 (.app 1 (.t 16) (.t 17)),om 3 5 18]) .skip)) (.region [om 0 19 5,on 1 20 0,om 2 21 6,oa 3 22 (.indexA 1 (.t 20) (.t 21)),oa 4 23 (.loadH none (.t 22)),oa 5 24 (.app 1 (.t 19) (.t 23)),om 6 5 24]))) (.region [om 0 12 6,oa 1 13 (.bin .add (.t 12) (.c (.int .i64 1))),om 2 6 13])))))) (.seq [4] (.region [on 0 25 5,oa 1 26 (.bstr (.t 25)),om 2 4 26]) .ret))))
def Gw:Fn:=⟨⟨2,27,0,true,[.tmp 4],Y4⟩,[.one .frz (.sl (.one (.str))),.one .frz (.str)],.one (.one .own (.str))⟩
theorem YB:Gw.A:=Bp trivial
def K9:List (List UInt8)×List UInt8→List UInt8:=Gw.V
def K4:List (List UInt8)×List UInt8→Prop:=Gw.O
theorem YW:Gw.B:=Bu trivial (by kernel_rfl) (fun x=>by kernel_rfl)
def YP:DCode:=(.seq [0] (.region [oa 0 2 (.mv (.c (.str [])))]) (.seq [0] (.seq [8,0] (.region [om 0 3 0,oa 1 4 (.bin .lss (.t 3) (.c (.int .i64 1))),om 2 5 4,og 3 6 (.mv (.t 0)) 5 false,og 4 7 (.bin .gtr (.t 6) (.c (.int .i64 56))) 5 false,oa 5 8 (.pick (.t 5) (.c (.bool true)) (.t 7))]) (.cond (.t 8) (.seq [2] (.region [oa 0 2 (.mv (.c (.str [])))]) .ret) .skip)) (.seq [2] (.region [oc 0 9 JG K8 PU [(.c (.str [97,32,98,32,99,32,100,32,101,32,102,32,103,32,104,32,105,32,106,32,107,32,108,32,109,32,110,32,111,32,112,32,113,32,114,32,115,32,116,32,117,32,118,32,119,32,120,32,121,32,122,32,49,32,50,32,51,32,52,32,53,32,54,32,55,32,56,32,57,32,48,32,101,110,116,101,114,32,101,115,99,32,98,97,99,107,32,116,97,98,32,115,112,97,99,101,32,109,105,110,117,115,32,101,113,117,97,108,32,108,101,102,116,32,114,105,103,104,116,32,117,112,32,100,111,119,110,32,102,49,32,102,50,32,102,51,32,102,52,32,102,53,32,102,54,32,102,55,32,102,56,32,102,57])),(.c (.str [32]))],om 1 10 0,oa 2 11 (.bin .sub (.t 10) (.c (.int .i64 1))),oa 3 12 (.indexA 1 (.t 9) (.t 11)),ob 4 13 (.loadH none (.t 12)),om 5 2 13]) .ret)))
def Dn:Fn:=⟨⟨1,14,0,true,[.tmp 2],YP⟩,[.one .frz (.int .i64)],.one (.one .own (.str))⟩
theorem Nk:Dn.A:=Bp ⟨YD,trivial⟩
def FL:Int→List UInt8:=Dn.V
def Ik:Int→Prop:=Dn.O
theorem Ni:Dn.B:=Bu ⟨YE,trivial⟩ (by kernel_rfl) (fun x=>by kernel_rfl)
def Yj:DCode:=(.seq [0] (.region [oa 0 2 (.mv (.c (.str [])))]) (.seq [0] (.seq [11,0] (.region [om 0 6 0,oa 1 7 (.bin .lss (.t 6) (.c (.int .i64 1))),om 2 8 7,og 3 9 (.mv (.t 0)) 8 false,og 4 10 (.bin .gtr (.t 9) (.c (.int .i64 15))) 8 false,oa 5 11 (.pick (.t 8) (.c (.bool true)) (.t 10))]) (.cond (.t 11) (.seq [2] (.region [oa 0 2 (.mv (.c (.str [])))]) .ret) .skip)) (.seq [3,0] (.region [oa 0 3 (.mv (.c (.str [])))]) (.seq [3] (.seq [14,13,12,3,0] (.region [⟨0,some 12,.a false (.litSlice 1 4 [(.str []),(.str []),(.str []),(.str [])] [(0,1,(.c (.str [67]))),(1,1,(.c (.str [83]))),(2,1,(.c (.str [65]))),(3,1,(.c (.str [71])))]) (some (.one (.str))),none,[]⟩,oa 1 13 (.len (.t 12)),oi 2 14 0]) (.block 0 (.loop [0,3,12,13,14] 1 (.seq [15,14,13,12,3,0] (.region [oa 0 15 (.bin .lss (.t 14) (.t 13))]) (.seq [14,13,12,3,0] (.cond (.t 15) .skip (.exit 0)) (.seq [14,13,12,3,0] (.block 1 (.seq [14,13,12,5,4,3,0] (.region [om 0 16 14,oa 1 17 (.indexA 1 (.t 12) (.t 14)),oa 2 18 (.loadH none (.t 17)),om 3 4 16,om 4 5 18]) (.seq [22,14,13,12,5,3,0] (.region [om 0 19 0,om 1 20 4,oF 2 21 GK [(.t 19),(.t 20)],oa 3 22 (.bin .eql (.t 21) (.c (.int .i64 1)))]) (.cond (.t 22) (.region [om 0 23 3,om 1 24 5,oa 2 25 (.bin .add (.t 23) (.t 24)),om 3 3 25]) .skip)))) (.region [oa 0 26 (.bin .add (.t 14) (.c (.int .i64 1))),om 1 14 26]))))))) (.seq [2] (.region [om 0 27 3,om 1 2 27]) .ret)))))
def D4:Fn:=⟨⟨1,28,0,true,[.tmp 2],Yj⟩,[.one .frz (.int .i64)],.one (.one .own (.str))⟩
theorem PI:D4.A:=Bp ⟨bA,trivial⟩
def EE:Int→List UInt8:=D4.V
def Ih:Int→Prop:=D4.O
theorem PH:D4.B:=Bu ⟨b6,trivial⟩ (by kernel_rfl) (fun x=>by kernel_rfl)
def YX:DCode:=(.seq [1,0] (.region [oa 0 4 (.mv (.c (.str [])))]) (.seq [4] (.region [on 0 5 0,om 1 6 1,oc 2 7 Ld Lc TG [(.t 5),(.t 6)],om 3 4 7]) .ret))
def Gv:Fn:=⟨⟨2,8,0,true,[.tmp 4],YX⟩,[.one .frz (.sl (.one (.str))),.one .frz (.str)],.one (.one .own (.str))⟩
theorem YM:Gv.A:=Bp ⟨Zm,trivial⟩
def Nn:List (List UInt8)×List UInt8→List UInt8:=Gv.V
def Nd:List (List UInt8)×List UInt8→Prop:=Gv.O
theorem Y0:Gv.B:=Bu ⟨Zb,trivial⟩ (by kernel_rfl) (fun x=>by kernel_rfl)
end
section
set_option maxRecDepth 100000
def KY(x:List UInt8×Int)(x0:((List (List UInt8))×(Int×Int))):Bool:=(iLe x0.2.2 (lLen x.1))
def M6(x:List UInt8×Int)(x0:((List (List UInt8))×(Int×Int))):((List (List UInt8))×(Int×Int)):=((bSel (bOr (iEq x0.2.2 (lLen x.1)) (iEq (sGet x.1 x0.2.2) x.2)) (lApp x0.1 [(lSub x.1 (iNat x0.2.1) (iNat x0.2.2))]) x0.1),(bSel (bOr (iEq x0.2.2 (lLen x.1)) (iEq (sGet x.1 x0.2.2) x.2)) (iAdd .i64 x0.2.2 1) x0.2.1),(iAdd .i64 x0.2.2 1))
def PF(x:List UInt8×Int)(x0:((List (List UInt8))×(Int×Int))):Prop:=(((iLe x0.2.2 (lLen x.1))=true→((((iEq x0.2.2 (lLen x.1))=true→True)∧((iEq x0.2.2 (lLen x.1))=false→(((0:Int)≤x0.2.2)∧(x0.2.2<(((List.length x.1):Int))))))∧(((bOr (iEq x0.2.2 (lLen x.1)) (iEq (sGet x.1 x0.2.2) x.2))=true→(((((0:Int)≤x0.2.1)∧((0:Int)≤x0.2.2))∧(((iNat x0.2.1)≤(iNat x0.2.2))∧((iNat x0.2.2)≤(List.length x.1))))∧(AP (((List.length x0.1)+(List.length [(lSub x.1 (iNat x0.2.1) (iNat x0.2.2))]))*1))))∧((bOr (iEq x0.2.2 (lLen x.1)) (iEq (sGet x.1 x0.2.2) x.2))=false→True))))∧((iLe x0.2.2 (lLen x.1))=false→True))
theorem Yz (x):Nh x=(AZ (KY x) (M6 x) ([],0,0)).1:=(Gt.v x).trans (by kernel_rfl)
theorem Ym (x):Nb x=(LoopOk (KY x) (M6 x) (PF x) ([],0,0)):=(Gt.o x).trans (by kernel_rfl)
theorem ZE (x):JK x=(Nh ([(97:UInt8),32,98,32,99,32,100,32,101,32,102,32,103,32,104,32,105,32,106,32,107,32,108,32,109,32,110,32,111,32,112,32,113,32,114,32,115,32,116,32,117,32,118,32,119,32,120,32,121,32,122,32,49,32,50,32,51,32,52,32,53,32,54,32,55,32,56,32,57,32,48,32,101,110,116,101,114,32,101,115,99,32,98,97,99,107,32,116,97,98,32,115,112,97,99,101,32,109,105,110,117,115,32,101,113,117,97,108,32,108,101,102,116,32,114,105,103,104,116,32,117,112,32,100,111,119,110,32,102,49,32,102,50,32,102,51,32,102,52,32,102,53,32,102,54,32,102,55,32,102,56,32,102,57],32)):=(Gx.v x).trans (by kernel_rfl)
theorem ZF (x):Nu x=(Nb ([(97:UInt8),32,98,32,99,32,100,32,101,32,102,32,103,32,104,32,105,32,106,32,107,32,108,32,109,32,110,32,111,32,112,32,113,32,114,32,115,32,116,32,117,32,118,32,119,32,120,32,121,32,122,32,49,32,50,32,51,32,52,32,53,32,54,32,55,32,56,32,57,32,48,32,101,110,116,101,114,32,101,115,99,32,98,97,99,107,32,116,97,98,32,115,112,97,99,101,32,109,105,110,117,115,32,101,113,117,97,108,32,108,101,102,116,32,114,105,103,104,116,32,117,112,32,100,111,119,110,32,102,49,32,102,50,32,102,51,32,102,52,32,102,53,32,102,54,32,102,55,32,102,56,32,102,57],32)):=(Gx.o x).trans (by kernel_rfl)
theorem YY (x):E8 x=(bSel (bNot (BA (x,1,56))) [] (lGet (JK PUnit.unit) (iNat (iSub .i64 x 1)) [])):=(Dl.v x).trans (by kernel_rfl)
theorem YN (x):Il x=((FO (x,1,56))∧(((bNot (BA (x,1,56)))=true→True)∧((bNot (BA (x,1,56)))=false→((Nu PUnit.unit)∧((((0:Int)≤(iSub .i64 x 1))∧((iSub .i64 x 1)<(((List.length (JK PUnit.unit)):Int))))∧((iNat (iSub .i64 x 1))<(List.length (JK PUnit.unit)))))))):=(Dl.o x).trans (by kernel_rfl)
def Ic(x:Int)(x0:((List UInt8)×Int)):Bool:=(bAnd (iLt x0.2 4) (BA (x,1,15)))
def KW(x:Int)(x0:((List UInt8)×Int)):((List UInt8)×Int):=((bSel (iEq (iAnd .i64 (iShr .i64 x x0.2) 1) 1) (sAdd x0.1 (lSub [(67:UInt8),83,65,71] (iNat x0.2) (iNat (iAdd .i64 x0.2 1)))) x0.1),(iAdd .i64 x0.2 1))
def Jx(x:Int)(x0:((List UInt8)×Int)):Prop:=((((iLt x0.2 4)=true→(FO (x,1,15)))∧((iLt x0.2 4)=false→True))∧(((bAnd (iLt x0.2 4) (BA (x,1,15)))=true→(((0:Int)≤x0.2)∧(((iEq (iAnd .i64 (iShr .i64 x x0.2) 1) 1)=true→(((((0:Int)≤x0.2)∧((0:Int)≤(iAdd .i64 x0.2 1)))∧(((iNat x0.2)≤(iNat (iAdd .i64 x0.2 1)))∧((iNat (iAdd .i64 x0.2 1))≤(List.length [(67:UInt8),83,65,71]))))∧(((List.length x0.1)+(List.length (lSub [(67:UInt8),83,65,71] (iNat x0.2) (iNat (iAdd .i64 x0.2 1)))))≤9223372036854775807)))∧((iEq (iAnd .i64 (iShr .i64 x x0.2) 1) 1)=false→True))))∧((bAnd (iLt x0.2 4) (BA (x,1,15)))=false→True)))
theorem Yk (x):Dk x=(AZ (Ic x) (KW x) ([],0)).1:=(D3.v x).trans (by kernel_rfl)
theorem Yg (x):Ig x=(LoopOk (Ic x) (KW x) (Jx x) ([],0)):=(D3.o x).trans (by kernel_rfl)
def KZ(x:List (List UInt8)×List UInt8)(x0:((List Int)×Int)):Bool:=(iLt x0.2 (lLen x.1))
def M9(x:List (List UInt8)×List UInt8)(x0:((List Int)×Int)):((List Int)×Int):=((lApp (bSel (iGt x0.2 0) (lApp x0.1 (sRow x.2)) x0.1) (sRow (lGet x.1 (iNat x0.2) []))),(iAdd .i64 x0.2 1))
def Na(x:List (List UInt8)×List UInt8)(x0:((List Int)×Int)):Prop:=(((iLt x0.2 (lLen x.1))=true→((((iGt x0.2 0)=true→(AP (((List.length x0.1)+(List.length (sRow x.2)))*1)))∧((iGt x0.2 0)=false→True))∧((((0:Int)≤x0.2)∧(x0.2<(((List.length x.1):Int))))∧(((iNat x0.2)<(List.length x.1))∧(AP (((List.length (bSel (iGt x0.2 0) (lApp x0.1 (sRow x.2)) x0.1))+(List.length (sRow (lGet x.1 (iNat x0.2) []))))*1))))))∧((iLt x0.2 (lLen x.1))=false→True))
theorem YZ (x):K9 x=(rowS (AZ (KZ x) (M9 x) ([],0)).1):=(Gw.v x).trans (by kernel_rfl)
theorem YR (x):K4 x=(LoopOk (KZ x) (M9 x) (Na x) ([],0)):=(Gw.o x).trans (by kernel_rfl)
theorem YT (x):FL x=(bSel (bOr (iLt x 1) (iGt x 56)) [] (lGet (Hm ([(97:UInt8),32,98,32,99,32,100,32,101,32,102,32,103,32,104,32,105,32,106,32,107,32,108,32,109,32,110,32,111,32,112,32,113,32,114,32,115,32,116,32,117,32,118,32,119,32,120,32,121,32,122,32,49,32,50,32,51,32,52,32,53,32,54,32,55,32,56,32,57,32,48,32,101,110,116,101,114,32,101,115,99,32,98,97,99,107,32,116,97,98,32,115,112,97,99,101,32,109,105,110,117,115,32,101,113,117,97,108,32,108,101,102,116,32,114,105,103,104,116,32,117,112,32,100,111,119,110,32,102,49,32,102,50,32,102,51,32,102,52,32,102,53,32,102,54,32,102,55,32,102,56,32,102,57],[(32:UInt8)])) (iNat (iSub .i64 x 1)) [])):=(Dn.v x).trans (by kernel_rfl)
theorem YF (x):Ik x=(((bOr (iLt x 1) (iGt x 56))=true→True)∧((bOr (iLt x 1) (iGt x 56))=false→((Ij ([(97:UInt8),32,98,32,99,32,100,32,101,32,102,32,103,32,104,32,105,32,106,32,107,32,108,32,109,32,110,32,111,32,112,32,113,32,114,32,115,32,116,32,117,32,118,32,119,32,120,32,121,32,122,32,49,32,50,32,51,32,52,32,53,32,54,32,55,32,56,32,57,32,48,32,101,110,116,101,114,32,101,115,99,32,98,97,99,107,32,116,97,98,32,115,112,97,99,101,32,109,105,110,117,115,32,101,113,117,97,108,32,108,101,102,116,32,114,105,103,104,116,32,117,112,32,100,111,119,110,32,102,49,32,102,50,32,102,51,32,102,52,32,102,53,32,102,54,32,102,55,32,102,56,32,102,57],[(32:UInt8)]))∧((((0:Int)≤(iSub .i64 x 1))∧((iSub .i64 x 1)<(((List.length (Hm ([(97:UInt8),32,98,32,99,32,100,32,101,32,102,32,103,32,104,32,105,32,106,32,107,32,108,32,109,32,110,32,111,32,112,32,113,32,114,32,115,32,116,32,117,32,118,32,119,32,120,32,121,32,122,32,49,32,50,32,51,32,52,32,53,32,54,32,55,32,56,32,57,32,48,32,101,110,116,101,114,32,101,115,99,32,98,97,99,107,32,116,97,98,32,115,112,97,99,101,32,109,105,110,117,115,32,101,113,117,97,108,32,108,101,102,116,32,114,105,103,104,116,32,117,112,32,100,111,119,110,32,102,49,32,102,50,32,102,51,32,102,52,32,102,53,32,102,54,32,102,55,32,102,56,32,102,57],[(32:UInt8)]))):Int))))∧((iNat (iSub .i64 x 1))<(List.length (Hm ([(97:UInt8),32,98,32,99,32,100,32,101,32,102,32,103,32,104,32,105,32,106,32,107,32,108,32,109,32,110,32,111,32,112,32,113,32,114,32,115,32,116,32,117,32,118,32,119,32,120,32,121,32,122,32,49,32,50,32,51,32,52,32,53,32,54,32,55,32,56,32,57,32,48,32,101,110,116,101,114,32,101,115,99,32,98,97,99,107,32,116,97,98,32,115,112,97,99,101,32,109,105,110,117,115,32,101,113,117,97,108,32,108,101,102,116,32,114,105,103,104,116,32,117,112,32,100,111,119,110,32,102,49,32,102,50,32,102,51,32,102,52,32,102,53,32,102,54,32,102,55,32,102,56,32,102,57],[(32:UInt8)])))))))):=(Dn.o x).trans (by kernel_rfl)
def KX(x0:((List UInt8)×Int)):Bool:=(iLt x0.2 (lLen [[(67:UInt8)],[(83:UInt8)],[(65:UInt8)],[(71:UInt8)]]))
def M3(x:Int)(x0:((List UInt8)×Int)):((List UInt8)×Int):=((bSel (iEq (Lr (x,x0.2)) 1) (sAdd x0.1 (lGet [[(67:UInt8)],[(83:UInt8)],[(65:UInt8)],[(71:UInt8)]] (iNat x0.2) [])) x0.1),(iAdd .i64 x0.2 1))
def MZ(x:Int)(x0:((List UInt8)×Int)):Prop:=(((iLt x0.2 (lLen [[(67:UInt8)],[(83:UInt8)],[(65:UInt8)],[(71:UInt8)]]))=true→((((0:Int)≤x0.2)∧(x0.2<(((List.length [[(67:UInt8)],[(83:UInt8)],[(65:UInt8)],[(71:UInt8)]]):Int))))∧(((iNat x0.2)<(List.length [[(67:UInt8)],[(83:UInt8)],[(65:UInt8)],[(71:UInt8)]]))∧((Qe (x,x0.2))∧(((iEq (Lr (x,x0.2)) 1)=true→(((List.length x0.1)+(List.length (lGet [[(67:UInt8)],[(83:UInt8)],[(65:UInt8)],[(71:UInt8)]] (iNat x0.2) [])))≤9223372036854775807))∧((iEq (Lr (x,x0.2)) 1)=false→True))))))∧((iLt x0.2 (lLen [[(67:UInt8)],[(83:UInt8)],[(65:UInt8)],[(71:UInt8)]]))=false→True))
theorem Yh (x):EE x=(bSel (bOr (iLt x 1) (iGt x 15)) [] (AZ KX (M3 x) ([],0)).1):=(D4.v x).trans (by kernel_rfl)
theorem Yl (x):Ih x=(((bOr (iLt x 1) (iGt x 15))=true→True)∧((bOr (iLt x 1) (iGt x 15))=false→(LoopOk KX (M3 x) (MZ x) ([],0)))):=(D4.o x).trans (by kernel_rfl)
theorem YU (x):Nn x=(JM x):=(Gv.v x).trans (by kernel_rfl)
theorem YC (x):Nd x=(JF x):=(Gv.o x).trans (by kernel_rfl)
attribute [irreducible] Nh Nb JK Nu E8 Il Dk Ig K9 K4 FL Ik EE Ih Nn Nd
end
section
set_option maxRecDepth 8000
def Yn:DCode:=(.seq [0] (.region [oa 0 2 (.mv (.c (.str [])))]) (.seq [0] (.seq [7,0] (.region [om 0 6 0,oa 1 7 (.bin .eql (.t 6) (.c (.int .i64 0)))]) (.cond (.t 7) (.seq [2] (.region [oa 0 2 (.mv (.c (.str [48])))]) .ret) .skip)) (.seq [3,0] (.region [oa 0 3 (.mv (.c (.str [])))]) (.seq [3,0] (.seq [4,3,0] (.region [om 0 8 0,om 1 4 8]) (.block 0 (.loop [0,3,4] 1 (.seq [4,3,0] (.seq [10,4,3,0] (.region [om 0 9 4,oa 1 10 (.bin .neq (.t 9) (.c (.int .i64 0)))]) (.cond (.t 10) .skip (.exit 0))) (.seq [4,3,0] (.block 1 (.seq [5,4,3,0] (.region [om 0 13 4,oa 1 14 (.bin .rem (.t 13) (.c (.int .i64 10))),om 2 5 14]) (.seq [5,4,3,0] (.seq [16,5,4,3,0] (.region [om 0 15 5,oa 1 16 (.bin .lss (.t 15) (.c (.int .i64 0)))]) (.cond (.t 16) (.region [om 0 17 5,oa 1 18 (.un .neg (.t 17)),om 2 5 18]) .skip)) (.region [om 0 19 5,oa 1 20 (.bin .add (.c (.int .i64 48)) (.t 19)),oa 2 21 (.conv .u8 (.t 20)),⟨3,some 22,.a false (.litSlice 1 1 [(.int .u8 0)] [(0,1,(.t 21))]) (some (.one (.int .u8))),none,[]⟩,oa 4 23 (.bstr (.t 22)),om 5 24 3,oa 6 25 (.bin .add (.t 23) (.t 24)),om 7 3 25])))) (.region [om 0 11 4,oa 1 12 (.bin .quo (.t 11) (.c (.int .i64 10))),om 2 4 12])))))) (.seq [3] (.seq [27,3] (.region [om 0 26 0,oa 1 27 (.bin .lss (.t 26) (.c (.int .i64 0)))]) (.cond (.t 27) (.seq [2] (.region [om 0 28 3,oa 1 29 (.bin .add (.c (.str [45])) (.t 28)),om 2 2 29]) .ret) .skip)) (.seq [2] (.region [om 0 30 3,om 1 2 30]) .ret))))))
def CN:Fn:=⟨⟨1,31,0,true,[.tmp 2],Yn⟩,[.one .frz (.int .i64)],.one (.one .own (.str))⟩
theorem K3:CN.A:=Bp trivial
def CO:Int→List UInt8:=CN.V
def Gs:Int→Prop:=CN.O
theorem K0:CN.B:=Bu trivial (by kernel_rfl) (fun x=>by kernel_rfl)
def XT:DCode:=(.seq [1] (.region [oa 0 1 (.boxB 0 4 (.t 0)),oa 1 2 (.mv (.c (.str [])))]) (.seq [1] (.seq [5,1] (.region [oa 0 3 (.loadB 0 (some 4) (.t 1)),oF 1 4 D7 [(.t 3)],oa 2 5 (.un .not (.t 4))]) (.cond (.t 5) (.seq [2] (.region [oa 0 2 (.mv (.c (.str [])))]) .ret) .skip)) (.seq [1] (.seq [7,1] (.region [oa 0 6 (.fieldA 0 (.t 1)),oa 1 7 (.loadB 0 none (.t 6))]) (.block 0 (.seq [8,7,1] (.region [oa 0 9 (.bin .eql (.t 7) (.c (.int .i64 0))),om 1 8 9]) (.cond (.t 8) (.seq [2] (.region [oa 0 2 (.mv (.c (.str [110,111,110,101])))]) .ret) (.seq [10,7,1] (.region [oa 0 11 (.bin .eql (.t 7) (.c (.int .i64 1))),om 1 10 11]) (.cond (.t 10) (.seq [2] (.region [oa 0 2 (.mv (.c (.str [112,97,115,115])))]) .ret) (.seq [12,7,1] (.region [oa 0 13 (.bin .eql (.t 7) (.c (.int .i64 3))),om 1 12 13]) (.cond (.t 12) (.seq [2] (.region [oa 0 14 (.fieldA 3 (.t 1)),oa 1 15 (.loadB 0 none (.t 14)),oF 2 16 CN [(.t 15)],oa 3 17 (.bin .add (.c (.str [109,111,58])) (.t 16)),om 4 2 17]) .ret) (.seq [18,7,1] (.region [oa 0 19 (.bin .eql (.t 7) (.c (.int .i64 4))),om 1 18 19]) (.cond (.t 18) (.seq [2] (.region [oa 0 20 (.fieldA 3 (.t 1)),oa 1 21 (.loadB 0 none (.t 20)),oF 2 22 CN [(.t 21)],oa 3 23 (.bin .add (.c (.str [116,103,58])) (.t 22)),om 4 2 23]) .ret) (.seq [24,7,1] (.region [oa 0 25 (.bin .eql (.t 7) (.c (.int .i64 5))),om 1 24 25]) (.cond (.t 24) (.seq [2] (.region [oa 0 26 (.fieldA 3 (.t 1)),oa 1 27 (.loadB 0 none (.t 26)),oF 2 28 CN [(.t 27)],oa 3 29 (.bin .add (.c (.str [116,111,58])) (.t 28)),om 4 2 29]) .ret) (.seq [30,7,1] (.region [oa 0 31 (.bin .eql (.t 7) (.c (.int .i64 6))),om 1 30 31]) (.cond (.t 30) (.seq [2] (.region [oa 0 32 (.fieldA 2 (.t 1)),xA 1 33 (.loadB 0 none (.t 32)) (rg 1),oa 4 36 (.fieldA 1 (.t 1)),xA 5 37 (.loadB 0 none (.t 36)) [4],xF 2 34 D3 [(.t 33)] (rg 2),xA 3 35 (.bin .add (.t 34) (.c (.str [47]))) (rg 3),xF 6 38 Dl [(.t 37)] [0,1,2,4,5],xA 7 39 (.bin .add (.t 35) (.t 38)) (rg 7),xA 8 2 (.mv (.t 39)) (rg 8)]) .ret) (.seq [40,7,1] (.region [oa 0 41 (.bin .eql (.t 7) (.c (.int .i64 7))),om 1 40 41]) (.cond (.t 40) (.seq [2] (.region [oa 0 42 (.fieldA 3 (.t 1)),xA 1 43 (.loadB 0 none (.t 42)) (rg 1),oa 4 46 (.fieldA 1 (.t 1)),xA 5 47 (.loadB 0 none (.t 46)) [4],xF 2 44 CN [(.t 43)] (rg 2),xA 3 45 (.bin .add (.t 44) (.c (.str [47]))) (rg 3),xF 6 48 Dl [(.t 47)] [0,1,2,4,5],xA 7 49 (.bin .add (.t 45) (.t 48)) (rg 7),xA 8 2 (.mv (.t 49)) (rg 8)]) .ret) (.seq [50,7,1] (.region [oa 0 51 (.bin .eql (.t 7) (.c (.int .i64 8))),om 1 50 51]) (.cond (.t 50) (.seq [2] (.region [oa 0 52 (.fieldA 2 (.t 1)),oa 1 53 (.loadB 0 none (.t 52)),oF 2 54 D3 [(.t 53)],oa 3 55 (.bin .add (.c (.str [111,110,99,101,58])) (.t 54)),om 4 2 55]) .ret) (.seq [56,7,1] (.region [oa 0 57 (.bin .eql (.t 7) (.c (.int .i64 9))),om 1 56 57]) (.cond (.t 56) (.seq [2] (.region [oa 0 58 (.fieldA 3 (.t 1)),oa 1 59 (.loadB 0 none (.t 58)),oF 2 60 CN [(.t 59)],oa 3 61 (.bin .add (.c (.str [109,97,99,114,111,58])) (.t 60)),om 4 2 61]) .ret) (.seq [62,1] (.region [oa 0 63 (.bin .eql (.t 7) (.c (.int .i64 10))),om 1 62 63]) (.cond (.t 62) (.seq [2] (.region [oa 0 2 (.mv (.c (.str [99,97,112,115])))]) .ret) .skip)))))))))))))))))))))) (.seq [1] (.seq [66,1] (.region [oa 0 64 (.fieldA 2 (.t 1)),oa 1 65 (.loadB 0 none (.t 64)),oa 2 66 (.bin .eql (.t 65) (.c (.int .i64 0)))]) (.cond (.t 66) (.seq [2] (.region [oa 0 67 (.fieldA 1 (.t 1)),oa 1 68 (.loadB 0 none (.t 67)),oF 2 69 Dl [(.t 68)],om 3 2 69]) .ret) .skip)) (.seq [2] (.region [oa 0 70 (.fieldA 2 (.t 1)),xA 1 71 (.loadB 0 none (.t 70)) (rg 1),oa 4 74 (.fieldA 1 (.t 1)),xA 5 75 (.loadB 0 none (.t 74)) [4],xF 2 72 D3 [(.t 71)] (rg 2),xA 3 73 (.bin .add (.t 72) (.c (.str [45]))) (rg 3),xF 6 76 Dl [(.t 75)] [0,1,2,4,5],xA 7 77 (.bin .add (.t 73) (.t 76)) (rg 7),xA 8 2 (.mv (.t 77)) (rg 8)]) .ret)))))
def Gn:Fn:=⟨⟨1,78,1,true,[.tmp 2],XT⟩,[.agg [(.frz,.int .i64),(.frz,.int .i64),(.frz,.int .i64),(.frz,.int .i64)]],.one (.one .own (.str))⟩
theorem XX:Gn.A:=Bp ⟨To,K3,K3,K3,PG,Ng,K3,Ng,PG,K3,Ng,PG,Ng,trivial⟩
def Hl:Int×Int×Int×Int→List UInt8:=Gn.V
def M1:Int×Int×Int×Int→Prop:=Gn.O
theorem XQ:Gn.B:=Bu ⟨Tn,K0,K0,K0,PJ,Nf,K0,Nf,PJ,K0,Nf,PJ,Nf,trivial⟩ (by kernel_rfl) (fun x=>by kernel_rfl)
def X5:DCode:=(.seq [0] (.region [oa 0 2 (.mv (.c (.str [])))]) (.seq [3,0] (.region [⟨0,some 5,.a false (.litSlice 1 0 [] []) (some (.one (.str))),none,[]⟩,om 1 3 5]) (.seq [3] (.seq [4,3,0] (.region [oi 0 4 0]) (.block 0 (.loop [0,3,4] 1 (.seq [4,3,0] (.seq [13,4,3,0] (.region [om 0 6 4,on 1 7 0,oa 2 8 (.len (.t 7)),oa 3 9 (.bin .lss (.t 6) (.t 8)),om 4 10 9,⟨5,some 11,.a true (.mv (.t 0)) none,(some (10,true)),[]⟩,⟨6,some 12,.call false E9.S E9.P E9.D [(.t 11)],(some (10,true)),[]⟩,oa 7 13 (.pick (.t 10) (.t 12) (.c (.bool false)))]) (.cond (.t 13) .skip (.exit 0))) (.seq [4,3,0] (.block 1 (.region [om 0 16 3,on 1 17 0,om 2 18 4,xA 3 19 (.indexA 3 (.t 17) (.t 18)) [1,2],xA 4 20 (.fieldA 0 (.t 19)) [1,2,3],xA 5 21 (.loadH none (.t 20)) [1,2,3,4],on 6 22 0,om 7 23 4,xA 8 24 (.indexA 3 (.t 22) (.t 23)) [6,7],xA 9 25 (.fieldA 0 (.t 24)) [6,7,8],xA 10 26 (.loadH none (.t 25)) [6,7,8,9],xA 11 27 (.bin .add (.t 26) (.c (.int .i64 1))) [6,7,8,9,10],xA 12 28 (.substr (.c (.str [116,100,117])) (some (.t 21)) (some (.t 27))) [1,2,3,4,5,6,7,8,9,10,11],xA 13 29 (.bin .add (.t 28) (.c (.str [61]))) [1,2,3,4,5,6,7,8,9,10,11,12],on 14 30 0,om 15 31 4,xA 16 32 (.indexA 3 (.t 30) (.t 31)) [14,15],xA 17 33 (.loadH (some 3) (.t 32)) [14,15,16],xF 18 34 Dm [(.t 33)] [14,15,16,17],xF 19 35 Gn [(.t 34)] [14,15,16,17,18],xA 20 36 (.bin .add (.t 29) (.t 35)) [1,2,3,4,5,6,7,8,9,10,11,12,13,14,15,16,17,18,19],⟨21,some 37,.a false (.litSlice 1 1 [(.str [])] [(0,1,(.t 36))]) (some (.one (.str))),none,[1,2,3,4,5,6,7,8,9,10,11,12,13,14,15,16,17,18,19,20]⟩,xA 22 38 (.app 1 (.t 16) (.t 37)) (rg 22),xA 23 3 (.mv (.t 38)) (rg 23)])) (.region [om 0 14 4,oa 1 15 (.bin .add (.t 14) (.c (.int .i64 1))),om 2 4 15])))))) (.seq [2] (.region [on 0 39 3,oF 1 40 Gw [(.t 39),(.c (.str [32]))],om 2 2 40]) .ret))))
def Gq:Fn:=⟨⟨1,41,0,true,[.tmp 2],X5⟩,[.one .frz (.sl FE)],.one (.one .own (.str))⟩
theorem Yb:Gq.A:=Bp ⟨Zn,PO,XX,YB,trivial⟩
def JA:List (Int×Int×Int)→List UInt8:=Gq.V
def M7:List (Int×Int×Int)→Prop:=Gq.O
theorem XZ:Gq.B:=Bu ⟨Zj,PQ,XQ,YW,trivial⟩ (by kernel_rfl) (fun x=>by kernel_rfl)
def Yt:DCode:=(.seq [0] (.region [oa 0 2 (.mv (.c (.str [])))]) (.seq [2] (.region [om 0 3 0,oc 1 4 Le Lg TH [(.t 3)],om 2 2 4]) .ret))
def E4:Fn:=⟨⟨1,5,0,true,[.tmp 2],Yt⟩,[.one .frz (.int .i64)],.one (.one .own (.str))⟩
theorem Ti:E4.A:=Bp ⟨ZH,trivial⟩
def FK:Int→List UInt8:=E4.V
def Ii:Int→Prop:=E4.O
theorem Th:E4.B:=Bu ⟨Zd,trivial⟩ (by kernel_rfl) (fun x=>by kernel_rfl)
def Z2:DCode:=(.seq [0] (.region [oa 0 2 (.mv (.c (.str [])))]) (.seq [] (.seq [3] (.region [om 0 3 0]) (.block 0 (.seq [4,3] (.region [oa 0 5 (.bin .eql (.t 3) (.c (.int .i64 3))),om 1 4 5]) (.cond (.t 4) (.seq [2] (.region [oa 0 2 (.mv (.c (.str [109,111,58])))]) .ret) (.seq [6,3] (.region [oa 0 7 (.bin .eql (.t 3) (.c (.int .i64 4))),om 1 6 7]) (.cond (.t 6) (.seq [2] (.region [oa 0 2 (.mv (.c (.str [116,103,58])))]) .ret) (.seq [8,3] (.region [oa 0 9 (.bin .eql (.t 3) (.c (.int .i64 5))),om 1 8 9]) (.cond (.t 8) (.seq [2] (.region [oa 0 2 (.mv (.c (.str [116,111,58])))]) .ret) (.seq [10] (.region [oa 0 11 (.bin .eql (.t 3) (.c (.int .i64 9))),om 1 10 11]) (.cond (.t 10) (.seq [2] (.region [oa 0 2 (.mv (.c (.str [109,97,99,114,111,58])))]) .ret) .skip)))))))))) (.seq [2] (.region [oa 0 2 (.mv (.c (.str [])))]) .ret)))
def GB:Fn:=⟨⟨1,12,0,true,[.tmp 2],Z2⟩,[.one .frz (.int .i64)],.one (.one .own (.str))⟩
theorem Z8:GB.A:=Bp trivial
def NB:Int→List UInt8:=GB.V
def P1:Int→Prop:=GB.O
theorem Z7:GB.B:=Bu trivial (by kernel_rfl) (fun x=>by kernel_rfl)
def XS:DCode:=(.seq [1] (.region [oa 0 1 (.boxB 0 4 (.t 0)),oa 1 2 (.mv (.c (.str [])))]) (.seq [1] (.seq [5,1] (.region [oa 0 3 (.loadB 0 (some 4) (.t 1)),oF 1 4 E5 [(.t 3)],oa 2 5 (.un .not (.t 4))]) (.cond (.t 5) (.seq [2] (.region [oa 0 2 (.mv (.c (.str [])))]) .ret) .skip)) (.seq [1] (.seq [7,1] (.region [oa 0 6 (.fieldA 0 (.t 1)),oa 1 7 (.loadB 0 none (.t 6))]) (.block 0 (.seq [8,7,1] (.region [oa 0 9 (.bin .eql (.t 7) (.c (.int .i64 0))),om 1 8 9]) (.cond (.t 8) (.seq [2] (.region [oa 0 2 (.mv (.c (.str [110,111,110,101])))]) .ret) (.seq [10,7,1] (.region [oa 0 11 (.bin .eql (.t 7) (.c (.int .i64 1))),om 1 10 11]) (.cond (.t 10) (.seq [2] (.region [oa 0 2 (.mv (.c (.str [112,97,115,115])))]) .ret) (.seq [12,7,1] (.region [oa 0 13 (.bin .eql (.t 7) (.c (.int .i64 10))),om 1 12 13]) (.cond (.t 12) (.seq [2] (.region [oa 0 2 (.mv (.c (.str [99,97,112,115])))]) .ret) (.seq [14,7,1] (.region [oa 0 15 (.bin .eql (.t 7) (.c (.int .i64 2))),om 1 14 15]) (.cond (.t 14) (.seq [1] (.seq [18,1] (.region [oa 0 16 (.fieldA 2 (.t 1)),oa 1 17 (.loadB 0 none (.t 16)),oa 2 18 (.bin .neq (.t 17) (.c (.int .i64 0)))]) (.cond (.t 18) (.seq [2] (.region [oa 0 19 (.fieldA 2 (.t 1)),xA 1 20 (.loadB 0 none (.t 19)) (rg 1),oa 4 23 (.fieldA 1 (.t 1)),xA 5 24 (.loadB 0 none (.t 23)) [4],xF 2 21 D4 [(.t 20)] (rg 2),xA 3 22 (.bin .add (.t 21) (.c (.str [45]))) (rg 3),xF 6 25 Dn [(.t 24)] [0,1,2,4,5],xA 7 26 (.bin .add (.t 22) (.t 25)) (rg 7),xA 8 2 (.mv (.t 26)) (rg 8)]) .ret) .skip)) (.seq [2] (.region [oa 0 27 (.fieldA 1 (.t 1)),oa 1 28 (.loadB 0 none (.t 27)),oF 2 29 Dn [(.t 28)],om 3 2 29]) .ret)) (.seq [30,7,1] (.region [oa 0 31 (.bin .eql (.t 7) (.c (.int .i64 6))),om 1 30 31]) (.cond (.t 30) (.seq [2] (.region [oa 0 32 (.fieldA 2 (.t 1)),xA 1 33 (.loadB 0 none (.t 32)) (rg 1),oa 4 36 (.fieldA 1 (.t 1)),xA 5 37 (.loadB 0 none (.t 36)) [4],xF 2 34 D4 [(.t 33)] (rg 2),xA 3 35 (.bin .add (.t 34) (.c (.str [47]))) (rg 3),xF 6 38 Dn [(.t 37)] [0,1,2,4,5],xA 7 39 (.bin .add (.t 35) (.t 38)) (rg 7),xA 8 2 (.mv (.t 39)) (rg 8)]) .ret) (.seq [40,7,1] (.region [oa 0 41 (.bin .eql (.t 7) (.c (.int .i64 7))),om 1 40 41]) (.cond (.t 40) (.seq [2] (.region [oa 0 42 (.fieldA 3 (.t 1)),xA 1 43 (.loadB 0 none (.t 42)) (rg 1),oa 4 46 (.fieldA 1 (.t 1)),xA 5 47 (.loadB 0 none (.t 46)) [4],xF 2 44 E4 [(.t 43)] (rg 2),xA 3 45 (.bin .add (.t 44) (.c (.str [47]))) (rg 3),xF 6 48 Dn [(.t 47)] [0,1,2,4,5],xA 7 49 (.bin .add (.t 45) (.t 48)) (rg 7),xA 8 2 (.mv (.t 49)) (rg 8)]) .ret) (.seq [50,1] (.region [oa 0 51 (.bin .eql (.t 7) (.c (.int .i64 8))),om 1 50 51]) (.cond (.t 50) (.seq [2] (.region [oa 0 52 (.fieldA 2 (.t 1)),oa 1 53 (.loadB 0 none (.t 52)),oF 2 54 D4 [(.t 53)],oa 3 55 (.bin .add (.c (.str [111,110,99,101,58])) (.t 54)),om 4 2 55]) .ret) .skip)))))))))))))))) (.seq [2] (.region [oa 0 56 (.fieldA 0 (.t 1)),xA 1 57 (.loadB 0 none (.t 56)) (rg 1),oa 3 59 (.fieldA 3 (.t 1)),xA 4 60 (.loadB 0 none (.t 59)) [3],xF 2 58 GB [(.t 57)] (rg 2),xF 5 61 E4 [(.t 60)] (rg 5),xA 6 62 (.bin .add (.t 58) (.t 61)) (rg 6),xA 7 2 (.mv (.t 62)) (rg 7)]) .ret))))
def Gp:Fn:=⟨⟨1,63,1,true,[.tmp 2],XS⟩,[.agg [(.frz,.int .i64),(.frz,.int .i64),(.frz,.int .i64),(.frz,.int .i64)]],.one (.one .own (.str))⟩
theorem XY:Gp.A:=Bp ⟨Tq,PI,Nk,Nk,PI,Nk,Ti,Nk,PI,Z8,Ti,trivial⟩
def Jy:Int×Int×Int×Int→List UInt8:=Gp.V
def M4:Int×Int×Int×Int→Prop:=Gp.O
theorem XR:Gp.B:=Bu ⟨Tp,PH,Ni,Ni,PH,Ni,Th,Ni,PH,Z7,Th,trivial⟩ (by kernel_rfl) (fun x=>by kernel_rfl)
def X3:DCode:=(.seq [0] (.region [oa 0 2 (.mv (.c (.str [])))]) (.seq [0] (.seq [8,0] (.region [on 0 6 0,oF 1 7 Gz [(.t 6)],oa 2 8 (.un .not (.t 7))]) (.cond (.t 8) (.seq [2] (.region [oa 0 2 (.mv (.c (.str [])))]) .ret) .skip)) (.seq [3,0] (.region [oa 0 3 (.mv (.c .nils))]) (.seq [3] (.seq [11,10,9,3] (.region [on 0 9 0,oa 1 10 (.len (.t 9)),oi 2 11 0]) (.block 0 (.loop [3,9,10,11] 1 (.seq [12,11,10,9,3] (.region [oa 0 12 (.bin .lss (.t 11) (.t 10))]) (.seq [11,10,9,3] (.cond (.t 12) .skip (.exit 0)) (.seq [11,10,9,3] (.block 1 (.seq [11,10,9,5,3] (.region [oa 0 13 (.indexA 3 (.t 9) (.t 11)),ob 1 14 (.loadH (some 3) (.t 13)),oa 2 5 (.allocB 0 [(.int .i64 0),(.int .i64 0),(.int .i64 0)]),os 3 (.storeB 0 3 (.t 5) (.t 14))]) (.region [om 0 15 3,oa 1 16 (.fieldA 0 (.t 5)),xA 2 17 (.loadB 0 none (.t 16)) [1],oa 3 18 (.fieldA 0 (.t 5)),xA 4 19 (.loadB 0 none (.t 18)) [3],xA 5 20 (.bin .add (.t 19) (.c (.int .i64 1))) [3,4],xA 6 21 (.substr (.c (.str [116,100,117])) (some (.t 17)) (some (.t 20))) [1,2,3,4,5],xA 7 22 (.bin .add (.t 21) (.c (.str [61]))) [1,2,3,4,5,6],oa 8 23 (.fieldA 1 (.t 5)),xB 9 24 (.loadB 0 none (.t 23)) [8],oa 10 25 (.fieldA 2 (.t 5)),xB 11 26 (.loadB 0 none (.t 25)) [10],xA 12 27 (.build [(.int .i64 0),(.int .i64 0),(.int .i64 0),(.int .i64 0)] [(0,1,(.c (.int .i64 2))),(1,1,(.t 24)),(2,1,(.t 26))]) [8,9,10,11],xF 13 28 Gp [(.t 27)] [8,9,10,11,12],xA 14 29 (.bin .add (.t 22) (.t 28)) [1,2,3,4,5,6,7,8,9,10,11,12,13],⟨15,some 30,.a false (.litSlice 1 1 [(.str [])] [(0,1,(.t 29))]) (some (.one (.str))),none,[1,2,3,4,5,6,7,8,9,10,11,12,13,14]⟩,xA 16 31 (.app 1 (.t 15) (.t 30)) (rg 16),xA 17 3 (.mv (.t 31)) (rg 17)]))) (.region [oa 0 32 (.bin .add (.t 11) (.c (.int .i64 1))),om 1 11 32]))))))) (.seq [2] (.region [on 0 33 3,oF 1 34 Gv [(.t 33),(.c (.str [32]))],om 2 2 34]) .ret)))))
def Gr:Fn:=⟨⟨1,35,1,true,[.tmp 2],X3⟩,[.one .frz (.sl FE)],.one (.one .own (.str))⟩
theorem X6:Gr.A:=Bp ⟨Zc,XY,YM,trivial⟩
def JB:List (Int×Int×Int)→List UInt8:=Gr.V
def M5:List (Int×Int×Int)→Prop:=Gr.O
theorem X8:Gr.B:=Bu ⟨Zo,XR,Y0,trivial⟩ (by kernel_rfl) (fun x=>by kernel_rfl)
def XJ:DCode:=(.seq [0] (.region [oa 0 2 (.mv (.c (.bool false)))]) (.seq [3,0] (.region [oi 0 3 1048576]) (.seq [3,0] (.region [on 0 7 0,om 1 8 3,oF 2 9 GA [(.t 7),(.t 8)],om 3 3 9]) (.seq [0] (.seq [11,0] (.region [om 0 10 3,oa 1 11 (.bin .lss (.t 10) (.c (.int .i64 0)))]) (.cond (.t 11) (.seq [2] (.region [oa 0 2 (.mv (.c (.bool true)))]) .ret) .skip)) (.seq [4,0] (.region [on 0 12 0,oF 1 13 D8 [(.t 12)],oF 2 14 Gq [(.t 13)],om 3 4 14]) (.seq [5,4,0] (.region [on 0 15 0,oF 1 16 D8 [(.t 15)],on 2 5 16]) (.seq [6,5,4,0] (.region [on 0 17 5,oF 1 18 Gr [(.t 17)],om 2 6 18]) (.seq [5,0] (.seq [21,5,0] (.region [om 0 19 6,om 1 20 4,oa 2 21 (.bin .neq (.t 19) (.t 20))]) (.cond (.t 21) (.seq [2] (.region [oa 0 2 (.mv (.c (.bool false)))]) .ret) .skip)) (.seq [] (.seq [26] (.region [on 0 22 5,on 1 23 0,oF 2 24 D8 [(.t 23)],oF 3 25 Gy [(.t 22),(.t 24)],oa 4 26 (.un .not (.t 25))]) (.cond (.t 26) (.seq [2] (.region [oa 0 2 (.mv (.c (.bool false)))]) .ret) .skip)) (.seq [2] (.region [oa 0 2 (.mv (.c (.bool true)))]) .ret))))))))))
def ED:Fn:=⟨⟨1,27,0,true,[.tmp 2],XJ⟩,[.one .frz (.sl FE)],.one (.one .own (.bool))⟩
theorem XK:ED.A:=Bp ⟨Zt,PW,Yb,PW,X6,PW,Zy,trivial⟩
def MX:List (Int×Int×Int)→Bool:=ED.V
def MW:List (Int×Int×Int)→Prop:=ED.O
end
section
set_option maxRecDepth 100000
def Ie(x0:((List UInt8)×Int)):Bool:=(iNe x0.2 0)
def Jz(x0:((List UInt8)×Int)):((List UInt8)×Int):=((sAdd (rowS [(iConv .u8 (iAdd .i64 48 (bSel (iLt (iRem x0.2 10) 0) (iNeg .i64 (iRem x0.2 10)) (iRem x0.2 10))))]) x0.1),(iQuo .i64 x0.2 10))
def M8(x0:((List UInt8)×Int)):Prop:=(((iNe x0.2 0)=true→(((10:Int)≠0)∧((((List.length (rowS [(iConv .u8 (iAdd .i64 48 (bSel (iLt (iRem x0.2 10) 0) (iNeg .i64 (iRem x0.2 10)) (iRem x0.2 10))))]))+(List.length x0.1))≤9223372036854775807)∧((10:Int)≠0))))∧((iNe x0.2 0)=false→True))
theorem Yr (x):CO x=(bSel (iEq x 0) [(48:UInt8)] (bSel (iLt x 0) (sAdd [(45:UInt8)] (AZ Ie Jz ([],x)).1) (AZ Ie Jz ([],x)).1)):=(CN.v x).trans (by kernel_rfl)
theorem Yp (x):Gs x=(((iEq x 0)=true→True)∧((iEq x 0)=false→((LoopOk Ie Jz M8 ([],x))∧(((iLt x 0)=true→(((List.length [(45:UInt8)])+(List.length (AZ Ie Jz ([],x)).1))≤9223372036854775807))∧((iLt x 0)=false→True))))):=(CN.o x).trans (by kernel_rfl)
theorem XP (x):Hl x=(bSel (bNot (D6 x)) [] (bSel (iEq x.1 0) [(110:UInt8),111,110,101] (bSel (iEq x.1 1) [(112:UInt8),97,115,115] (bSel (iEq x.1 3) (sAdd [(109:UInt8),111,58] (CO x.2.2.2)) (bSel (iEq x.1 4) (sAdd [(116:UInt8),103,58] (CO x.2.2.2)) (bSel (iEq x.1 5) (sAdd [(116:UInt8),111,58] (CO x.2.2.2)) (bSel (iEq x.1 6) (sAdd (sAdd (Dk x.2.2.1) [(47:UInt8)]) (E8 x.2.1)) (bSel (iEq x.1 7) (sAdd (sAdd (CO x.2.2.2) [(47:UInt8)]) (E8 x.2.1)) (bSel (iEq x.1 8) (sAdd [(111:UInt8),110,99,101,58] (Dk x.2.2.1)) (bSel (iEq x.1 9) (sAdd [(109:UInt8),97,99,114,111,58] (CO x.2.2.2)) (bSel (iEq x.1 10) [(99:UInt8),97,112,115] (bSel (iEq x.2.2.1 0) (E8 x.2.1) (sAdd (sAdd (Dk x.2.2.1) [(45:UInt8)]) (E8 x.2.1)))))))))))))):=(Gn.v x).trans (by kernel_rfl)
theorem XW (x):M1 x=((JC x)∧(((bNot (D6 x))=true→True)∧((bNot (D6 x))=false→(((iEq x.1 0)=true→True)∧((iEq x.1 0)=false→(((iEq x.1 1)=true→True)∧((iEq x.1 1)=false→(((iEq x.1 3)=true→((Gs x.2.2.2)∧(((List.length [(109:UInt8),111,58])+(List.length (CO x.2.2.2)))≤9223372036854775807)))∧((iEq x.1 3)=false→(((iEq x.1 4)=true→((Gs x.2.2.2)∧(((List.length [(116:UInt8),103,58])+(List.length (CO x.2.2.2)))≤9223372036854775807)))∧((iEq x.1 4)=false→(((iEq x.1 5)=true→((Gs x.2.2.2)∧(((List.length [(116:UInt8),111,58])+(List.length (CO x.2.2.2)))≤9223372036854775807)))∧((iEq x.1 5)=false→(((iEq x.1 6)=true→((Ig x.2.2.1)∧((((List.length (Dk x.2.2.1))+(List.length [(47:UInt8)]))≤9223372036854775807)∧((Il x.2.1)∧(((List.length (sAdd (Dk x.2.2.1) [(47:UInt8)]))+(List.length (E8 x.2.1)))≤9223372036854775807)))))∧((iEq x.1 6)=false→(((iEq x.1 7)=true→((Gs x.2.2.2)∧((((List.length (CO x.2.2.2))+(List.length [(47:UInt8)]))≤9223372036854775807)∧((Il x.2.1)∧(((List.length (sAdd (CO x.2.2.2) [(47:UInt8)]))+(List.length (E8 x.2.1)))≤9223372036854775807)))))∧((iEq x.1 7)=false→(((iEq x.1 8)=true→((Ig x.2.2.1)∧(((List.length [(111:UInt8),110,99,101,58])+(List.length (Dk x.2.2.1)))≤9223372036854775807)))∧((iEq x.1 8)=false→(((iEq x.1 9)=true→((Gs x.2.2.2)∧(((List.length [(109:UInt8),97,99,114,111,58])+(List.length (CO x.2.2.2)))≤9223372036854775807)))∧((iEq x.1 9)=false→(((iEq x.1 10)=true→True)∧((iEq x.1 10)=false→(((iEq x.2.2.1 0)=true→(Il x.2.1))∧((iEq x.2.2.1 0)=false→((Ig x.2.2.1)∧((((List.length (Dk x.2.2.1))+(List.length [(45:UInt8)]))≤9223372036854775807)∧((Il x.2.1)∧(((List.length (sAdd (Dk x.2.2.1) [(45:UInt8)]))+(List.length (E8 x.2.1)))≤9223372036854775807))))))))))))))))))))))))))))):=(Gn.o x).trans (by kernel_rfl)
def Hj(x:List (Int×Int×Int))(x0:((List (List UInt8))×Int)):Bool:=(bAnd (iLt x0.2 (lLen x)) (Hn x))
def Jw(x:List (Int×Int×Int))(x0:((List (List UInt8))×Int)):((List (List UInt8))×Int):=((lApp x0.1 [(sAdd (sAdd (lSub [(116:UInt8),100,117] (iNat (lGet x (iNat x0.2) (0,0,0)).1) (iNat (iAdd .i64 (lGet x (iNat x0.2) (0,0,0)).1 1))) [(61:UInt8)]) (Hl (AR (lGet x (iNat x0.2) (0,0,0)))))]),(iAdd .i64 x0.2 1))
def Ju(x:List (Int×Int×Int))(x0:((List (List UInt8))×Int)):Prop:=((((iLt x0.2 (lLen x))=true→(Nr x))∧((iLt x0.2 (lLen x))=false→True))∧(((bAnd (iLt x0.2 (lLen x)) (Hn x))=true→((((0:Int)≤x0.2)∧(x0.2<(((List.length x):Int))))∧(((iNat x0.2)<(List.length x))∧((((0:Int)≤x0.2)∧(x0.2<(((List.length x):Int))))∧(((iNat x0.2)<(List.length x))∧(((((0:Int)≤(lGet x (iNat x0.2) (0,0,0)).1)∧((0:Int)≤(iAdd .i64 (lGet x (iNat x0.2) (0,0,0)).1 1)))∧(((iNat (lGet x (iNat x0.2) (0,0,0)).1)≤(iNat (iAdd .i64 (lGet x (iNat x0.2) (0,0,0)).1 1)))∧((iNat (iAdd .i64 (lGet x (iNat x0.2) (0,0,0)).1 1))≤(List.length [(116:UInt8),100,117]))))∧((((List.length (lSub [(116:UInt8),100,117] (iNat (lGet x (iNat x0.2) (0,0,0)).1) (iNat (iAdd .i64 (lGet x (iNat x0.2) (0,0,0)).1 1))))+(List.length [(61:UInt8)]))≤9223372036854775807)∧((((0:Int)≤x0.2)∧(x0.2<(((List.length x):Int))))∧(((iNat x0.2)<(List.length x))∧((K5 (lGet x (iNat x0.2) (0,0,0)))∧((M1 (AR (lGet x (iNat x0.2) (0,0,0))))∧((((List.length (sAdd (lSub [(116:UInt8),100,117] (iNat (lGet x (iNat x0.2) (0,0,0)).1) (iNat (iAdd .i64 (lGet x (iNat x0.2) (0,0,0)).1 1))) [(61:UInt8)]))+(List.length (Hl (AR (lGet x (iNat x0.2) (0,0,0))))))≤9223372036854775807)∧(AP (((List.length x0.1)+(List.length [(sAdd (sAdd (lSub [(116:UInt8),100,117] (iNat (lGet x (iNat x0.2) (0,0,0)).1) (iNat (iAdd .i64 (lGet x (iNat x0.2) (0,0,0)).1 1))) [(61:UInt8)]) (Hl (AR (lGet x (iNat x0.2) (0,0,0)))))]))*1))))))))))))))∧((bAnd (iLt x0.2 (lLen x)) (Hn x))=false→True)))
theorem Yd (x):JA x=(K9 ((AZ (Hj x) (Jw x) ([],0)).1,[(32:UInt8)])):=(Gq.v x).trans (by kernel_rfl)
theorem X7 (x):M7 x=((LoopOk (Hj x) (Jw x) (Ju x) ([],0))∧(K4 ((AZ (Hj x) (Jw x) ([],0)).1,[(32:UInt8)]))):=(Gq.o x).trans (by kernel_rfl)
theorem Yy (x):FK x=(JI x):=(E4.v x).trans (by kernel_rfl)
theorem Yq (x):Ii x=(JE x):=(E4.o x).trans (by kernel_rfl)
theorem ae (x):NB x=(bSel (iEq x 3) [(109:UInt8),111,58] (bSel (iEq x 4) [(116:UInt8),103,58] (bSel (iEq x 5) [(116:UInt8),111,58] (bSel (iEq x 9) [(109:UInt8),97,99,114,111,58] [])))):=(GB.v x).trans (by kernel_rfl)
theorem ZR (x):P1 x=True:=(GB.o x).trans (by kernel_rfl)
theorem XV (x):Jy x=(bSel (bNot (EF x)) [] (bSel (iEq x.1 0) [(110:UInt8),111,110,101] (bSel (iEq x.1 1) [(112:UInt8),97,115,115] (bSel (iEq x.1 10) [(99:UInt8),97,112,115] (bSel (iEq x.1 2) (bSel (iNe x.2.2.1 0) (sAdd (sAdd (EE x.2.2.1) [(45:UInt8)]) (FL x.2.1)) (FL x.2.1)) (bSel (iEq x.1 6) (sAdd (sAdd (EE x.2.2.1) [(47:UInt8)]) (FL x.2.1)) (bSel (iEq x.1 7) (sAdd (sAdd (FK x.2.2.2) [(47:UInt8)]) (FL x.2.1)) (bSel (iEq x.1 8) (sAdd [(111:UInt8),110,99,101,58] (EE x.2.2.1)) (sAdd (NB x.1) (FK x.2.2.2)))))))))):=(Gp.v x).trans (by kernel_rfl)
theorem XU (x):M4 x=((JD x)∧(((bNot (EF x))=true→True)∧((bNot (EF x))=false→(((iEq x.1 0)=true→True)∧((iEq x.1 0)=false→(((iEq x.1 1)=true→True)∧((iEq x.1 1)=false→(((iEq x.1 10)=true→True)∧((iEq x.1 10)=false→(((iEq x.1 2)=true→(((iNe x.2.2.1 0)=true→((Ih x.2.2.1)∧((((List.length (EE x.2.2.1))+(List.length [(45:UInt8)]))≤9223372036854775807)∧((Ik x.2.1)∧(((List.length (sAdd (EE x.2.2.1) [(45:UInt8)]))+(List.length (FL x.2.1)))≤9223372036854775807)))))∧((iNe x.2.2.1 0)=false→(Ik x.2.1))))∧((iEq x.1 2)=false→(((iEq x.1 6)=true→((Ih x.2.2.1)∧((((List.length (EE x.2.2.1))+(List.length [(47:UInt8)]))≤9223372036854775807)∧((Ik x.2.1)∧(((List.length (sAdd (EE x.2.2.1) [(47:UInt8)]))+(List.length (FL x.2.1)))≤9223372036854775807)))))∧((iEq x.1 6)=false→(((iEq x.1 7)=true→((Ii x.2.2.2)∧((((List.length (FK x.2.2.2))+(List.length [(47:UInt8)]))≤9223372036854775807)∧((Ik x.2.1)∧(((List.length (sAdd (FK x.2.2.2) [(47:UInt8)]))+(List.length (FL x.2.1)))≤9223372036854775807)))))∧((iEq x.1 7)=false→(((iEq x.1 8)=true→((Ih x.2.2.1)∧(((List.length [(111:UInt8),110,99,101,58])+(List.length (EE x.2.2.1)))≤9223372036854775807)))∧((iEq x.1 8)=false→((P1 x.1)∧((Ii x.2.2.2)∧(((List.length (NB x.1))+(List.length (FK x.2.2.2)))≤9223372036854775807)))))))))))))))))))):=(Gp.o x).trans (by kernel_rfl)
def Jv(x:List (Int×Int×Int))(x0:((List (List UInt8))×Int)):Bool:=(iLt x0.2 (lLen x))
def KV(x:List (Int×Int×Int))(x0:((List (List UInt8))×Int)):((List (List UInt8))×Int):=((lApp x0.1 [(sAdd (sAdd (lSub [(116:UInt8),100,117] (iNat (lGet x (iNat x0.2) (0,0,0)).1) (iNat (iAdd .i64 (lGet x (iNat x0.2) (0,0,0)).1 1))) [(61:UInt8)]) (Jy (2,(lGet x (iNat x0.2) (0,0,0)).2.1,(lGet x (iNat x0.2) (0,0,0)).2.2,0)))]),(iAdd .i64 x0.2 1))
def MY(x:List (Int×Int×Int))(x0:((List (List UInt8))×Int)):Prop:=(((iLt x0.2 (lLen x))=true→((((0:Int)≤x0.2)∧(x0.2<(((List.length x):Int))))∧(((iNat x0.2)<(List.length x))∧(((((0:Int)≤(lGet x (iNat x0.2) (0,0,0)).1)∧((0:Int)≤(iAdd .i64 (lGet x (iNat x0.2) (0,0,0)).1 1)))∧(((iNat (lGet x (iNat x0.2) (0,0,0)).1)≤(iNat (iAdd .i64 (lGet x (iNat x0.2) (0,0,0)).1 1)))∧((iNat (iAdd .i64 (lGet x (iNat x0.2) (0,0,0)).1 1))≤(List.length [(116:UInt8),100,117]))))∧((((List.length (lSub [(116:UInt8),100,117] (iNat (lGet x (iNat x0.2) (0,0,0)).1) (iNat (iAdd .i64 (lGet x (iNat x0.2) (0,0,0)).1 1))))+(List.length [(61:UInt8)]))≤9223372036854775807)∧((M4 (2,(lGet x (iNat x0.2) (0,0,0)).2.1,(lGet x (iNat x0.2) (0,0,0)).2.2,0))∧((((List.length (sAdd (lSub [(116:UInt8),100,117] (iNat (lGet x (iNat x0.2) (0,0,0)).1) (iNat (iAdd .i64 (lGet x (iNat x0.2) (0,0,0)).1 1))) [(61:UInt8)]))+(List.length (Jy (2,(lGet x (iNat x0.2) (0,0,0)).2.1,(lGet x (iNat x0.2) (0,0,0)).2.2,0))))≤9223372036854775807)∧(AP (((List.length x0.1)+(List.length [(sAdd (sAdd (lSub [(116:UInt8),100,117] (iNat (lGet x (iNat x0.2) (0,0,0)).1) (iNat (iAdd .i64 (lGet x (iNat x0.2) (0,0,0)).1 1))) [(61:UInt8)]) (Jy (2,(lGet x (iNat x0.2) (0,0,0)).2.1,(lGet x (iNat x0.2) (0,0,0)).2.2,0)))]))*1)))))))))∧((iLt x0.2 (lLen x))=false→True))
theorem Ya (x):JB x=(bSel (bNot (JJ x)) [] (Nn ((AZ (Jv x) (KV x) ([],0)).1,[(32:UInt8)]))):=(Gr.v x).trans (by kernel_rfl)
theorem X4 (x):M5 x=((Nq x)∧(((bNot (JJ x))=true→True)∧((bNot (JJ x))=false→((LoopOk (Jv x) (KV x) (MY x) ([],0))∧(Nd ((AZ (Jv x) (KV x) ([],0)).1,[(32:UInt8)])))))):=(Gr.o x).trans (by kernel_rfl)
theorem XM (x):MX x=(bOr (iLt (FM (x,1048576)) 0) (bAnd (bNot (sNe (JB (Dq x)) (JA (Dq x)))) (bNot (bNot (Nw ((Dq x),(Dq x))))))):=(ED.v x).trans (by kernel_rfl)
theorem XL (x):MW x=((Np (x,1048576))∧(((iLt (FM (x,1048576)) 0)=true→True)∧((iLt (FM (x,1048576)) 0)=false→((JH x)∧((M7 (Dq x))∧((JH x)∧((M5 (Dq x))∧(((sNe (JB (Dq x)) (JA (Dq x)))=true→True)∧((sNe (JB (Dq x)) (JA (Dq x)))=false→((JH x)∧(Nt ((Dq x),(Dq x))))))))))))):=(ED.o x).trans (by kernel_rfl)
attribute [irreducible] CO Gs Hl M1 JA M7 FK Ii NB P1 Jy M4 JB M5 MX MW
end
end
end Go.Ag
