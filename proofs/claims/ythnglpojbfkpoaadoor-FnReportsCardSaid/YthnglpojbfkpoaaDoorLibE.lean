/- Part 5 of what FnReports needs. No conditions. -/
import Derived.WalkKit
import Derived.ProofKit
import Derived.OpenShut
import Derived.Carry
import Derived.ChangeSame
import Derived.Attr
import Derived.KernelRfl
import Derived.Below
import Derived.Lib.Join
import Derived.Lib.Split
import Derived.Lib.Bytealg
import Derived.Lib.ItoaNum
import Derived.Test.YthnglpojbfkpoaaDoorLibD
namespace Go.Ag
set_option linter.unusedSimpArgs false
set_option linter.unusedVariables false
noncomputable section
theorem Zc(d:DS)(c:Opnd)(t:Bool):ChgS d (setc d c t):=by
 cases c with
 |t g=>exact Ug d g t
 |c v=>exact ChgS.refl d
theorem ZL{d:DS}{s:PS}{c:Opnd}{b:Bool}(hs:ES d s)(h:c.pev s.sl= .fl (.bool b)):ES (setc d c b) s:=by
 cases c with
 |t g=>exact ZG hs h
 |c v=>exact hs
theorem Gh:∀ (c:DCode) (d:DS),(dev c d).All (ChgS d)
 |.skip,d=>ChgS.refl d
 |.region ops,d=>TZ ops d (ChgS.refl d)
 | .regionU ops,d=>by
   simp only[dev]
   split
   · exact TZ ops d (ChgS.refl d)
   · trivial
 | .seq l a b,d=>by
   refine DT.then_all (Gh a d.clean) (fun st h=>?_) (fun st h=>h.rem)
   have h1:ChgS d (Jr d (RZ l st)):=(h.trans (kv l st)).rem
   exact DT.All.imp (fun _ h2=>h1.trans h2) (Gh b _)
 | .cond c a b,d=>by
   simp only[dev]
   cases hc:c.dev d.sl with
   | bool t=>
     cases t with
     |lit t=>cases t<;>first|exact Gh a d|exact Gh b d
     |dyn t=>exact⟨DT.All.imp (fun _ h=>(Zc d c true).trans h) (Gh a _),DT.All.imp (fun _ h=>(Zc d c false).trans h) (Gh b _)⟩
   |_=>trivial
 |.block i a,d=>DT.unexit_all i (Gh a d)
 |.loop live n a,d=>j5 (fun d=>Gh a d.clean) d
 |.exit i,d=>ChgS.refl d
 |.ret,d=>ChgS.refl d
theorem Fk:∀ (c:DCode),AllD c.obs→∀ {d d':DS} {s:PS} {e:AExit} {k:EN},ES d s→(dev c d).ok.den→(dev c d).lf=some (e,d')→(∀ s',ES d' s'→k e s')→Fx c.er k s
 | .skip,_,d,d',s,e,k,hs,hok,hl,hk=>by
   simp only[dev,DT.lf,Ah,Aj] at hl
   obtain⟨rfl,rfl⟩:=hl
   exact hk s hs
 | .region ops,ho,d,d',s,e,k,hs,hok,hl,hk=>by
   have he:=aC ops hl
   subst he
   exact Vs ops ho rfl hk d s hs hok hl
 | .regionU ops,ho,d,d',s,e,k,hs,hok,hl,hk=>by
   simp only[dev] at hok hl
   split at hok
   · rename_i hp
     rw[Ab hp] at hl
     have he:=aC ops hl
     subst he
     exact⟨hp,Vs ops ho rfl hk d s hs hok hl⟩
   · exact hok.elim
 | .seq l a b,ho,d,d',s,e,k,hs,hok,hl,hk=>by
   obtain⟨h1,h2⟩:=ho.app
   obtain⟨hoa,hc⟩:=DT.then_s (Gh a d.clean) hok hl
   simp only[DCode.er,Fx]
   rcases hc with⟨st0,m,hla,hm,hch,hob,hlb⟩|⟨he,st0,hla,rfl⟩
   · refine Fk a h1 hs.clean hoa hla fun s' hs'=>?_
     exact Fk b h2 (((hm s' hs').trim l).rem) hob hlb hk
   · refine Fk a h1 hs.clean hoa hla fun s' hs'=>?_
     cases e<;>first|(cases he;done)|exact hk s' hs'.rem
 | .cond c a b,ho,d,d',s,e,k,hs,hok,hl,hk=>by
   obtain⟨h1,h2⟩:=ho.app
   have hv:=c.dev_ev hs
   simp only[dev] at hok hl
   simp only[DCode.er,Fx]
   cases hc:c.dev d.sl with
   | bool t=>
     rw[hc] at hok hl hv
     have hp:=hv.of (by simp)
     simp only[DV.enc] at hp
     rw[hp]
     simp only
     cases t with
     | lit t=>
       cases t with
       |true=>exact Fk a h1 hs hok hl hk
       |false=>exact Fk b h2 hs hok hl hk
     | dyn t=>
       have hok:=(PX.if_den _ _ _).mp hok
       cases t with
       |true=>exact Fk a h1 (ZL hs hp) (hok.1 rfl) hl hk
       |false=>exact Fk b h2 (ZL hs hp) (hok.2 rfl) hl hk
   |_=>rw[hc] at hok;exact hok.elim
 | .block i a,ho,d,d',s,e,k,hs,hok,hl,hk=>by
   simp only[dev,DT.unexit_ok,DT.unexit_lf] at hok hl
   obtain⟨e0,d0,h0⟩:=DT.ok_lf hok
   rw[h0] at hl
   simp only[B6,Ah,Aj] at hl
   obtain⟨rfl,rfl⟩:=hl
   refine Fk a ho hs hok h0 fun s' hs'=>?_
   have:=hk s' hs'
   cases e0 with
   |normal=>exact this
   |ret=>exact this
   | exit j=>
     simp only[UN]
     simp only[AExit.un] at this
     split
     · rename_i hj;rw[Ab hj] at this;exact this
     · rename_i hj;rw[Ad hj] at this;exact this
 | .loop live n a,ho,d,d',s,e,k,hs,hok,hl,hk=>by
   simp only[dev] at hok hl
   exact ni (fun d=>Gh a d.clean) (fun d s e d' k hs hok hl hk=>Fk a ho hs.clean hok hl hk) hs hok hl hk
 | .exit i,_,d,d',s,e,k,hs,hok,hl,hk=>by
   simp only[dev,DT.lf,Ah,Aj] at hl
   obtain⟨rfl,rfl⟩:=hl
   exact hk s hs
 | .ret,_,d,d',s,e,k,hs,hok,hl,hk=>by
   simp only[dev,DT.lf,Ah,Aj] at hl
   obtain⟨rfl,rfl⟩:=hl
   exact hk s hs
mutual
def DV.flt:DV→Bool
 |.bool _|.int _ _|.str _|.ifc _=>true
 |.agg cs=>DV.fltL cs
 |.tup vs=>DV.fltL vs
 |_=>false
def DV.fltL:List DV→Bool
 |[]=>true
 |v::r=>v.flt&&DV.fltL r
end
mutual
theorem Us:∀ (v:DV),v.flt=true→v.enc.flt=true
 |.bool _,_|.int _ _,_|.str _,_|.ifc _,_=>rfl
 |.agg cs,h=>T4 cs h
 |.tup cs,h=>T4 cs h
theorem T4:∀ (l:List DV),DV.fltL l=true→PV.fltL (DV.encL l)=true
 |[],_=>rfl
 | v::r,h=>by
   simp only[DV.fltL,Ai] at h
   simp only[DV.encL,PV.fltL,Us v h.1,T4 r h.2,Cw]
end
theorem TX:∀ (l:List DV),Hi l=true→DV.okL l=true
 |[],_=>rfl
 | v::r,h=>by
   simp only[Hi,Ai] at h
   have:v.ok=true:=by cases v<;>first|rfl|(have:=h.1;cases this)
   simp only[DV.okL,this,TX r h.2,Cw]
theorem EBx.segm2{a:List DC}{b:List PV}{o n:Nat}(h:EBx a b)(hl:o+n≤a.length)(hk:DV.okL (BB (Bl a) o n)=true):Go.Ag.segm b o n=DV.encL (BB (Bl a) o n)∧o+n≤b.length:=by
 rcases h with rfl|h
 · simp only[As,Nat.le_zero_eq,Nat.add_eq_zero_iff] at hl;obtain⟨rfl,rfl⟩:=hl;refine⟨?_,Ff _⟩;cases b<;>rfl
 · exact⟨h.segm o n hk,by rw[← h.len];exact hl⟩
theorem TT{st st':DS}{s:PS}{r:ARes}{v:DV}(hs:ES st s)(h:Ic st r=some (v,st'))(hv:v.ok=true):∃ s',G3 s r=some (v.enc,s')∧ES st' s':=by
 cases r with
 | tmp t=>
   simp only[Ic] at h;split at h
   · rename_i hc;simp only[Ai] at hc;simp only[Ah] at h
     have hk:(AV (.t t) st).1.ok=true:=by
      have:(AV (.t t) st).1=v:=by simp only[AV,h]
      rw[this];exact hv
     obtain⟨m1,m2⟩:=DR (.t t) hs hk
     have hne:A7 st.sl t≠.any:=by intro e;rw[e] at hc;cases hc.2
     have hp:=(hs.sl.get t).of hne;simp only[AV,h,mvOut] at m1 m2;refine⟨(Ee (Aa s.sl t) t s).2,?_,m2⟩;simp only[G3];rw[Ab (by rw[hp];exact km _ hc.1),← m1]
   · cases h
 | cell t n=>
   simp only[Ic] at h;have hp:=hs.sl.get t
   cases hv:A7 st.sl t with
   | box i o=>
     rw[hv] at h hp;have hp:=hp.of (by simp);simp only at h;split at h
     · rename_i hc;simp only[Ai] at hc;simp only[Bs] at h;obtain⟨⟨g,r⟩,h1,h2⟩:=h;simp only at h2;subst h2;obtain⟨e1,e2⟩:=(hs.bx.get i).segm2 (Cm hc.1) (TX _ hc.2)
       have hg:g= .tt:=by
        unfold J4 at h1;simp only[AQ] at h1;split at h1
        · simp only[Bs,Aj] at h1;obtain⟨_,_,rfl,_⟩:=h1;rfl
        · cases h1
       subst hg;obtain⟨s',e3,e4⟩:=W9 (p:=.box i o) hs (.inr rfl) h1;refine⟨s',?_,e4⟩;simp only[G3,hp,DV.enc];rw[Ab ⟨e2,by rw[e1];exact QZ _ hc.2⟩];exact e3
     · cases h
   | ptr i o=>
     rw[hv] at h hp;have hp:=hp.of (by simp);simp only at h;split at h
     · rename_i hc;simp only[Ai] at hc;simp only[Bs] at h;obtain⟨⟨g,r⟩,h1,h2⟩:=h;simp only at h2;subst h2;obtain⟨e1,e2⟩:=(hs.hp.get i).segm2 (Cm hc.1) (TX _ hc.2)
       have hg:g= .tt∧i<st.hp.length:=by
        unfold Jj at h1;simp only[AQ] at h1;split at h1
        · rename_i hb;simp only[Ai] at hb;simp only[Bs,Aj] at h1;obtain⟨_,_,rfl,_⟩:=h1;exact⟨rfl,Cm hb.1.1⟩
        · cases h1
       obtain⟨rfl,hi⟩:=hg;obtain⟨s',e3,e4⟩:=W2 (p:=.ptr i o) hs (.inr rfl) h1 trivial;refine⟨s',?_,e4⟩;simp only[G3,hp,DV.enc];rw[Ab ⟨by rw[← hs.hp.len];exact hi,e2,by rw[e1];exact QZ _ hc.2⟩];exact e3
     · cases h
   |_=>rw[hv] at h;cases h
theorem TF:∀ {res:List ARes} {st st':DS} {s:PS} {vs:List DV},ES st s→Gg st res=some (vs,st')→DV.okL vs=true→∃ s',Ge s res=some (DV.encL vs,s')∧ES st' s'
 | [],st,st',s,vs,hs,h,_=>by
   simp only[Gg,Ah,Aj] at h
   obtain⟨rfl,rfl⟩:=h
   exact⟨s,rfl,hs⟩
 | r :: rs,st,st',s,vs,hs,h,hk=>by
   simp only[Gg] at h
   split at h
   · rename_i v st1 h1
     split at h
     · rename_i vs1 st2 h2
       simp only[Ah,Aj] at h
       obtain⟨rfl,rfl⟩:=h
       simp only[DV.okL,Ai] at hk
       obtain⟨s1,e1,e2⟩:=TT hs h1 hk.1
       obtain⟨s2,e3,e4⟩:=TF e2 h2 hk.2
       exact⟨s2,by simp only[Ge,e1,e3,DV.encL],e4⟩
     · cases h
   · cases h
theorem Zm:∀ {res:List ARes} {st:DS} {s:PS} {v:DV},ES st s→Fi st res=some v→v.ok=true→∃ s',Hb s res=some (v.enc,s'):=by
 have gen:∀ {res:List ARes} {st:DS} {s:PS} {v:DV},ES st s→v.ok=true→(Gg st res).map (fun x=>DV.tup x.1)=some v→∃ s',(Ge s res).map (fun(vs,st)=>(PV.tup vs,st))=some (v.enc,s'):=fun hs hv h=>by
  simp only[Bs] at h;obtain⟨⟨vs,st'⟩,h1,rfl⟩:=h;obtain⟨s',e1,_⟩:=TF hs h1 hv;exact⟨s',by rw[e1];rfl⟩
 intro res st s v hs h hv
 cases res with
 |nil=>exact gen (res:=[]) hs hv h
 | cons r rs=>
   cases rs with
   | nil=>
     simp only[Fi,Bs] at h;obtain⟨⟨v',st'⟩,h1,rfl⟩:=h;obtain⟨s',e1,_⟩:=TT hs h1 hv;exact⟨s',e1⟩
   |cons r2 rs=>exact gen (res:=r::r2::rs) hs hv h
theorem Ma {res:List ARes}:∀ {t:DT} {g:PX} {v:DV},t.val res=(g,some v)→v≠.any→g.den →
 t.ok.den∧∃ e st v0,t.lf=some (e,st)∧(∀ i,e≠.exit i)∧Fi st res=some v0∧v0.ok=true∧v.enc=v0.enc
 | .leaf e st,g,v,h,hv,hg=>by
   have gen:(match Fi st res with|some v=>if (v.ok&&!v.hasPtr)=true then (PX.tt,some v) else (PX.ff,none)|none=>(PX.ff,none))=(g,some v)→Fi st res=some v∧v.ok=true:=fun h=>by
    split at h
    · split at h
      · rename_i h1 h2;simp only[Aj,Ah] at h;obtain⟨_,rfl⟩:=h;simp only[Ai] at h2;exact⟨h1,h2.1⟩
      · simp at h
    · simp at h
   cases e with
   |exit i=>simp[DT.val] at h
   |normal=>obtain⟨h1,h2⟩:=gen h;exact⟨trivial,.normal,st,v,rfl,by simp,h1,h2,rfl⟩
   |ret=>obtain⟨h1,h2⟩:=gen h;exact⟨trivial,.ret,st,v,rfl,by simp,h1,h2,rfl⟩
 | .node c a b,g,v,h,hv,hg=>by
   simp only[DT.val] at h
   have hno:∀ {t:DT} {g:PX},t.val res=(g,none)→¬ g.den:=by
    intro t
    induction t with
    | leaf e st=>
      intro g h;cases e<;>simp only[DT.val] at h<;>(repeat' split at h)<;>simp only[Aj,reduceCtorEq,and_false,LK] at h<;>subst h<;>exact id
    | node c x y ih1 ih2=>
      intro g h hg;simp only[DT.val] at h
      cases h1:x.val res with
      | mk g1 v1=>
        cases h2:y.val res with
        | mk g2 v2=>
          rw[h1,h2] at h
          cases v1 with
          | none=>
            simp only[Aj] at h;obtain⟨rfl,rfl⟩:=h;have:=(PX.if_den _ _ _).mp hg
            cases c with
            |true=>exact ih1 h1 (this.1 rfl)
            |false=>exact ih2 h2 (this.2 rfl)
          |some v1=>cases v2<;>simp at h
    | chk g0 t ih=>
      intro g h hg;simp only[DT.val] at h
      cases h1:t.val res with
      | mk g1 v1=>
        rw[h1] at h;simp only[Aj] at h;obtain⟨rfl,rfl⟩:=h;exact ih h1 ((PX.land_den _ _).mp hg).2
    | bad=>
      intro g h;simp only[DT.val,Aj,LK] at h;subst h;exact id
   cases h1:a.val res with
   | mk g1 v1=>
     cases h2:b.val res with
     | mk g2 v2=>
       rw[h1,h2] at h
       have fin:∀ (v1 v2:DV),g=PX.if' c g1 g2→a.val res=(g1,some v1)→b.val res=(g2,some v2)→v=CC c v1 v2→(DT.node c a b).ok.den∧∃ e st v0,(DT.node c a b).lf=some (e,st)∧(∀ i,e≠.exit i)∧Fi st res=some v0∧v0.ok=true∧v.enc=v0.enc:=by
        intro v1 v2 hgg h1 h2 hvv;subst hgg;have hg:=(PX.if_den _ _ _).mp hg;have he:=(Rj c v1 v2).resolve_left (by rw[← hvv];exact hv);rw[← hvv] at he
        have n1:v1≠.any:=by rintro rfl;apply hv;rw[hvv];cases v2<;>rfl
        have n2:v2≠.any:=by rintro rfl;apply hv;rw[hvv];cases v1<;>rfl
        show (PX.if' c a.ok b.ok).den∧∃ e st v0,(DT.node c a b).lf=some (e,st)∧(∀ i,e≠.exit i)∧Fi st res=some v0∧v0.ok=true∧v.enc=v0.enc;rw[PX.if_den]
        cases c with
        | true=>
          obtain⟨k1,e,st,v0,k2,k3,k4,k5,k6⟩:=Ma h1 n1 (hg.1 rfl);exact⟨⟨fun _=>k1,fun h=>by cases h⟩,e,st,v0,k2,k3,k4,k5,by rw[he];exact k6⟩
        | false=>
          obtain⟨k1,e,st,v0,k2,k3,k4,k5,k6⟩:=Ma h2 n2 (hg.2 rfl);exact⟨⟨fun h=>(by cases h),fun _=>k1⟩,e,st,v0,k2,k3,k4,k5,by rw[he];exact k6⟩
       cases v1 with
       | none=>
         simp only[Aj] at h;obtain⟨rfl,rfl⟩:=h;have hg:=(PX.if_den _ _ _).mp hg;show (PX.if' c a.ok b.ok).den∧_;rw[PX.if_den]
         cases c with
         |true=>exact absurd (hg.1 rfl) (hno h1)
         | false=>
           obtain⟨k1,e,st,v0,k2,k3,k4,k5,k6⟩:=Ma h2 hv (hg.2 rfl);exact⟨⟨fun h=>(by cases h),fun _=>k1⟩,e,st,v0,k2,k3,k4,k5,k6⟩
       | some v1=>
         cases v2 with
         | none=>
           simp only[Aj,Ah] at h;obtain⟨rfl,rfl⟩:=h;have hg:=(PX.if_den _ _ _).mp hg;show (PX.if' c a.ok b.ok).den∧_;rw[PX.if_den]
           cases c with
           |false=>exact absurd (hg.2 rfl) (hno h2)
           | true=>
             obtain⟨k1,e,st,v0,k2,k3,k4,k5,k6⟩:=Ma h1 hv (hg.1 rfl);exact⟨⟨fun _=>k1,fun h=>by cases h⟩,e,st,v0,k2,k3,k4,k5,k6⟩
         | some v2=>
           simp only[Aj,Ah] at h;exact fin v1 v2 h.1.symm h1 h2 h.2.symm
 | .chk g0 t,g,v,h,hv,hg=>by
   simp only[DT.val] at h
   cases h1:t.val res with
   | mk g1 v1=>
     rw[h1] at h;simp only[Aj] at h;obtain⟨rfl,rfl⟩:=h;have hg:=(PX.land_den _ _).mp hg;obtain⟨k1,k2⟩:=Ma h1 hv hg.2;exact⟨(PX.land_den _ _).mpr ⟨hg.1,k1⟩,k2⟩
 |.bad,g,v,h,hv,hg=>by simp[DT.val] at h
theorem EL.append:∀ {a:List DC} {b:List PV} {c:List DC} {d:List PV},EL a b→EL c d→EL (a++c) (b++d)
 |[],[],_,_,_,h=>h
 |_::_,_::_,_,_,h,h'=>⟨h.1,EL.append h.2 h'⟩
theorem Nt:∀ (n:Nat),EL (E8 n) (Gx n)
 |0=>trivial
 |n+1=>⟨.inl rfl,Nt n⟩
theorem Nw:∀ (n:Nat),EB (Fa n) (Ik n)
 |0=>trivial
 |n+1=>⟨.inl rfl,Nw n⟩
theorem jG {f:DFun} (ho:AllD f.body.obs) {args:List DV} {g:PX} {v:DV} (h:OO f args=(g,some v)) (hg:g.den) (hv:v≠.any) (hl:args.length=f.nparams) (hp:f.pure=true→v.flt=true)
 {Q:PV→List (List PV)→Prop} (hQ:∀ H,Q v.enc H):DA f.er (DV.encL args) [] Q:=by
 unfold OO at h
 obtain⟨hok,e,st,v0,h1,h2,h3,h4,h5⟩:=Ma h hv hg
 refine⟨by rw[DY];exact hl,fun _=>rfl,?_⟩
 refine Fk f.body ho (d:=⟨news args++E8 (f.nslots-f.nparams),Fa f.nbox,[]⟩) ⟨(EL.news args).append (Nt _),Nw _,trivial⟩ hok h1 fun s' hs'=>?_
 obtain⟨s2,e2⟩:=Zm hs' h3 h4
 rw[← h5] at e2
 have fin:(match Hb s' f.res with|some (v,st)=>if f.pure=true then v.flt=true∧Q v [] else Q v st.hp|none=>False):=by
  rw[e2];simp only;split
  · rename_i hpu;exact⟨Us v (hp hpu),hQ _⟩
  · exact hQ _
 cases e with
 |normal=>exact fin
 |ret=>exact fin
 |exit i=>exact absurd rfl (h2 i)
def TuX:List HT→Type
 |[]=>Unit
 |[a]=>a.D
 |a::r=>a.D×TuX r
def D8:(l:List HT)→List DV→Option (TuX l)
 |[],[]=>some ()
 |[a],[v]=>a.of v
 | a::b::r,v::vs=>(match a.of v,D8 (b::r) vs with
   |some x,some y=>some (x,y)
   |_,_=>none)
 |_,_=>none
def CK:(l:List HT)→TuX l→List DV
 |[],_=>[]
 |[a],x=>[a.dv x]
 |a::b::r,x=>a.dv x.1::CK (b::r) x.2
inductive QT where
 |one (h:HT)|tup (l:List HT)
def QT.D:QT→Type
 |.one h=>h.D
 |.tup l=>TuX l
def QT.of:(q:QT)→DV→Option q.D
 |.one h,v=>h.of v
 |.tup l,.tup vs=>D8 l vs
 |.tup _,_=>none
def QT.dv:(q:QT)→q.D→DV
 |.one h,x=>h.dv x
 |.tup l,x=>.tup (CK l x)
def QT.ofO(q:QT):Option DV→Option q.D
 |some v=>q.of v
 |none=>none
def RE:(l:List (Ql×CT))→AgX l
 |[]=>()
 |[a]=>a.2.dflt
 |a::b::r=>(a.2.dflt,RE (b::r))
def HT.dflt:(h:HT)→h.D
 |.one _ t=>t.dflt
 |.agg l=>RE l
def aq:(l:List HT)→TuX l
 |[]=>()
 |[a]=>a.dflt
 |a::b::r=>(a.dflt,aq (b::r))
def QT.dflt:(q:QT)→q.D
 |.one h=>h.dflt
 |.tup l=>aq l
def HT.flt:HT→Bool
 |.one _ t=>t.flat
 |.agg l=>l.all fun a=>a.2.flat
def QT.flt:QT→Bool
 |.one h=>h.flt
 |.tup l=>l.all HT.flt
theorem Kk:∀ {l:List HT} {vs:List DV} {x:TuX l},D8 l vs=some x→DV.encL (CK l x)=DV.encL vs
 |[],[],_,_=>rfl
 | [a],[v],x,h=>by
   show [(a.dv x).enc]=[v.enc]
   rw[(OE (t:=a) h).1]
 | a :: b::r,v::vs,x,h=>by
   have h':(match a.of v,D8 (b::r) vs with|some x,some y=>some (x,y)|_,_=>none)=some x:=h
   clear h
   cases h1:a.of v with
   |none=>rw[h1] at h';cases h'
   | some p=>
     cases h2:D8 (b::r) vs with
     |none=>rw[h1,h2] at h';cases h'
     | some q=>
       rw[h1,h2] at h'
       have h':=Ck h'
       subst h'
       show (a.dv p).enc::DV.encL (CK (b::r) q)=v.enc::DV.encL vs
       rw[(OE h1).1,Kk h2]
theorem VQ{q:QT}{v:DV}{x:q.D}(h:q.of v=some x):(q.dv x).enc=v.enc∧v≠.any:=by
 cases q with
 |one t=>exact OE (t:=t) h
 | tup l=>
   cases v<;>try (cases h;done)
   rename_i cs;refine⟨?_,by simp⟩;show PV.tup _=PV.tup _;rw[Kk (l:=l) h]
theorem Lw:∀ (l:List HT) (x:TuX l),(CK l x).length=l.length
 |[],_=>rfl
 |[_],_=>rfl
 | a::b::r,x=>by
   show (CK (b::r) x.2).length+1=(b::r).length+1
   rw[Lw (b::r) x.2]
theorem Vi{q:Ql}{t:CT}{v:DV}{x:t.D}(hf:t.flat=true)(h:t.ofQ q v=some x):v.flt=true:=by
 cases t<;>first|(cases hf;done)|skip
 all_goals (cases v<;>first|rfl|(cases h;done))
theorem aK:∀ {l:List (Ql×CT)} {vs:List DV} {x:AgX l},l.all (fun a=>a.2.flat)=true→Ea l vs=some x→DV.fltL vs=true
 |[],[],_,_,_=>rfl
 | [a],[v],x,hf,h=>by
   simp only[D2,N3,Gu] at hf
   simp only[DV.fltL,Vi (q:=a.1) hf h,Cw]
 | a :: b::r,v::vs,x,hf,h=>by
   have h':(match a.2.ofQ a.1 v,Ea (b::r) vs with|some x,some y=>some (x,y)|_,_=>none)=some x:=h
   clear h
   rw[D2,Ai] at hf
   cases h1:a.2.ofQ a.1 v with
   |none=>rw[h1] at h';cases h'
   | some p=>
     cases h2:Ea (b::r) vs with
     |none=>rw[h1,h2] at h';cases h'
     |some q=>simp only[DV.fltL,Vi hf.1 h1,aK hf.2 h2,Cw]
theorem Vr{t:HT}{v:DV}{x:t.D}(hf:t.flt=true)(h:t.of v=some x):v.flt=true:=by
 cases t with
 |one q t=>exact Vi (q:=q) (t:=t) hf h
 | agg l=>
   cases v<;>try (cases h;done)
   exact aK (l:=l) hf h
theorem aa:∀ {l:List HT} {vs:List DV} {x:TuX l},l.all HT.flt=true→D8 l vs=some x→DV.fltL vs=true
 |[],[],_,_,_=>rfl
 | [a],[v],x,hf,h=>by
   simp only[D2,N3,Gu] at hf
   simp only[DV.fltL,Vr (t:=a) hf h,Cw]
 | a :: b::r,v::vs,x,hf,h=>by
   have h':(match a.of v,D8 (b::r) vs with|some x,some y=>some (x,y)|_,_=>none)=some x:=h
   clear h
   rw[D2,Ai] at hf
   cases h1:a.of v with
   |none=>rw[h1] at h';cases h'
   | some p=>
     cases h2:D8 (b::r) vs with
     |none=>rw[h1,h2] at h';cases h'
     |some q=>simp only[DV.fltL,Vr hf.1 h1,aa hf.2 h2,Cw]
theorem ax{q:QT}{v:DV}{x:q.D}(hf:q.flt=true)(h:q.of v=some x):v.flt=true:=by
 cases q with
 |one t=>exact Vr (t:=t) hf h
 | tup l=>
   cases v<;>try (cases h;done)
   exact aa (l:=l) hf h
def G6(hs:List HT)(q:QT)(ok:TuX hs→Prop)(v:TuX hs→q.D):FU:=fun args=>match D8 hs args with
 |some x=>some (.p (ok x),q.dv (v x))
 |none=>none
def DT.valQ(q:QT)(res:List ARes):DT→PX×Option q.D
 |.leaf (.exit _) _=>(.ff,none)
 | .leaf _ st=>(match Fi st res with
   | some v=>if v.ok&&!v.hasPtr then (match q.of v with
     |some y=>(.tt,some y)
     |none=>(.ff,none)) else (.ff,none)
   |none=>(.ff,none))
 | .node c a b=>(match a.valQ q res,b.valQ q res with
   |(g,none),(g',y)=>(PX.if' c g g',y)
   |(g,x),(g',none)=>(PX.if' c g g',x)
   |(g,some x),(g',some y)=>(PX.if' c g g',some (bSel c x y)))
 | .chk g t=>(match t.valQ q res with
   |(g',v)=>(g.land g',v))
 |.bad=>(.ff,none)
theorem Nq{q:QT}{res:List ARes}:∀ {t:DT} {g:PX},t.valQ q res=(g,none)→¬ g.den
 | .leaf e st,g,h=>by
   cases e<;>simp only[DT.valQ] at h<;>(repeat' split at h)<;>simp only[Aj,reduceCtorEq,and_false,LK] at h<;>subst h<;>exact id
 | .node c x y,g,h=>by
   intro hg
   simp only[DT.valQ] at h
   cases h1:x.valQ q res with
   | mk g1 v1=>
     cases h2:y.valQ q res with
     | mk g2 v2=>
       rw[h1,h2] at h
       cases v1 with
       | none=>
         simp only[Aj] at h
         obtain⟨rfl,rfl⟩:=h
         have:=(PX.if_den _ _ _).mp hg
         cases c with
         |true=>exact Nq h1 (this.1 rfl)
         |false=>exact Nq h2 (this.2 rfl)
       |some v1=>cases v2<;>simp at h
 | .chk g0 t,g,h=>by
   intro hg
   simp only[DT.valQ] at h
   cases h1:t.valQ q res with
   | mk g1 v1=>
     rw[h1] at h
     simp only[Aj] at h
     obtain⟨rfl,rfl⟩:=h
     exact Nq h1 ((PX.land_den _ _).mp hg).2
 | .bad,g,h=>by
   simp only[DT.valQ,Aj,LK] at h
   subst h;exact id
theorem Rv{q:QT}{res:List ARes}:∀ {t:DT} {g:PX} {y:q.D},t.valQ q res=(g,some y)→g.den →
 t.ok.den∧∃ e st v0,t.lf=some (e,st)∧(∀ i,e≠.exit i)∧Fi st res=some v0∧v0.ok=true∧q.of v0=some y
 | .leaf e st,g,y,h,hg=>by
   have gen:(match Fi st res with|some v=>if (v.ok&&!v.hasPtr)=true then (match q.of v with|some y=>(PX.tt,some y)|none=>(PX.ff,none)) else (PX.ff,none)|none=>(PX.ff,none))=(g,some y)→∃ v,Fi st res=some v∧v.ok=true∧q.of v=some y:=fun h=>by
    split at h
    · rename_i v hv;split at h
      · rename_i hc;simp only[Ai] at hc;split at h
        · rename_i y' hy;simp only[Aj,Ah] at h;obtain⟨_,rfl⟩:=h;exact⟨v,hv,hc.1,hy⟩
        · simp at h
      · simp at h
    · simp at h
   cases e with
   |exit i=>simp[DT.valQ] at h
   |normal=>obtain⟨v,h1,h2,h3⟩:=gen h;exact⟨trivial,.normal,st,v,rfl,by simp,h1,h2,h3⟩
   |ret=>obtain⟨v,h1,h2,h3⟩:=gen h;exact⟨trivial,.ret,st,v,rfl,by simp,h1,h2,h3⟩
 | .node c a b,g,y,h,hg=>by
   simp only[DT.valQ] at h;show (PX.if' c a.ok b.ok).den∧∃ e st v0,(DT.node c a b).lf=some (e,st)∧(∀ i,e≠.exit i)∧Fi st res=some v0∧v0.ok=true∧q.of v0=some y;rw[PX.if_den]
   cases h1:a.valQ q res with
   | mk g1 v1=>
     cases h2:b.valQ q res with
     | mk g2 v2=>
       rw[h1,h2] at h
       have hgg:g=PX.if' c g1 g2:=by
        cases v1<;>cases v2<;>simp only[Aj] at h<;>exact h.1.symm
       subst hgg;have hg:=(PX.if_den _ _ _).mp hg
       cases c with
       | true=>
         have:v1=some y:=by
          cases v1 with
          |none=>exact absurd (hg.1 rfl) (Nq h1)
          |some v1=>cases v2<;>simp only[Aj,Co] at h<;>exact h.2
         subst this;obtain⟨k1,k2⟩:=Rv h1 (hg.1 rfl);exact⟨⟨fun _=>k1,fun h=>by cases h⟩,k2⟩
       | false=>
         have:v2=some y:=by
          cases v2 with
          |none=>exact absurd (hg.2 rfl) (Nq h2)
          |some v2=>cases v1<;>simp only[Aj,BQ] at h<;>exact h.2
         subst this;obtain⟨k1,k2⟩:=Rv h2 (hg.2 rfl);exact⟨⟨fun h=>(by cases h),fun _=>k1⟩,k2⟩
 | .chk g0 t,g,y,h,hg=>by
   simp only[DT.valQ] at h
   cases h1:t.valQ q res with
   | mk g1 v1=>
     rw[h1] at h;simp only[Aj] at h;obtain⟨rfl,rfl⟩:=h;have hg:=(PX.land_den _ _).mp hg;obtain⟨k1,k2⟩:=Rv h1 hg.2;exact⟨(PX.land_den _ _).mpr ⟨hg.1,k1⟩,k2⟩
 |.bad,g,y,h,hg=>by simp[DT.valQ] at h
def QT.isB:QT→Bool
 |.one (.one _ .bool)=>true
 |_=>false
def OY(f:DFun)(hs:List HT)(q:QT)(x:TuX hs):PX×Option q.D:=
 if q.isB then ((OO f (CK hs x)).1,q.ofO (OO f (CK hs x)).2)
 else (dev f.body ⟨news (CK hs x)++E8 (f.nslots-f.nparams),Fa f.nbox,[]⟩).valQ q f.res
def GG(f:DFun)(hs:List HT)(q:QT)(x:TuX hs):q.D:=(OY f hs q x).2.getD q.dflt
def GB(f:DFun)(hs:List HT)(q:QT)(x:TuX hs):Prop:=(OY f hs q x).1.den
def L8(f:DFun)(hs:List HT)(q:QT)(x:TuX hs):Bool:=(OY f hs q x).2.isSome
def Mk(f:DFun)(hs:List HT)(q:QT):Bool:=hs.length == f.nparams&&(!f.pure||q.flt)
theorem Y5 {f:DFun} {hs:List HT} {q:QT} (ho:AllD f.body.obs) (hst:Mk f hs q=true) (x:TuX hs) (hc:L8 f hs q x=true) (hok:GB f hs q x)
 {Q:PV→List (List PV)→Prop} (hQ:∀ H,Q (q.dv (GG f hs q x)).enc H):DA f.er (DV.encL (CK hs x)) [] Q:=by
 simp only[Mk,Ai,AU,B8,Cv] at hst
 unfold L8 at hc
 unfold GG at hQ
 unfold GB at hok
 unfold OY at hc hQ hok
 by_cases hb:q.isB=true
 · rw[Ab hb] at hc hQ hok
   cases hd:OO f (CK hs x) with
   | mk g o=>
     rw[hd] at hc hQ hok
     cases o with
     |none=>cases hc
     | some w=>
       obtain⟨y,hy⟩:=Option.isSome_iff_exists.mp hc;rw[hy] at hQ;have hy:q.of w=some y:=hy;obtain⟨h1,h2⟩:=VQ hy
       refine jG ho hd hok h2 (by rw[Lw];exact hst.1) (fun hp=>ax (by simpa [hp] using hst.2) hy) fun H=>?_
       have:=hQ H;rw[FD,h1] at this;exact this
 · rw[Ad hb] at hc hQ hok
   cases hd:(dev f.body ⟨news (CK hs x)++E8 (f.nslots-f.nparams),Fa f.nbox,[]⟩).valQ q f.res with
   | mk g o=>
     rw[hd] at hc hQ hok
     cases o with
     |none=>cases hc
     | some y=>
       simp only[FD] at hQ;obtain⟨k1,e,st,v0,k2,k3,k4,k5,k6⟩:=Rv hd hok;obtain⟨h1,h2⟩:=VQ k6;refine⟨by rw[DY,Lw];exact hst.1,fun _=>rfl,?_⟩
       refine Fk f.body ho (d:=⟨news (CK hs x)++E8 (f.nslots-f.nparams),Fa f.nbox,[]⟩) ⟨(EL.news _).append (Nt _),Nw _,trivial⟩ k1 k2 fun s' hs'=>?_
       obtain⟨s2,e2⟩:=Zm hs' k4 k5;rw[← h1] at e2
       have fin:(match Hb s' f.res with|some (v,st)=>if f.pure=true then v.flt=true∧Q v [] else Q v st.hp|none=>False):=by
        rw[e2];simp only;split
        · rename_i hpu;exact⟨by rw[h1];exact Us _ (ax (by simpa [hpu] using hst.2) k6),hQ _⟩
        · exact hQ _
       cases e with
       |normal=>exact fin
       |ret=>exact fin
       |exit i=>exact absurd rfl (k3 i)
theorem X9{f:DFun}{hs:List HT}{q:QT}(ho:AllD f.body.obs)(hst:Mk f hs q=true)(hc:∀ x,L8 f hs q x=true){ok:TuX hs→Prop}{v:TuX hs→q.D}(hok:∀ x,ok x→GB f hs q x)(hv:∀ x,GG f hs q x=v x) :
 Jd (DA f.er) (G6 hs q ok v):=by
 intro args g w Q h hg hQ
 unfold G6 at h
 cases hx:D8 hs args with
 |none=>rw[hx] at h;cases h
 | some x=>
   rw[hx] at h;simp only[Ah,Aj] at h;obtain⟨rfl,rfl⟩:=h;rw[← Kk hx]
   exact Y5 ho hst x (hc x) (hok x hg) fun H=>by rw[hv];exact hQ H
attribute [irreducible] OY GG GB L8 Mk
def Fo:List (Ql×CT)→List (Ql×CT)
 |[]=>[]
 |(.frz,_)::r=>Fo r
 |a::r=>a::Fo r
def GF:List (Ql×CT)→List DV→List DV
 |[],_=>[]
 |(.frz,_)::r,vs=>.any::GF r vs
 |_::r,v::vs=>v::GF r vs
 |_::r,[]=>.any::GF r []
def Kl:List (Ql×CT)→List DC→Option (List DV)
 |[],[]=>some []
 |(.frz,_)::r,c::l=>if c.d then none else Kl r l
 | _::r,c::l=>(match Kl r l with
   |some vs=>some (c.v::vs)
   |none=>none)
 |_,_=>none
def AP:List DV→List DC
 |[]=>[]
 |v::r=>⟨false,v⟩::AP r
def VF(st:DS):List ARes→Option (DV×DS)
 |[r]=>Ic st r
 | rs=>(match Gg st rs with
   |some x=>some (.tup x.1,x.2)
   |none=>none)
def rP(q:QT)(cs:List (Ql×CT))(res:List ARes)(st:DS):Option (q.D×AgX (Fo cs)):=
 match VF st res with
 | some (v,st')=>if v.ok&&!v.hasPtr then (match st'.hp with
   | [blk]=>(match Kl cs blk with
     | some vs=>(match q.of v,Ea (Fo cs) vs with
       |some y,some b=>some (y,b)
       |_,_=>none)
     |none=>none)
   |_=>none) else none
 |none=>none
def rN(cs:List (Ql×CT))(res:List ARes)(st:DS):Option (AgX cs):=
 match VF st res with
 | some (v,st')=>if v.isP0 then (match st'.hp with
   |[blk]=>Ea cs (Bl blk)
   |_=>none) else none
 |none=>none
def DT.valR{α:Type}(R:DS→Option α):DT→PX×Option α
 |.leaf (.exit _) _=>(.ff,none)
 | .leaf _ st=>(match R st with
   |some y=>(.tt,some y)
   |none=>(.ff,none))
 | .node c a b=>(match a.valR R,b.valR R with
   |(g,none),(g',y)=>(PX.if' c g g',y)
   |(g,x),(g',none)=>(PX.if' c g g',x)
   |(g,some x),(g',some y)=>(PX.if' c g g',some (bSel c x y)))
 | .chk g t=>(match t.valR R with
   |(g',v)=>(g.land g',v))
 |.bad=>(.ff,none)
theorem Nr{α:Type}{R:DS→Option α}:∀ {t:DT} {g:PX},t.valR R=(g,none)→¬ g.den
 | .leaf e st,g,h=>by
   cases e<;>simp only[DT.valR] at h<;>(repeat' split at h)<;>simp only[Aj,reduceCtorEq,and_false,LK] at h<;>subst h<;>exact id
 | .node c x y,g,h=>by
   intro hg
   simp only[DT.valR] at h
   cases h1:x.valR R with
   | mk g1 v1=>
     cases h2:y.valR R with
     | mk g2 v2=>
       rw[h1,h2] at h
       cases v1 with
       | none=>
         simp only[Aj] at h
         obtain⟨rfl,rfl⟩:=h
         have:=(PX.if_den _ _ _).mp hg
         cases c with
         |true=>exact Nr h1 (this.1 rfl)
         |false=>exact Nr h2 (this.2 rfl)
       |some v1=>cases v2<;>simp at h
 | .chk g0 t,g,h=>by
   intro hg
   simp only[DT.valR] at h
   cases h1:t.valR R with
   | mk g1 v1=>
     rw[h1] at h
     simp only[Aj] at h
     obtain⟨rfl,rfl⟩:=h
     exact Nr h1 ((PX.land_den _ _).mp hg).2
 | .bad,g,h=>by
   simp only[DT.valR,Aj,LK] at h
   subst h;exact id
theorem Oj{α:Type}{R:DS→Option α}:∀ {t:DT} {g:PX} {y:α},t.valR R=(g,some y)→g.den →
 t.ok.den∧∃ e st,t.lf=some (e,st)∧(∀ i,e≠.exit i)∧R st=some y
 | .leaf e st,g,y,h,hg=>by
   have gen:(match R st with|some y=>(PX.tt,some y)|none=>(PX.ff,none))=(g,some y)→R st=some y:=fun h=>by
    split at h
    · rename_i y' hy;simp only[Aj,Ah] at h;rw[hy,h.2]
    · simp at h
   cases e with
   |exit i=>simp[DT.valR] at h
   |normal=>exact⟨trivial,.normal,st,rfl,by simp,gen h⟩
   |ret=>exact⟨trivial,.ret,st,rfl,by simp,gen h⟩
 | .node c a b,g,y,h,hg=>by
   simp only[DT.valR] at h;show (PX.if' c a.ok b.ok).den∧∃ e st,(DT.node c a b).lf=some (e,st)∧(∀ i,e≠.exit i)∧R st=some y;rw[PX.if_den]
   cases h1:a.valR R with
   | mk g1 v1=>
     cases h2:b.valR R with
     | mk g2 v2=>
       rw[h1,h2] at h
       have hgg:g=PX.if' c g1 g2:=by
        cases v1<;>cases v2<;>simp only[Aj] at h<;>exact h.1.symm
       subst hgg;have hg:=(PX.if_den _ _ _).mp hg
       cases c with
       | true=>
         have:v1=some y:=by
          cases v1 with
          |none=>exact absurd (hg.1 rfl) (Nr h1)
          |some v1=>cases v2<;>simp only[Aj,Co] at h<;>exact h.2
         subst this;obtain⟨k1,k2⟩:=Oj h1 (hg.1 rfl);exact⟨⟨fun _=>k1,fun h=>by cases h⟩,k2⟩
       | false=>
         have:v2=some y:=by
          cases v2 with
          |none=>exact absurd (hg.2 rfl) (Nr h2)
          |some v2=>cases v1<;>simp only[Aj,BQ] at h<;>exact h.2
         subst this;obtain⟨k1,k2⟩:=Oj h2 (hg.2 rfl);exact⟨⟨fun h=>(by cases h),fun _=>k1⟩,k2⟩
 | .chk g0 t,g,y,h,hg=>by
   simp only[DT.valR] at h
   cases h1:t.valR R with
   | mk g1 v1=>
     rw[h1] at h;simp only[Aj] at h;obtain⟨rfl,rfl⟩:=h;have hg:=(PX.land_den _ _).mp hg;obtain⟨k1,k2⟩:=Oj h1 hg.2;exact⟨(PX.land_den _ _).mpr ⟨hg.1,k1⟩,k2⟩
 |.bad,g,y,h,hg=>by simp[DT.valR] at h
theorem RQ{p:DS→Prop}:∀ {t:DT} {e:AExit} {st:DS},t.All p→t.lf=some (e,st)→p st
 | .leaf _ _,_,_,h,hl=>by
   simp only[DT.lf,Ah,Aj] at hl
   obtain⟨_,rfl⟩:=hl;exact h
 | .node c a b,_,_,h,hl=>by
   simp only[DT.lf] at hl
   cases c with
   |true=>exact RQ h.1 hl
   |false=>exact RQ h.2 hl
 |.chk _ t,_,_,h,hl=>RQ (t:=t) h hl
 |.bad,_,_,_,hl=>by cases hl
theorem XJ{st st':DS}{r:ARes}{v:DV}(h:Ic st r=some (v,st')):ChgS st st':=by
 cases r with
 | tmp t=>
   simp only[Ic] at h;split at h
   · simp only[Ah] at h;have:=ChgS.mvOut (.t t) st;simp only[AV,h] at this;exact this
   · cases h
 | cell t n=>
   simp only[Ic] at h;split at h
   · split at h
     · simp only[Bs] at h;obtain⟨⟨g,r⟩,h1,h2⟩:=h;simp only at h2;subst h2;exact XI h1
     · cases h
   · split at h
     · simp only[Bs] at h;obtain⟨⟨g,r⟩,h1,h2⟩:=h;simp only at h2;subst h2;exact XK h1
     · cases h
   · cases h
theorem Xi:∀ {rs:List ARes} {st st':DS} {vs:List DV},Gg st rs=some (vs,st')→ChgS st st'
 | [],st,st',vs,h=>by
   simp only[Gg,Ah,Aj] at h
   rw[h.2];exact ChgS.refl _
 | r :: rs,st,st',vs,h=>by
   simp only[Gg] at h
   split at h
   · rename_i v st1 h1
     split at h
     · rename_i vs1 st2 h2
       simp only[Ah,Aj] at h
       obtain⟨_,rfl⟩:=h
       exact(XJ h1).trans (Xi h2)
     · cases h
   · cases h
theorem Zx{res:List ARes}{st st':DS}{s:PS}{v:DV}(hs:ES st s)(h:VF st res=some (v,st'))(hv:v.ok=true):(∃ s',Hb s res=some (v.enc,s')∧ES st' s')∧ChgS st st':=by
 have gen:∀ {res:List ARes},(match Gg st res with|some x=>some (DV.tup x.1,x.2)|none=>none)=some (v,st')→(∃ s',(Ge s res).map (fun(vs,st)=>(PV.tup vs,st))=some (v.enc,s')∧ES st' s')∧ChgS st st':=fun {res} h=>by
  split at h
  · rename_i x hx;obtain⟨vs,st1⟩:=x;simp only[Ah,Aj] at h;obtain⟨rfl,rfl⟩:=h;obtain⟨s',e1,e2⟩:=TF hs hx hv;exact⟨⟨s',by rw[e1];rfl,e2⟩,Xi hx⟩
  · cases h
 cases res with
 |nil=>exact gen (res:=[]) h
 | cons r rs=>
   cases rs with
   |nil=>exact⟨TT hs h hv,XJ h⟩
   |cons r2 rs=>exact gen (res:=r::r2::rs) h
theorem Nc:∀ {l:List (Ql×CT)} {vs:List DV} {x:AgX l},Ea l vs=some x→(∀ v∈vs,v≠.any)∧∀ v∈Cp l x,v≠.any
 |[],[],_,_=>⟨by simp,by simp[Cp]⟩
 | [a],[v],x,h=>by
   obtain⟨h1,h2⟩:=Oi (q:=a.1) (t:=a.2) h;refine⟨by simpa using h2,fun w hw=>?_⟩;have hw:w∈[a.2.dv a.1 x]:=hw;rw[List.mem_singleton] at hw;subst hw;exact dv_known _ _ _
 | a :: b::r,v::vs,x,h=>by
   have h':(match a.2.ofQ a.1 v,Ea (b::r) vs with|some x,some y=>some (x,y)|_,_=>none)=some x:=h;clear h
   cases h1:a.2.ofQ a.1 v with
   |none=>rw[h1] at h';cases h'
   | some p=>
     cases h2:Ea (b::r) vs with
     |none=>rw[h1,h2] at h';cases h'
     | some q=>
       rw[h1,h2] at h';have h':=Ck h';subst h';obtain⟨k1,k2⟩:=Nc h2;refine⟨fun w hw=>?_,fun w hw=>?_⟩
       · rcases BM.mp hw with rfl|hw
         · exact(Oi h1).2
         · exact k1 w hw
       · have hw:w∈a.2.dv a.1 p::Cp (b::r) q:=hw;rcases BM.mp hw with rfl|hw
         · exact dv_known _ _ _
         · exact k2 w hw
  where dv_known (q:Ql) (t:CT) (x:t.D):t.dv q x≠.any:=by cases t<;>simp[CT.dv]
theorem XN:∀ (l:List (Ql×CT)) (x:AgX l),(∀ v∈Cp l x,v≠.any)∧(Cp l x).length=l.length
 |[],_=>⟨by simp[Cp],rfl⟩
 |[a],x=>⟨fun w hw=>by
  have hw:w∈[a.2.dv a.1 x]:=hw
  rw[List.mem_singleton] at hw
  subst hw
  exact Nc.dv_known _ _ _,rfl⟩
 | a :: b::r,x=>by
   obtain⟨h1,h2⟩:=XN (b::r) x.2
   refine⟨fun w hw=>?_,?_⟩
   · have hw:w∈a.2.dv a.1 x.1::Cp (b::r) x.2:=hw
     rcases BM.mp hw with rfl|hw
     · exact Nc.dv_known _ _ _
     · exact h1 w hw
   · show (Cp (b::r) x.2).length+1=(b::r).length+1
     rw[h2]
theorem TJ:∀ (cs:List (Ql×CT)) {blk:List DV} {blk':List DC} {p:List PV} {vs w:List DV},EL blk' p→Chg (AP blk) blk'→Kl cs blk'=some vs→DV.encL w=DV.encL vs→(∀ v∈vs,v≠.any)→(∀ v∈w,v≠.any) →
 blk.length=cs.length→(∀ v∈blk,v≠.any)→p=DV.encL (Eu blk (GF cs w))
 | [],blk,blk',p,vs,w,he,hc,hp,hw,hv,hvw,hl,hb=>by
   have:blk=[]:=Ek hl;subst this
   cases blk' with
   | nil=>cases p with
     |nil=>rfl
     |cons=>exact he.elim
   |cons=>cases hp
 | (q, t)::r,blk,blk',p,vs,w,he,hc,hp,hw,hv,hvw,hl,hb=>by
   cases blk with
   |nil=>cases hl
   |cons v0 blk=>
   cases blk' with
   |nil=>cases q<;>cases hp
   |cons c l=>
   cases p with
   |nil=>exact he.elim
   |cons x p=>
   have hl':blk.length=r.length:=by simpa using hl
   have hb':∀ v∈blk,v≠.any:=fun v hv=>hb v (List.mem_cons_of_mem _ hv)
   by_cases hq:q= .frz
   · subst hq;have hp:(if c.d then none else Kl r l)=some vs:=hp;split at hp
     · cases hp
     · rename_i hd;have hc1:c=⟨false,v0⟩:=hc.1.resolve_left hd
       have hx:x=v0.enc:=by
        rcases he.1 with h|h
        · rw[hc1] at h;exact absurd h (hb v0 (Kh ..))
        · rw[h,hc1]
       show x::p=v0.enc::DV.encL (Eu blk (GF r w));rw[hx,TJ r he.2 hc.2 hp hw hv hvw hl' hb']
   · have hp':(match Kl r l with|some vs=>some (c.v::vs)|none=>none)=some vs:=by
      cases q<;>first|exact absurd rfl hq|exact hp
     cases hpr:Kl r l with
     |none=>rw[hpr] at hp';cases hp'
     | some vs1=>
       rw[hpr] at hp';have hp':=Ck hp';subst hp'
       cases w with
       |nil=>cases hw
       |cons w0 w=>
       simp only[DV.encL,Fe] at hw
       have hx:x=w0.enc:=by
        rcases he.1 with h|h
        · exact absurd h (hv c.v (Kh ..))
        · rw[h,hw.1]
       have hw0:w0.isAny=false:=by
        have:=hvw w0 (Kh ..)
        cases w0<;>first|rfl|exact absurd rfl this
       have e:GF ((q,t)::r) (w0::w)=w0::GF r w:=by cases q<;>first|exact absurd rfl hq|rfl
       rw[e];simp only[Eu,hw0,AG,AR,DV.encL];rw[hx,TJ r he.2 hc.2 hpr hw.2 (fun v h=>hv v (List.mem_cons_of_mem _ h)) (fun v h=>hvw v (List.mem_cons_of_mem _ h)) hl' hb']
def OW(f:DFun)(hs:List HT)(cs:List (Ql×CT))(q:QT)(x:TuX (.agg cs::hs)):PX×Option (q.D×AgX (Fo cs)):=
 match CK (.agg cs::hs) x with
 |.agg blk::r=>(dev f.body ⟨news (.ptr 0 0::r)++E8 (f.nslots-f.nparams),Fa f.nbox,[AP blk]⟩).valR (rP q cs f.res)
 |_=>(.ff,none)
def Kz(f:DFun)(hs:List HT)(cs:List (Ql×CT))(q:QT)(x:TuX (.agg cs::hs)):q.D×AgX (Fo cs):=(OW f hs cs q x).2.getD (q.dflt,RE (Fo cs))
def Ko(f:DFun)(hs:List HT)(cs:List (Ql×CT))(q:QT)(x:TuX (.agg cs::hs)):Prop:=(OW f hs cs q x).1.den
def Vf(f:DFun)(hs:List HT)(cs:List (Ql×CT))(q:QT)(x:TuX (.agg cs::hs)):Bool:=(OW f hs cs q x).2.isSome
def VK(f:DFun)(hs:List HT)(cs:List (Ql×CT)):Bool:=hs.length+1 == f.nparams&&!f.pure&&Nat.blt 0 cs.length
def LP(hs:List HT)(cs:List (Ql×CT))(q:QT)(ok:TuX (.agg cs::hs)→Prop)(v:TuX (.agg cs::hs)→q.D×AgX (Fo cs)):Er:=fun args b=>match args,b with
 | a::r,[blk]=>if a.isP0 then (match D8 (.agg cs::hs) (.agg blk::r) with
   |some x=>some (.p (ok x),q.dv (v x).1,[GF cs (Cp (Fo cs) (v x).2)])
   |none=>none) else none
 |_,_=>none
theorem lr(cs:List (Ql×CT))(hs:List HT)(x:TuX (.agg cs::hs)):∃ r b,CK (.agg cs::hs) x= .agg (Cp cs b)::r:=by
 cases hs with
 |nil=>exact⟨[],x,rfl⟩
 |cons a r=>exact⟨CK (a::r) x.2,x.1,rfl⟩
theorem ZA:∀ (l:List DV),EL (AP l) (DV.encL l)
 |[]=>trivial
 |_::r=>⟨.inr rfl,ZA r⟩
theorem Qi {f : DFun} {hs : List HT} {cs:List (Ql×CT)} {q:QT} (ho:AllD f.body.obs) (hst:VK f hs cs=true) (hc:∀ x,Vf f hs cs q x=true) {ok:TuX (.agg cs::hs)→Prop} {v:TuX (.agg cs::hs)→q.D×AgX (Fo cs)} (hok:∀ x,ok x→Ko f hs cs q x) (hv:∀ x,Kz f hs cs q x=v x) :
 G0 (DA f.er) (LP hs cs q ok v):=by
 intro args b g w H Q h hg hQ
 simp only[VK,Ai,AU,Cv] at hst
 unfold LP at h
 split at h
 · rename_i a r blk
   split at h
   · rename_i ha
     have ha:a= .ptr 0 0:=by unfold DV.isP0 at ha;split at ha<;>first|rfl|cases ha
     subst ha
     cases hx:D8 (.agg cs::hs) (.agg blk::r) with
     |none=>rw[hx] at h;cases h
     | some x=>
       rw[hx] at h;simp only[Ah,Aj] at h;obtain⟨rfl,rfl,rfl⟩:=h;have he:=Kk hx;obtain⟨r',b,hd⟩:=lr cs hs x;rw[hd] at he;simp only[DV.encL,DV.enc,Fe,PV.agg.injEq] at he
       have hlr:r'.length=hs.length:=by
        have:=Lw (.agg cs::hs) x;rw[hd] at this;simpa using this
       have hc:=hc x;have hok:=hok x hg;unfold Vf at hc;unfold Ko at hok;have hvx:=hv x;unfold Kz at hvx;unfold OW at hc hok hvx;rw[hd] at hc hok hvx;simp only at hc hok hvx
       cases hdd:(dev f.body ⟨news (.ptr 0 0::r')++E8 (f.nslots-f.nparams),Fa f.nbox,[AP (Cp cs b)]⟩).valR (rP q cs f.res) with
       | mk g o=>
         rw[hdd] at hc hok hvx
         cases o with
         |none=>cases hc
         | some y=>
           simp only[FD] at hvx;obtain⟨k1,e,st,k2,k3,k4⟩:=Oj hdd hok;have hchg:ChgS _ st:=RQ (Gh f.body _) k2;show DA f.er (PV.ptr 0 0::DV.encL r) [DV.encL blk] Q;rw[← he.1,← he.2];refine⟨by simp only[Ar,DY,hlr];exact hst.1.1,fun hp=>absurd hp (by simp[DFun.er,hst.1.2]),?_⟩
           refine Fk f.body ho (d:=⟨news (.ptr 0 0::r')++E8 (f.nslots-f.nparams),Fa f.nbox,[AP (Cp cs b)]⟩) (s:=⟨DV.encL (.ptr 0 0::r')++Gx (f.nslots-f.nparams),Ik f.nbox,[DV.encL (Cp cs b)]⟩) ⟨(EL.news _).append (Nt _),Nw _,.inr (ZA _),trivial⟩ k1 k2 fun s' hs'=>?_
           unfold rP at k4;split at k4
           · rename_i v0 st' hr; split at k4
             · rename_i hv0; simp only[Ai,Cv] at hv0;split at k4
               · rename_i blk' hblk;split at k4
                 · rename_i vs hvs;split at k4
                   · rename_i y0 b0 hy0 hb0;simp only[Ah] at k4;subst k4;obtain⟨⟨s2,e2,e3⟩,hch2⟩:=Zx hs' hr hv0.1;have hch:=(hchg.trans hch2).hp;have e4:=e3.hp;rw[hblk] at hch e4
                     cases hp2:s2.hp with
                     |nil=>rw[hp2] at e4;exact e4.elim
                     | cons p l=>
                       rw[hp2] at e4
                       have hl0:l=[]:=by cases l<;>first|rfl|exact e4.2.elim
                       subst hl0
                       have hne:0<blk'.length:=by
                        cases blk' with
                        | nil=>cases cs with
                          |nil=>exact absurd hst.2 (by decide)
                          |cons a cs=>obtain⟨q0,t0⟩:=a;cases q0<;>cases hvs
                        |cons=>simp
                       have hEL:=e4.1.to hne;obtain⟨kn1,kn2⟩:=Nc hb0;obtain⟨kb1,kb2⟩:=XN cs b;have hpb:=TJ cs hEL hch.1 hvs (R7 hb0) kn1 kn2 kb2 kb1;obtain⟨h1,_⟩:=VQ hy0
                       have hQ':Q (q.dv y0).enc (Fh (Hh [blk] [GF cs (Cp (Fo cs) b0)])):=by
                        have:=hQ;rw[← hvx] at this;exact this
                       have hmix : DV.encL (Eu (Cp cs b) (GF cs (Cp (Fo cs) b0)))=DV.encL (Eu blk (GF cs (Cp (Fo cs) b0))):=by
                        have:∀ (a c l:List DV),DV.encL a=DV.encL c→DV.encL (Eu a l)=DV.encL (Eu c l):=by
                         intro a
                         induction a with
                         | nil=>intro c l h;cases c with
                           |nil=>rfl
                           |cons=>cases h
                         | cons x a ih=>
                           intro c l h
                           cases c with
                           |nil=>cases h
                           | cons z c=>
                             simp only[DV.encL,Fe] at h
                             cases l with
                             |nil=>simp only[Eu,DV.encL,h.1,h.2]
                             | cons w l=>
                               simp only[Eu,DV.encL,ih c l h.2];by_cases hw:w.isAny=true
                               · rw[Ab hw,Ab hw,h.1]
                               · rw[Ad hw,Ad hw]
                        exact this _ _ _ he.1
                       have fin:(match Hb s' f.res with|some (v,st)=>if f.pure=true then v.flt=true∧Q v [] else Q v st.hp|none=>False):=by
                        rw[e2];simp only[hst.1.2,AG,AR,hp2];rw[← h1,hpb,hmix];exact hQ'
                       cases e with
                       |normal=>exact fin
                       |ret=>exact fin
                       |exit i=>exact absurd rfl (k3 i)
                   · cases k4
                 · cases k4
               · cases k4
             · cases k4
           · cases k4
   · cases h
 · cases h
def OV(f:DFun)(hs:List HT)(cs:List (Ql×CT))(x:TuX hs):PX×Option (AgX cs):=
 (dev f.body ⟨news (CK hs x)++E8 (f.nslots-f.nparams),Fa f.nbox,[]⟩).valR (rN cs f.res)
def OS(f:DFun)(hs:List HT)(cs:List (Ql×CT))(x:TuX hs):AgX cs:=(OV f hs cs x).2.getD (RE cs)
def OA(f:DFun)(hs:List HT)(cs:List (Ql×CT))(x:TuX hs):Prop:=(OV f hs cs x).1.den
def Vh(f:DFun)(hs:List HT)(cs:List (Ql×CT))(x:TuX hs):Bool:=(OV f hs cs x).2.isSome
def VP(f:DFun)(hs:List HT)(cs:List (Ql×CT)):Bool:=hs.length == f.nparams&&!f.pure&&Nat.blt 0 cs.length
def Q1(hs:List HT)(cs:List (Ql×CT))(ok:TuX hs→Prop)(v:TuX hs→AgX cs):Er:=fun args b=>match b with
 | []=>(match D8 hs args with
   |some x=>some (.p (ok x),.ptr 0 0,[Cp cs (v x)])
   |none=>none)
 |_=>none
theorem YG:∀ {l:List (Ql×CT)} {vs:List DV} {x:AgX l},Ea l vs=some x→vs.length=l.length
 |[],[],_,_=>rfl
 |[a],[v],x,h=>rfl
 | a :: b::r,v::vs,x,h=>by
   have h':(match a.2.ofQ a.1 v,Ea (b::r) vs with|some x,some y=>some (x,y)|_,_=>none)=some x:=h
   cases h1:a.2.ofQ a.1 v with
   |none=>rw[h1] at h';cases h'
   | some p=>
     cases h2:Ea (b::r) vs with
     |none=>rw[h1,h2] at h';cases h'
     | some q=>
       have:=YG h2
       simp only[Ar] at this ⊢
       omega
theorem XE {f : DFun} {hs:List HT} {cs:List (Ql×CT)} (ho:AllD f.body.obs) (hst:VP f hs cs=true) (hc:∀ x,Vh f hs cs x=true) {ok:TuX hs→Prop} {v:TuX hs→AgX cs} (hok:∀ x,ok x→OA f hs cs x) (hv:∀ x,OS f hs cs x=v x) :
 G0 (DA f.er) (Q1 hs cs ok v):=by
 intro args b g w H Q h hg hQ
 simp only[VP,Ai,AU,Cv] at hst
 unfold Q1 at h
 split at h
 · cases hx : D8 hs args with
   |none=>rw[hx] at h;cases h
   | some x=>
     rw[hx] at h;simp only[Ah,Aj] at h;obtain⟨rfl,rfl,rfl⟩:=h;have he:=Kk hx;have hc:=hc x;have hok:=hok x hg;have hvx:=hv x;unfold Vh at hc;unfold OA at hok;unfold OS at hvx;unfold OV at hc hok hvx
     cases hdd:(dev f.body ⟨news (CK hs x)++E8 (f.nslots-f.nparams),Fa f.nbox,[]⟩).valR (rN cs f.res) with
     | mk g o=>
       rw[hdd] at hc hok hvx
       cases o with
       |none=>cases hc
       | some y=>
         simp only[FD] at hvx;obtain⟨k1,e,st,k2,k3,k4⟩:=Oj hdd hok;show DA f.er (DV.encL args) [] Q;rw[← he];refine⟨by rw[DY,Lw];exact hst.1.1,fun hp=>absurd hp (by simp[DFun.er,hst.1.2]),?_⟩
         refine Fk f.body ho (d:=⟨news (CK hs x)++E8 (f.nslots-f.nparams),Fa f.nbox,[]⟩) ⟨(EL.news _).append (Nt _),Nw _,trivial⟩ k1 k2 fun s' hs'=>?_
         unfold rN at k4;split at k4
         · rename_i v0 st' hr;split at k4
           · rename_i hv0
             have hv0:v0= .ptr 0 0:=by unfold DV.isP0 at hv0;split at hv0<;>first|rfl|cases hv0
             subst hv0;split at k4
             · rename_i blk' hblk;obtain⟨⟨s2,e2,e3⟩,_⟩:=Zx hs' hr rfl;have e4:=e3.hp;rw[hblk] at e4
               cases hp2:s2.hp with
               |nil=>rw[hp2] at e4;exact e4.elim
               | cons p l=>
                 rw[hp2] at e4
                 have hl0:l=[]:=by cases l<;>first|rfl|exact e4.2.elim
                 subst hl0
                 have hne:0<blk'.length:=by
                  have:=YG k4;rw[NG] at this;have:=Cm hst.2;omega
                 have hEL:=e4.1.to hne;obtain⟨kn1,_⟩:=Nc k4
                 have hpe:p=DV.encL (Bl blk'):=by
                  have:∀ {a:List DC} {b:List PV},EL a b→(∀ v∈Bl a,v≠.any)→b=DV.encL (Bl a):=by
                   intro a
                   induction a with
                   |nil=>intro b h _;cases b<;>first|rfl|exact h.elim
                   | cons c a ih=>
                     intro b h hk
                     cases b with
                     |nil=>exact h.elim
                     | cons x b=>
                       simp only[Bl,DV.encL];rcases h.1 with h1|h1
                       · exact absurd h1 (hk _ (Kh ..))
                       · rw[h1,ih h.2 fun v hv=>hk v (List.mem_cons_of_mem _ hv)]
                  exact this hEL kn1
                 have hQ':Q (.ptr 0 0) [DV.encL (Cp cs y)]:=by
                  have:=hQ;rw[← hvx] at this;exact this
                 have fin:(match Hb s' f.res with|some (v,st)=>if f.pure=true then v.flt=true∧Q v [] else Q v st.hp|none=>False):=by
                  rw[e2];simp only[hst.1.2,AG,AR,hp2];rw[hpe,← R7 k4];exact hQ'
                 cases e with
                 |normal=>exact fin
                 |ret=>exact fin
                 |exit i=>exact absurd rfl (k3 i)
             · cases k4
           · cases k4
         · cases k4
 · cases h
attribute [irreducible] OW Kz Ko Vf VK OV OS OA Vh VP
open Go.RowKit Go.WideShapes Go.ChangeShapes
inductive Ty where
 |int (k:IntKind)
 |bool
 |str
 |sl (t:Ty)
 |unit
 |pair (a b:Ty)
def Ty.w:Ty→Nat
 |.int _|.bool|.str|.sl _=>1
 |.unit=>0
 |.pair a b=>a.w+b.w
def OL(P:Program)(f:TypeId→Option Ty):List Field→Nat→Option Ty
 |[],_=>some .unit
 | g::r,off=>
   match f g.type with
   |some a=>if g.offset=off∧a.w=P.cellsOf g.type then (match OL P f r (off+a.w) with|some b=>some (.pair a b)|none=>none) else none
   |none=>none
def Hr(P:Program):Nat→TypeId→Option Ty
 |0,_=>none
 | d+1,t=>
   match P.underlying t with
   |some (.int k)=>some (.int k)
   |some .bool=>some .bool
   |some .string=>some .str
   |some (.slice e)=>(match Hr P d e with|some te=>if te.w=P.cellsOf e∧0<te.w then some (.sl te) else none|none=>none)
   |some (.struct fs)=>(match OL P (Hr P d) fs.toList 0 with|some ty=>if ty.w=P.cellsOf t then some ty else none|none=>none)
   |_=>none
def Sh(σ:Ac):Ty→List V→Prop
 |.int k,cs=>∃ n,cs=[.int k n]∧(Lit.int k n).wf=true
 |.bool,cs=>∃ b,cs=[.bool b]
 |.str,cs=>∃ s,cs=[.str s]∧s.length≤maxLen
 |.sl t,cs=>cs=[.nils]∨∃ (l n:Nat) (bs:List V),cs=[.slice l 0 n]∧σ[l]?=some ⟨.ro,t.w,bs⟩∧bs.length=n*t.w∧n≤maxLen∧∀ i,i<n→Sh σ t ((bs.drop (i*t.w)).take t.w)
 |.unit,cs=>cs=[]
 |.pair a b,cs=>∃ xs ys,cs=xs++ys∧Sh σ a xs∧Sh σ b ys
theorem Sh.len{σ:Ac}:∀ {ty:Ty} {cs:List V},Sh σ ty cs→cs.length=ty.w
 |.int _,_,⟨_,h,_⟩=>by rw[h];rfl
 |.bool,_,⟨_,h⟩=>by rw[h];rfl
 |.str,_,⟨_,h,_⟩=>by rw[h];rfl
 |.sl _,_,h=>by rcases h with h|⟨_,_,_,h,_⟩<;>rw[h]<;>rfl
 |.unit,_,h=>by rw[h];rfl
 |.pair a b,_,⟨xs,ys,h,h1,h2⟩=>by rw[h,Ba,h1.len,h2.len];rfl
theorem Sh.mono{σ e:Ac}:∀ {ty:Ty} {cs:List V},Sh σ ty cs→Sh (σ++e) ty cs
 |.int _,_,h=>h
 |.bool,_,h=>h
 |.str,_,h=>h
 | .sl _,_,h=>by
   rcases h with h|⟨l,n,bs,h,h1,h2,h3,h4⟩
   · exact .inl h
   · exact .inr ⟨l,n,bs,h,by rw[Bh (BP h1)];exact h1,h2,h3,fun i hi=>(h4 i hi).mono⟩
 |.unit,_,h=>h
 |.pair _ _,_,⟨xs,ys,h,h1,h2⟩=>⟨xs,ys,h,h1.mono,h2.mono⟩
def Dv(σ:Ac):Prop:=∀ (l:Nat) (b:Blk),σ[l]?=some b→b.k= .ro
def Ow(ι:An)(σ:Ac)(W:World)(ty:Ty)(cs:List Value):Prop:=
 ∃ ι' e vs,HRel ι' (σ++e) W∧Keeps ι σ ι' (σ++e)∧Dv (σ++e)∧Sh (σ++e) ty vs∧vs.length=cs.length∧∀ (i:Nat) v x,vs[i]?=some v→cs[i]?=some x→v.cell=true∧∀ β,Rel ι' (σ++e) β v x
theorem HRel.lay{ι:An}{σ:Ac}{W:World}(h:HRel ι σ W)(hro:Dv σ){b off c:Nat}{wd:Nat}{bs:List V}(hb:b<W.heap.size)(hc:∀ (i:Nat) v,bs[i]?=some v→v.cell=true∧∃ x,W.cell? ⟨b,off+i,none⟩=some x∧∀ β,Rel ι σ β v x) :
 HRel (upd ι σ.length ⟨b,off,c⟩) (σ++[⟨.ro,wd,bs⟩]) W∧Dv (σ++[⟨.ro,wd,bs⟩]):=by
 have K:=Nh ι σ ⟨b,off,c⟩ ⟨.ro,wd,bs⟩
 have hall:Dv (σ++[⟨.ro,wd,bs⟩]):=by
  intro l blk hl;rcases EG hl with⟨_,hl⟩|⟨_,rfl⟩
  · exact hro l blk hl
  · rfl
 refine⟨⟨fun l blk hl hk i v hv=>?_,fun l blk hl hk=>?_,fun l l' blk blk' hne hl hl' hk hk'=>?_,fun l blk hl hk=>?_⟩,hall⟩
 · rcases EG hl with⟨hlt,hl⟩|⟨rfl,rfl⟩
   · rw[CG _ _ _ _ (by omega)];obtain⟨a,x,b',c⟩:=h.cells l blk hl hk i v hv;exact⟨a,x,b',fun β=>(c β).cellMono K a⟩
   · rw[BN];obtain⟨a,x,b',c⟩:=hc i v hv;exact⟨a,x,b',fun β=>(c β).cellMono K a⟩
 · have:=hall l blk hl;rw[hk] at this;cases this
 · have:=hall l blk hl;rw[hk] at this;cases this
 · rcases EG hl with⟨hlt,hl⟩|⟨rfl,rfl⟩
   · rw[CG _ _ _ _ (by omega)];exact h.there l blk hl hk
   · rw[BN];exact hb
theorem ga{w:World}{a:Addr}{v:Value}(h:w.cell? a=some v):a.block<w.heap.size:=by
 unfold World.cell? at h;rcases A9 a.block w.heap.size with h1|h1
 · exact h1
 · rw[Array.getElem?_eq_none h1] at h;cases h
theorem Rw{α:Type}{l:List α}{i:Nat}{v:α}(h:l[i]?=some v):i<l.length:=by
 rcases A9 i l.length with h1|h1
 · exact h1
 · rw[Bg h1] at h;cases h
section
variable {H:Type} {enc:TypeId×Value→H} {P:Program} {W:World}
theorem W4(d:Nat)(ih:∀ (t:TypeId)(ty:Ty),Hr P d t=some ty→∀ (fuel:Nat)(cs:List Value) x,DataW.trod enc P W 0 (fun _=>true) true fuel t cs=some x→∀ (ι:An)(σ:Ac),HRel ι σ W→Dv σ→Ow ι σ W ty cs) :
 ∀ (fs:List Field) (off:Nat) (ty:Ty),OL P (Hr P d) fs off=some ty→∀ (fuel:Nat) (cs:List Value),(∀ g∈fs,∃ x,DataW.trod enc P W 0 (fun _=>true) true fuel g.type ((cs.drop g.offset).take (P.cellsOf g.type))=some x) →
   off+ty.w=cs.length→∀ (ι:An) (σ:Ac),HRel ι σ W→Dv σ→Ow ι σ W ty (cs.drop off)
 | [],off,ty,h,fuel,cs,_,hl,ι,σ,H,hro=>by
   simp only[OL,Ah] at h;subst h;simp only[Ty.w,Ej] at hl
   have:cs.drop off=[]:=by rw[hl];simp
   rw[this];exact⟨ι,[],[],by simpa using H,by simpa using Keeps.refl ι σ,by simpa using hro,rfl,rfl,by simp⟩
 | g :: r, off,ty,h,fuel,cs,hg,hl,ι,σ,H,hro=>by
   simp only[OL] at h;split at h
   · rename_i a ha;split at h
     · rename_i hc;obtain⟨h1,h2⟩:=hc;split at h
       · rename_i b hb;cases h;simp only[Ty.w] at hl;obtain⟨x,hx⟩:=hg g (by simp);rw[h1] at hx;obtain⟨ι1,e1,vs1,H1,K1,R1,S1,L1,C1⟩:=ih g.type a ha fuel _ x hx ι σ H hro;obtain⟨ι2,e2,vs2,H2,K2,R2,S2,L2,C2⟩:=W4 d ih r (off+a.w) b hb fuel cs (fun g' hg'=>hg g' (by simp[hg'])) (by omega) ι1 (σ++e1) H1 R1;refine⟨ι2,e1++e2,vs1++vs2,by rw[← BH];exact H2,by rw[← BH];exact K1.trans K2,by rw[← BH];exact R2,⟨vs1,vs2,rfl,by rw[← BH];exact S1.mono,by rw[← BH];exact S2⟩,?_,fun i v y hv hy=>?_⟩
         · rw[Ba,L1,L2];simp;omega
         · have hl1:vs1.length=a.w:=S1.len;by_cases hi:i<vs1.length
           · rw[Bh hi] at hv
             have hy':((cs.drop off).take (P.cellsOf g.type))[i]?=some y:=by
              rw[Gr,Ab (by omega)];exact hy
             obtain⟨q1,q2⟩:=C1 i v y hv hy';exact⟨q1,fun β=>by rw[← BH];exact(q2 β).cellMono K2 q1⟩
           · rw[Cu (by omega)] at hv
             have hy':(cs.drop (off+a.w))[i-vs1.length]?=some y:=by
              rw[Gm] at hy ⊢
              have:off+a.w+(i-vs1.length)=off+i:=by omega
              rw[this];exact hy
             obtain⟨q1,q2⟩:=C2 _ v y hv hy';exact⟨q1,fun β=>by rw[← BH];exact q2 β⟩
       · cases h
     · cases h
   · cases h
theorem ZV{b o:Nat}(n:Nat):Addr.add ⟨b,o,none⟩ n=⟨b,o+n,none⟩:=by
 unfold Addr.add;split
 · rename_i h;subst h;rfl
 · rfl
theorem Xp {d:Nat} (ih:∀ (t:TypeId) (ty:Ty),Hr P d t=some ty→∀ (fuel:Nat) (cs:List Value) x,DataW.trod enc P W 0 (fun _=>true) true fuel t cs=some x→∀ (ι:An) (σ:Ac),HRel ι σ W→Dv σ→Ow ι σ W ty cs)
 {e:TypeId} {te:Ty} (hte:Hr P d e=some te) (hw:te.w=P.cellsOf e) {fuel b o:Nat} :
 ∀ (n:Nat),(∀ i,i<n→∃ cs x,W.cells? 0 ⟨b,o+i*te.w,none⟩ te.w=some cs∧DataW.trod enc P W 0 (fun _=>true) true fuel e cs=some x)→∀ (ι:An) (σ:Ac),HRel ι σ W→Dv σ →
   ∃ (ι':An) (ext:Ac) (bs:List V),HRel ι' (σ++ext) W∧Keeps ι σ ι' (σ++ext)∧Dv (σ++ext)∧bs.length=n*te.w∧(∀ i,i<n→Sh (σ++ext) te ((bs.drop (i*te.w)).take te.w)) ∧
     ∀ (j:Nat) v,bs[j]?=some v→v.cell=true∧∃ x,W.cell? ⟨b,o+j,none⟩=some x∧∀ β,Rel ι' (σ++ext) β v x
 |0,_,ι,σ,H0,hro=>⟨ι,[],[],by simpa using H0,by simpa using Keeps.refl ι σ,by simpa using hro,by simp,fun i hi=>absurd hi (Ve i),by simp⟩
 | n + 1,hn,ι,σ,H0,hro=>by
   obtain⟨ι1,e1,bs,H1,K1,R1,L1,S1,C1⟩:=Xp ih hte hw n (fun i hi=>hn i (Nat.lt_succ_of_lt hi)) ι σ H0 hro;obtain⟨cs,x,hc,hx⟩:=hn n (UZ n);obtain⟨ι2,e2,vs,H2,K2,R2,S2,L2,C2⟩:=ih e te hte fuel cs x hx ι1 (σ++e1) H1 R1;obtain⟨_,hcl,hcg⟩:=World.cells?_some hc;refine⟨ι2,e1++e2,bs++vs,by rw[← BH];exact H2,by rw[← BH];exact K1.trans K2,by rw[← BH];exact R2,?_,fun i hi=>?_,fun j v hv=>?_⟩
   · rw[Ba,L1,L2,hcl,Kj]
   · rw[← BH];by_cases h:i<n
     · have h1:(i+1)*te.w≤n*te.w:=G8 _ h;rw[Kj] at h1
       have:((bs++vs).drop (i*te.w)).take te.w=(bs.drop (i*te.w)).take te.w:=by
        rw[List.drop_append_of_le_length (by omega),List.take_append_of_le_length (by rw[BF];omega)]
       rw[this];exact(S1 i h).mono
     · have:i=n:=by omega
       subst this
       have:((bs++vs).drop (i*te.w)).take te.w=vs:=by
        rw[← L1,List.drop_left,FL (by omega)]
       rw[this];exact S2
   · by_cases h:j<bs.length
     · rw[Bh h] at hv;obtain⟨q1,y,q2,q3⟩:=C1 j v hv;exact⟨q1,y,q2,fun β=>by rw[← BH];exact(q3 β).cellMono K2 q1⟩
     · rw[Cu (by omega)] at hv;have hlt:=Rw hv
       have hlt':j-bs.length<te.w:=by rw[← hcl,← L2];exact hlt
       have hg:=hcg (j-bs.length) hlt';rw[ZV] at hg
       have e0:o+n*te.w+(j-bs.length)=o+j:=by omega
       rw[e0] at hg;obtain⟨y,hy⟩:∃ y,cs[j-bs.length]?=some y:=⟨_,Ay (by omega)⟩;obtain⟨q1,q2⟩:=C2 _ v y hv hy;exact⟨q1,y,hg.trans hy,fun β=>by rw[← BH];exact q2 β⟩
theorem SW:∀ (d:Nat) (t:TypeId) (ty:Ty),Hr P d t=some ty→∀ (fuel:Nat) (cs:List Value) x,DataW.trod enc P W 0 (fun _=>true) true fuel t cs=some x→∀ (ι:An) (σ:Ac),HRel ι σ W→Dv σ→Ow ι σ W ty cs
 |0,_,_,h=>by simp[Hr] at h
 | d + 1, t, ty,h=>by
   intro fuel cs x hx ι σ H0 hro
   have one:∀ (v:V) (y:Value),cs=[y]→v.cell=true→(∀ β,Rel ι σ β v y)→Sh σ ty [v]→Ow ι σ W ty cs:=by
    intro v y hc hv hr hs;refine⟨ι,[],[v],by simpa using H0,by simpa using Keeps.refl ι σ,by simpa using hro,by simpa using hs,by rw[hc];rfl,fun i u z hu hz=>?_⟩;rw[hc] at hz
    cases i with
    |zero=>simp at hu hz;subst hu;subst hz;exact⟨hv,by simpa using hr⟩
    |succ i=>simp at hu
   unfold Hr at h;split at h
   · rename_i k hu;cases h;obtain⟨n,hc,_,hwf⟩:=DataW.trod_int hu hx;exact one (.int k n) _ hc rfl (fun β=>.int k n) ⟨n,rfl,hwf⟩
   · rename_i hu;cases h;obtain⟨b,hc,_⟩:=DataW.trod_bool hu hx;exact one (.bool b) _ hc rfl (fun β=>.bool b) ⟨b,rfl⟩
   · rename_i hu;cases h;obtain⟨s,hc,_,hwf⟩:=DataW.trod_string hu hx;exact one (.str s.data.toList) _ hc rfl (fun β=>by have:=Rel.str (ι:=ι) (σ:=σ) (β:=β) s.data.toList;simpa using this) ⟨s.data.toList,rfl,by simpa using hwf⟩
   · rename_i e hu;split at h
     · rename_i te hte;split at h
       · rename_i hw;obtain⟨hw,hpos⟩:=hw;cases h;rcases DataW.trod_slice hu hx with⟨hc,_⟩|⟨a,len,cap,elems,rest,n,_,hc,_,_,hle,hcap,hel,hE,hR,_⟩
         · exact one .nils _ hc rfl (fun β=>.nils none) (.inl rfl)
         · obtain⟨hrl,hR⟩:=hR rfl
           have hcell:∀ i,i<cap→∃ cs' y,W.cells? 0 (a.add (i*P.cellsOf e)) (P.cellsOf e)=some cs'∧DataW.trod enc P W 0 (fun _=>true) true n e cs'=some y:=by
            intro i hi;by_cases h:i<len
            · have h1:=hE i h;obtain⟨y,hy⟩:∃ y,elems[i]?=some y:=⟨_,Ay (by omega)⟩;rw[hy,BG] at h1;obtain⟨cs',h1,h2⟩:=h1;exact⟨cs',y,h1,h2⟩
            · have h1:=hR (i-len) (by omega);obtain⟨y,hy⟩:∃ y,rest[i-len]?=some y:=⟨_,Ay (by omega)⟩;rw[hy,BG] at h1;obtain⟨cs',h1,h2⟩:=h1;rw[show len+(i-len)=i by omega] at h1;exact⟨cs',y,h1,h2⟩
           by_cases hc0:cap=0
           · subst hc0
             have:len=0:=by omega
             subst this;exact one .nils _ hc rfl (fun β=>.nils (some a)) (.inl rfl)
           · have hsp:a.spot=none∧a.block<W.heap.size:=by
              obtain⟨cs',y,h1,_⟩:=hcell 0 (by omega);obtain⟨_,h2,h3⟩:=World.cells?_some h1;have h4:=h3 0 (by omega);obtain⟨z,hz⟩:∃ z,cs'[0]?=some z:=⟨_,Ay (by omega)⟩;rw[hz] at h4
              have h5:W.cell? a=some z:=by simpa [Addr.add] using h4
              exact⟨World.cell?_spot h5,ga h5⟩
             obtain⟨ab,ao,asp⟩:=a;obtain⟨hsp,hlt⟩:=hsp;simp only at hsp hlt;subst hsp
             have hcell':∀ i,i<len→∃ cs' y,W.cells? 0 ⟨ab,ao+i*te.w,none⟩ te.w=some cs'∧DataW.trod enc P W 0 (fun _=>true) true n e cs'=some y:=by
              intro i hi;have:=hcell i (by omega);rw[ZV,← hw] at this;exact this
             obtain⟨ι1,e1,bs,H1,K1,R1,L1,S1,C1⟩:=Xp (SW d) hte hw len hcell' ι σ H0 hro;obtain⟨H2,R2⟩:=H1.lay R1 (c:=cap*te.w) (wd:=te.w) hlt C1;have K2:=Nh ι1 (σ++e1) ⟨ab,ao,cap*te.w⟩ ⟨.ro,te.w,bs⟩
             have hg:((σ++e1)++[(⟨.ro,te.w,bs⟩:Blk)])[(σ++e1).length]?=some ⟨.ro,te.w,bs⟩:=by simp
             refine⟨_,e1++[⟨.ro,te.w,bs⟩],[.slice (σ++e1).length 0 len],by rw[← BH];exact H2,by rw[← BH];exact K1.trans K2,by rw[← BH];exact R2,.inr ⟨_,len,bs,rfl,by rw[← BH];exact hg,L1,by omega,fun i hi=>by rw[← BH];exact(S1 i hi).mono⟩,by rw[hc];rfl,fun i u z hu hz=>?_⟩;rw[hc] at hz
             cases i with
             | zero=>
               simp at hu hz;subst hu;subst hz;refine⟨rfl,fun β=>?_⟩;have:=Rel.slice (ι:=upd ι1 (σ++e1).length ⟨ab,ao,cap*te.w⟩) (σ:=(σ++e1)++[⟨.ro,te.w,bs⟩]) (β:=β) (σ++e1).length 0 len cap ⟨.ro,te.w,bs⟩ hg hle (by rw[BN];simp) (by first|assumption|(simp only;omega));rw[BN] at this;simpa using this
             |succ i=>simp at hu
       · cases h
     · cases h
   · rename_i fs hu;split at h
     · rename_i ty' hty;split at h
       · rename_i hw;cases h;obtain⟨xs,n,_,_,hl,hxl,hf⟩:=DataW.trod_struct hu hx
         have:=W4 (enc:=enc) d (SW d) fs.toList 0 _ hty n cs (fun g hg=>by
          obtain⟨i,hi⟩:=G7 hg;have h1:=hf i g (by simpa using hi)
          have:i<xs.length:=by rw[hxl];have:=Rw hi;simpa using this
          exact⟨_,h1.trans (Ay this)⟩) (by omega) ι σ H0 hro
         simpa using this
       · cases h
     · cases h
   · cases h
end
open Go.RowKit Go.WideShapes Go.ChangeShapes
def VL(P:Program)(d:Nat)(t:TypeId):Option (Ty×Bool):=
 match Hr P d t with
 | some ty=>(match P.underlying t with
   |some (.struct _)=>some (ty,true)
   |some (.int _)|some .bool|some .string|some (.slice _)=>some (ty,false)
   |_=>none)
 |none=>none
def LX(P:Program)(d:Nat):List TypeId→Option (List (Ty×Bool))
 |[]=>some []
 | t::r=>match VL P d t,LX P d r with
   |some a,some b=>some (a::b)
   |_,_=>none
def ArgOk(σ:Ac):Ty×Bool→V→Prop
 |(ty,true),v=>∃ cs,v= .agg cs∧Sh σ ty cs∧cs.all V.cell=true
 |(ty,false),v=>Sh σ ty [v]∧v.cell=true
def L4(σ:Ac):List (Ty×Bool)→List V→Prop
 |[],[]=>True
 |a::r,v::s=>ArgOk σ a v∧L4 σ r s
 |_,_=>False
theorem ArgOk.mono{σ e:Ac}{a:Ty×Bool}{v:V}(h:ArgOk σ a v):ArgOk (σ++e) a v:=by
 obtain⟨ty,b⟩:=a
 cases b with
 |true=>obtain⟨cs,h1,h2,h3⟩:=h;exact⟨cs,h1,h2.mono,h3⟩
 |false=>exact⟨h.1.mono,h.2⟩
theorem ArgOk.noBox{σ:Ac}{a:Ty×Bool}{v:V}(h:ArgOk σ a v):∀ i o,v≠.box i o:=by
 obtain⟨ty,b⟩:=a;intro i o e;subst e
 cases b with
 |true=>obtain⟨cs,h1,_⟩:=h;cases h1
 |false=>have:=h.2;cases this
section
variable {H:Type} {enc:TypeId×Value→H} {P:Program} {W:World} {r:Reach} {base:Nat}
theorem jQ {d:Nat} {t:TypeId} {a:Ty×Bool} (ha:VL P d t=some a) {v:Value} {dd:DataW H} {ps:List MemPlace} (h:DataW.Trod enc P W 0 (fun _=>true) true t v dd ps) (hok:Value.okWide P W r base t v)
 (ι:An) (σ:Ac) (H0:HRel ι σ W) (hro:Dv σ) :
 ∃ ι' e u,HRel ι' (σ++e) W∧Keeps ι σ ι' (σ++e)∧Dv (σ++e)∧ArgOk (σ++e) a u∧∀ β,Rel ι' (σ++e) β u v:=by
 unfold VL at ha
 split at ha
 · rename_i ty hty
   obtain⟨fuel,hx⟩:=h;obtain⟨ι',e,vs,h1,h2,h3,h4,h5,h6⟩:=SW d t ty hty fuel _ _ hx ι σ H0 hro
   have one:∀ (hc:v.cells=#[v]),a=(ty,false)→∃ ι' e u,HRel ι' (σ++e) W∧Keeps ι σ ι' (σ++e)∧Dv (σ++e)∧ArgOk (σ++e) a u∧∀ β,Rel ι' (σ++e) β u v:=by
    intro hc ea;rw[hc] at h5 h6
    match vs,h5,h4,h6 with
    | [u],_,h4,h6=>
      obtain⟨c1,c2⟩:=h6 0 u v rfl rfl;exact⟨ι',e,u,h1,h2,h3,by rw[ea];exact⟨h4,c1⟩,c2⟩
   split at ha
   · rename_i fs hu;cases ha;obtain⟨cs,rfl,_⟩:=okWide_struct hu hok;replace h5:vs.length=cs.toList.length:=h5;refine⟨ι',e,.agg vs,h1,h2,h3,⟨vs,rfl,h4,?_⟩,fun β=>?_⟩
     · rw[Ct];intro u hu';obtain⟨i,hi⟩:=G7 hu'
       have:i<cs.toList.length:=by rw[← h5];exact Rw hi
       exact(h6 i u _ hi (Ay this)).1
     · have:=Rel.agg (ι:=ι') (σ:=σ++e) (β:=β) vs cs.toList h5 (fun u hu'=>by
        obtain⟨i,hi⟩:=G7 hu'
        have:i<cs.toList.length:=by rw[← h5];exact Rw hi
        exact(h6 i u _ hi (Ay this)).1) (fun i u w hi hw=>(h6 i u w hi hw).2 β)
       simpa using this
   · rename_i k hu;cases ha;obtain⟨n,rfl⟩:=okWide_int hu hok;exact one rfl rfl
   · rename_i hu;cases ha;obtain⟨n,rfl⟩:=okWide_bool hu hok;exact one rfl rfl
   · rename_i hu;cases ha;obtain⟨n,rfl⟩:=okWide_string hu hok;exact one rfl rfl
   · rename_i el hu;cases ha;obtain⟨x,y,z,rfl⟩:=okWide_slice hu hok;exact one rfl rfl
   · cases ha
 · cases ha
theorem X3{d:Nat}:∀ {ts:List TypeId} {tys:List (Ty×Bool)},LX P d ts=some tys→∀ {vs:List Value} {ds:List (DataW H)} {ps:List MemPlace},DataW.TrodAll enc P W 0 (fun _=>true) true ts vs ds ps →
 (∀ (j:Nat) t v,ts[j]?=some t→vs[j]?=some v→Value.okWide P W r base t v)→∀ (ι:An) (σ:Ac),HRel ι σ W→Dv σ →
 ∃ ι' e us,HRel ι' (σ++e) W∧Keeps ι σ ι' (σ++e)∧Dv (σ++e)∧L4 (σ++e) tys us∧us.length=vs.length∧∀ (i:Nat) u v,us[i]?=some u→vs[i]?=some v→(∀ j o,u≠.box j o)∧∀ β,Rel ι' (σ++e) β u v
 | [],tys,h,vs,ds,ps,hd,_,ι,σ,H0,hro=>by
   obtain⟨rfl,_,_⟩:=trodAll_nil hd
   cases h
   exact⟨ι,[],[],by simpa using H0,by simpa using Keeps.refl ι σ,by simpa using hro,trivial,rfl,by simp⟩
 | t :: ts,tys,h,vs,ds,ps,hd,hok,ι,σ,H0,hro=>by
   obtain⟨v,vs',x,ds',p,q,rfl,rfl,rfl,h1,h2⟩:=trodAll_cons hd
   unfold LX at h
   split at h
   · rename_i a b ha hb
     cases h
     obtain⟨ι1,e1,u,H1,K1,R1,A1,C1⟩:=jQ ha h1 (hok 0 t v rfl rfl) ι σ H0 hro
     obtain⟨ι2,e2,us,H2,K2,R2,A2,L2,C2⟩:=X3 hb h2 (fun j t' v' hj hv=>hok (j+1) t' v' hj hv) ι1 (σ++e1) H1 R1
     refine⟨ι2,e1++e2,u::us,by rw[← BH];exact H2,by rw[← BH];exact K1.trans K2,by rw[← BH];exact R2,by rw[← BH];exact⟨A1.mono,A2⟩,by simp[L2],fun i u' v' hu hv=>?_⟩
     rw[← BH]
     cases i with
     | zero=>
       simp at hu hv;subst hu;subst hv
       exact⟨A1.noBox,fun β=>(C1 β).mono K2 (fun j o e=>absurd e (A1.noBox j o))⟩
     |succ i=>exact C2 i u' v' (by simpa using hu) (by simpa using hv)
   · cases h
end
def Vk(P:Program)(ts:List TypeId):Bool:=ts.all fun t=>P.readableRec t&&decide (t<P.types.size)
theorem WT{H:Type}{enc:TypeId×Value→H}{P:Program}(hl:laidOutB P=true){W W':World}{sp':Nat→Bool}:∀ {ts:List TypeId} {vs:List Value} {ds:List (DataW H)} {ps:List MemPlace},Vk P ts=true →
 DataW.TrodAll enc P W 0 (fun _=>true) true ts vs ds ps→(∀ p∈ps,W.sameAt W' p)→(∀ p∈ps,sp' p.block=true)→DataW.TrodAll enc P W' 0 sp' true ts vs ds ps
 | [],vs,ds,ps,_,h,_,_=>by
   obtain⟨rfl,rfl,rfl⟩:=trodAll_nil h
   rfl
 | t::ts,vs,ds,ps,hr,h,h1,h2=>by
   obtain⟨v,vs',x,ds',p,q,rfl,rfl,rfl,g1,g2⟩:=trodAll_cons h
   unfold Vk at hr
   rw[D2,Ai,Ai,A3] at hr
   exact⟨p,q,WideElems.Trod_stays hl hr.1.1 hr.1.2 g1 (fun y hy=>h1 y (by simp[hy])) (fun y hy=>h2 y (by simp[hy])),WT hl hr.2 g2 (fun y hy=>h1 y (by simp[hy])) (fun y hy=>h2 y (by simp[hy])),rfl⟩
theorem gh {H:Type} {enc:TypeId×Value→H} {P:Program} {f:Func} {s:ChangeSpec} {apart fresh handsOn again:Bool} {W W':World} {args:Array Value} {v:Value} {ds gs:List (DataW H)} {before pa pv:List MemPlace}
 (hW:DataW.Whole enc P f.params.toList s.vars apart W args.toList ds gs before)
 (hres:∀ (b:Nat) (sp:Nat→Bool) (hd:Bool),DataW.TrodAll enc P W' b sp hd f.resultTypes.toList (v.resultList f.resultTypes.size) (s.fn H (ds++gs)).results [])
 (hargs:∀ sp:Nat→Bool,(∀ p∈before,sp p.block=true)→DataW.TrodAll enc P W' 0 sp true f.params.toList args.toList (s.fn H (ds++gs)).args pa)
 (hvars:∀ sp:Nat→Bool,(∀ p∈before,sp p.block=true)→DataW.TrodVars enc P W' sp s.vars (s.fn H (ds++gs)).vars pv)
 (hps:before=pa++pv) (hb:Below W.heap.size W W')
 (hok:∀ (j:Nat) (t:TypeId) (r:Value),f.resultTypes[j]?=some t→(v.resultList f.resultTypes.size)[j]?=some r→Value.okWide P W' .any 0 t r) :
 s.post enc P f apart fresh handsOn again W args v W':=by
 have hlt:∀ p∈before,p.block<W.heap.size:=fun p hp=>hW.lt p hp
 have hold:∀ p∈before,(fun b=>decide (b<W.heap.size)) p.block=true:=fun p hp=>by simpa using hlt p hp
 refine⟨ds,gs,before,[],pa,pv,hW,hres _ _ _,hargs _ hold,hvars _ hold,World.keptBut_mono (fun p hp=>⟨hp,?_⟩) (hb.frame (·∈before)),fun _=>?_⟩
 · rw[hps,CS] at hp
   exact Or.inr hp
 · obtain⟨_,_,_,_,_,hz,hn⟩:=hW
   refine⟨hok,_,_,([]++pa)++pv,⟨[]++pa,pv,trodAll_append (hargs _ (fun _ _=>rfl)) (hres _ _ _),hvars _ (fun _ _=>rfl),rfl,?_,?_⟩,?_⟩
   · intro b off hp
     have hin:MemPlace.cell b off∈before:=by rw[hps];simpa using hp
     rw[hb.frozen (hlt _ hin)];exact hz b off hin
   · intro ha;have:=hn ha;rw[hps] at this;simpa using this
   · intro p hp _;rw[hps];simpa using hp
theorem gG {H:Type} {enc:TypeId×Value→H} {P:Program} {f:FuncId} {fn:Func} {s:ChangeSpec} {apart fresh handsOn again:Bool} {sem:A8} {tys:List (Ty×Bool)} {d:Nat} {tb:TypeId}
 (hs:AN P f sem) (has:LX P d fn.params.toList=some tys) (hrows:Vk P fn.params.toList=true) (hl:laidOutB P=true)
 (hres:fn.resultTypes=#[tb]) (htb:P.underlying tb=some .bool) (hvars:s.vars=[])
 (hspec:∀ ds:List (DataW H),ds.length=tys.length→s.fn H ds={ results:=[.lit (.bool true)],args:=ds })
 (law:∀ (σ:Ac) (us:List V),Dv σ→L4 σ tys us→sem us σ fun r _=>r= .bool true)
 {W:World} {base:Nat} {args:Array Value} {ds gs:List (DataW H)} {before:List MemPlace}
 (hval:∀ (j:Nat) t v,fn.params[j]?=some t→args[j]?=some v→Value.okWide P W .any base t v)
 (hW:DataW.Whole enc P fn.params.toList s.vars apart W args.toList ds gs before) :
 Calls P f args W fun e W'=>∃ v,e= .returned v∧s.post enc P fn apart fresh handsOn again W args v W':=by
 have hW':=hW
 obtain⟨p,q,hA,hV,rfl,hfz,hnd⟩:=hW
 rw[hvars] at hV
 obtain⟨rfl,rfl⟩:=trodVars_none hV
 rw[N1] at hW'
 obtain⟨ι,e,us,H1,_,R1,A1,L1,C1⟩:=X3 (d:=d) has hA (fun j t v hj hv=>hval j t v (by simpa using hj) (by simpa using hv)) (fun _=>⟨0,0,0⟩) [] ⟨by simp,by simp,by simp,by simp⟩ (fun l b h=>by simp at h)
 simp only[Cs] at H1 R1 A1 C1
 have hc:=hs Phm.no ι e W us args.toList _ (.no e) (by rw[Q9];exact H1) (by rw[Q9];exact⟨L1,fun i u v hu hv=>(C1 i u v hu hv).2⟩) (law e us R1 A1)
 have hlen:ds.length=tys.length:=by
  have h1:∀ {ts:List TypeId} {tys:List (Ty×Bool)},LX P d ts=some tys→tys.length=ts.length:=by
   intro ts
   induction ts with
   |nil=>intro tys h;cases h;rfl
   | cons t ts ih=>
     intro tys h;unfold LX at h;split at h
     · rename_i a b _ hb;cases h;simp[ih hb]
     · cases h
  have h2:∀ {ts:List TypeId} {vs:List Value} {ds:List (DataW H)} {ps:List MemPlace},DataW.TrodAll enc P W 0 (fun _=>true) true ts vs ds ps→ds.length=ts.length:=by
   intro ts
   induction ts with
   |nil=>intro vs ds ps h;obtain⟨_,rfl,_⟩:=trodAll_nil h;rfl
   | cons t ts ih=>
     intro vs ds ps h;obtain⟨v,vs',x,ds',p,q,rfl,rfl,rfl,_,g2⟩:=trodAll_cons h;simp[ih g2]
  rw[h1 has,h2 hA]
 refine(Calls.mono (by simpa using hc) fun en W' hd=>?_:Calls P f args W _)
 obtain⟨x,r,σ',ι',rfl,rfl,_,hx,_,hstep⟩:=hd
 rw[Q9,Q9] at hstep
 have hx':=hx (fun _=>0)
 cases hx'
 have hb:Below W.heap.size W W':=⟨hstep.os,hstep.tape,hstep.output,hstep.size,fun k hk=>hstep.frame k hk fun l blk hl hk'=>by have:=R1 l blk hl;rw[hk'] at this;cases this⟩
 have hfn:=hspec (ds++[]) (by simpa using hlen)
 have hlt:∀ x∈p,x.block<W.heap.size:=fun x hx=>hW'.lt x hx
 refine⟨_,rfl,gh (pa:=p) (pv:=[]) hW' (fun _ _ _=>?_) (fun sp hsp=>?_) (fun sp _=>?_) (by simp) hb (ok_one hres rfl (okWide_bool_mk htb true))⟩
 · rw[hfn,hres]
   exact trodAll_cons_mk (shut_bool htb true) trodAll_mk0
 · rw[hfn]
   simp only[N1];exact WT hl hrows hA (fun x hx=>hb.same (hlt x hx)) hsp
 · rw[hfn,hvars]
   rfl
open Go.ChangeShapes
mutual
def CT.wf:(t:CT)→t.D→Prop
 |.int k,n=>(Lit.int k n).wf=true
 |.bool,_=>True
 |.str,s=>s.length≤maxLen
 |.ifc,_=>True
 |.sl r,l=>@List.length r.D l≤maxLen∧∀ x:r.D,@Membership.mem r.D (List r.D) inferInstance l x→RT.wf r x
def RT.wf:(r:RT)→r.D→Prop
 |.one t,x=>CT.wf t x
 |.cons t r,x=>CT.wf t x.1∧RT.wf r x.2
end
def AgX.wf:(l:List (Ql×CT))→AgX l→Prop
 |[],_=>True
 |[a],x=>a.2.wf x
 |a::b::r,x=>a.2.wf x.1∧AgX.wf (b::r) x.2
def HT.wf:(h:HT)→h.D→Prop
 |.one _ t,x=>t.wf x
 |.agg l,x=>AgX.wf l x
def TuX.wf:(l:List HT)→TuX l→Prop
 |[],_=>True
 |[a],x=>a.wf x
 |a::b::r,x=>a.wf x.1∧TuX.wf (b::r) x.2
def Fv:List CT→RT
 |[]=>.one .bool
 |[a]=>.one a
 |a::b::r=>.cons a (Fv (b::r))
def Ty.cts:Ty→List CT
 |.int k=>[.int k]
 |.bool=>[.bool]
 |.str=>[.str]
 |.sl t=>[.sl (Fv t.cts)]
 |.unit=>[]
 |.pair a b=>a.cts++b.cts
def Ty.good:Ty→Bool
 |.sl t=>Nat.blt 0 t.w&&t.good
 |.pair a b=>a.good&&b.good
 |_=>true
def Jq:Ty×Bool→HT
 |(ty,true)=>.agg (ty.cts.map fun t=>(.frz,t))
 |(ty,false)=>match ty.cts with|[c]=>.one .frz c|_=>.agg []
def Q6:Ty×Bool→Bool
 |(ty,true)=>ty.good
 |(ty,false)=>ty.good&&ty.cts.length == 1
def DL:List CT→Type
 |[]=>Unit
 |a::r=>a.D×DL r
def DL.wf:(l:List CT)→DL l→Prop
 |[],_=>True
 |a::r,x=>a.wf x.1∧DL.wf r x.2
def DL.enc:(l:List CT)→DL l→List PV
 |[],_=>[]
 |a::r,x=>CT.enc a x.1::DL.enc r x.2
def DL.encF:(l:List CT)→DL l→List PV
 |[],_=>[]
 |a::r,x=>(CT.dv .frz a x.1).enc::DL.encF r x.2
def DL.app:(l m:List CT)→DL l→DL m→DL (l++m)
 |[],_,_,y=>y
 |_::l,m,x,y=>(x.1,DL.app l m x.2 y)
theorem DL.app_enc:∀ (l m:List CT) (x:DL l) (y:DL m),DL.enc (l++m) (DL.app l m x y)=DL.enc l x++DL.enc m y
 |[],_,_,_=>rfl
 | a::l,m,x,y=>by
   show CT.enc a x.1::DL.enc (l++m) (DL.app l m x.2 y)=CT.enc a x.1::(DL.enc l x.2++DL.enc m y)
   rw[DL.app_enc l m x.2 y]
theorem DL.app_encF:∀ (l m:List CT) (x:DL l) (y:DL m),DL.encF (l++m) (DL.app l m x y)=DL.encF l x++DL.encF m y
 |[],_,_,_=>rfl
 | a::l,m,x,y=>by
   show (CT.dv .frz a x.1).enc::DL.encF (l++m) (DL.app l m x.2 y)=(CT.dv .frz a x.1).enc::(DL.encF l x.2++DL.encF m y)
   rw[DL.app_encF l m x.2 y]
theorem DL.app_wf:∀ (l m:List CT) (x:DL l) (y:DL m),DL.wf l x→DL.wf m y→DL.wf (l++m) (DL.app l m x y)
 |[],_,_,_,_,h=>h
 |_::l,m,x,y,h,h'=>⟨h.1,DL.app_wf l m x.2 y h.2 h'⟩
theorem DL.len:∀ (l:List CT) (x:DL l),(DL.enc l x).length=l.length
 |[],_=>rfl
 |_::l,x=>by show _+1=_+1;rw[DL.len l x.2]
theorem DL.lenF:∀ (l:List CT) (x:DL l),(DL.encF l x).length=l.length
 |[],_=>rfl
 |_::l,x=>by show _+1=_+1;rw[DL.lenF l x.2]
def DL.rt:(l:List CT)→DL l→(Fv l).D
 |[],_=>false
 |[_],x=>x.1
 |_::b::r,x=>(x.1,DL.rt (b::r) x.2)
theorem DL.rt_enc:∀ (l:List CT) (x:DL l),l≠[]→RT.enc (Fv l) (DL.rt l x)=DL.enc l x
 |[],_,h=>absurd rfl h
 |[_],_,_=>rfl
 | a::b::r,x,_=>by
   show CT.enc a x.1::RT.enc (Fv (b::r)) (DL.rt (b::r) x.2)=CT.enc a x.1::DL.enc (b::r) x.2
   rw[DL.rt_enc (b::r) x.2 (by simp)]
theorem DL.rt_wf:∀ (l:List CT) (x:DL l),l≠[]→DL.wf l x→RT.wf (Fv l) (DL.rt l x)
 |[],_,h,_=>absurd rfl h
 |[_],_,_,h=>h.1
 |a::b::r,x,_,h=>⟨h.1,DL.rt_wf (b::r) x.2 (by simp) h.2⟩
def DL.ag:(l:List CT)→DL l→AgX (l.map fun t=>(Ql.frz,t))
 |[],_=>()
 |[_],x=>x.1
 |_::b::r,x=>(x.1,DL.ag (b::r) x.2)
theorem DL.ag_enc:∀ (l:List CT) (x:DL l),DV.encL (Cp (l.map fun t=>(Ql.frz,t)) (DL.ag l x))=DL.encF l x
 |[],_=>rfl
 |[_],_=>rfl
 | a::b::r,x=>by
   show (CT.dv .frz a x.1).enc::DV.encL (Cp ((b::r).map fun t=>(Ql.frz,t)) (DL.ag (b::r) x.2))=(CT.dv .frz a x.1).enc::DL.encF (b::r) x.2
   rw[DL.ag_enc (b::r) x.2]
theorem DL.ag_wf:∀ (l:List CT) (x:DL l),DL.wf l x→AgX.wf (l.map fun t=>(Ql.frz,t)) (DL.ag l x)
 |[],_,_=>trivial
 |[_],_,h=>h.1
 |a::b::r,x,h=>⟨h.1,DL.ag_wf (b::r) x.2 h.2⟩
theorem H7:∀ (t:Ty),t.cts.length=t.w
 |.int _|.bool|.str|.sl _|.unit=>rfl
 |.pair a b=>by simp only[Ty.cts,Ty.w,Ba,H7 a,H7 b]
def ωro(σ:Ac):Nat→W:=fun l=>if l<σ.length then .frz else .none
theorem ωro_frz{σ:Ac}{l:Nat}{b:Blk}(h:σ[l]?=some b):ωro σ l= .frz:=by
 unfold ωro;rw[Ab (BP h)]
theorem P3:∀ (a b:List PV) (i:Nat),i<a.length→Aa (a++b) i=Aa a i
 |[],_,_,h=>by cases h
 |_::_,_,0,_=>rfl
 |_::a,b,i+1,h=>P3 a b i (by simpa using h)
theorem PT:∀ (a b:List PV) (i:Nat),Aa (a++b) (a.length+i)=Aa b i
 |[],_,_=>by simp
 | _::a,b,i=>by
   have:=PT a b i
   simp only[Cn,Ar,Va]
   exact this
theorem SY:∀ (a b:List V) (i:Nat),i<a.length→get (a++b) i=get a i
 |[],_,_,h=>by cases h
 |_::_,_,0,_=>rfl
 |_::a,b,i+1,h=>SY a b i (by simpa using h)
theorem SV:∀ (a b:List V) (i:Nat),get (a++b) (a.length+i)=get b i
 |[],_,_=>by simp
 | _::a,b,i=>by
   have:=SV a b i
   simp only[Cn,Ar,Va]
   exact this
theorem SS:∀ (l:List V) (o n i:Nat),i<n→get ((l.drop o).take n) i=get l (o+i)
 |[],o,n,i,_=>by simp[get]
 |c::r,0,0,i,h=>by cases h
 |c::r,0,n+1,0,_=>rfl
 | c::r,0,n+1,i+1,h=>by
   have:=SS r 0 n i (by omega)
   simp only[AD] at this
   simp only[N4,Vu,get,AD]
   simpa using this
 | c::r,o+1,n,i,h=>by
   have:=SS r o n i h
   rw[List.drop_succ_cons,this,Va]
   rfl
theorem Yl{w:Nat}:∀ (es:List (List PV)) (i j:Nat),(∀ e∈es,e.length=w)→j<w→i<es.length→Aa es.flatten (i*w+j)=Aa (AJ es i) j
 |[],i,_,_,_,h=>by cases h
 | e::r,0,j,hw,hj,_=>by
   have he:=hw e (Kh ..)
   rw[Jf,AD,Fg,P3 _ _ _ (by omega)]
   rfl
 | e::r,i+1,j,hw,hj,h=>by
   have he:=hw e (Kh ..)
   rw[Fg,show (i+1)*w+j=e.length+(i*w+j) by rw[he,Kj];omega,PT]
   exact Yl r i j (fun e h=>hw e (List.mem_cons_of_mem _ h)) hj (by simpa using h)
theorem Zf {α:Type}(f:α→List PV):∀ (l:List α) (i:Nat) (h:i<l.length),AJ (l.map f) i=f l[i]
 |[],_,h=>by cases h
 |_::_,0,_=>rfl
 |_::l,i+1,h=>Zf f l i (by simpa using h)
theorem NR{σ:Ac}:∀ (ty:Ty) {cs:List V},ty.good=true→Sh σ ty cs→∃ x:DL ty.cts,DL.wf ty.cts x ∧
 (∀ i,RC σ (ωro σ) .fz (Aa (DL.enc ty.cts x) i) (get cs i))∧∀ i hd p,RC σ (ωro σ) (.at hd p) (Aa (DL.encF ty.cts x) i) (get cs i)
 | .int k,cs,_,⟨n,h,hw⟩=>by
   subst h;exact⟨(n,()),⟨hw,trivial⟩,fun i=>by cases i<;>first|exact .v _ _ rfl|exact .undef _ _,fun i hd p=>by cases i<;>first|exact .v _ _ rfl|exact .undef _ _⟩
 | .bool,cs,_,⟨b,h⟩=>by
   subst h;exact⟨(b,()),⟨trivial,trivial⟩,fun i=>by cases i<;>first|exact .v _ _ rfl|exact .undef _ _,fun i hd p=>by cases i<;>first|exact .v _ _ rfl|exact .undef _ _⟩
 | .str,cs,_,⟨s,h,hl⟩=>by
   subst h;exact⟨(s,()),⟨hl,trivial⟩,fun i=>by cases i<;>first|exact .v _ _ rfl|exact .undef _ _,fun i hd p=>by cases i<;>first|exact .v _ _ rfl|exact .undef _ _⟩
 | .unit,cs,_,h=>by
   have h:cs=[]:=h;subst h;exact⟨(),trivial,fun i=>.undef _ _,fun i hd p=>.undef _ _⟩
 | .pair a b,cs,hg,⟨xs,ys,h,h1,h2⟩=>by
   simp only[Ty.good,Ai] at hg;obtain⟨x,x1,x2,x3⟩:=NR a hg.1 h1;obtain⟨y,y1,y2,y3⟩:=NR b hg.2 h2;have hl:=h1.len;subst h;refine⟨DL.app _ _ x y,DL.app_wf _ _ x y x1 y1,fun i=>?_,fun i hd p=>?_⟩
   · simp only[Ty.cts];rw[DL.app_enc];by_cases hi:i<a.w
     · rw[P3 _ _ _ (by rw[DL.len,H7];exact hi),SY _ _ _ (by rw[hl];exact hi)];exact x2 i
     · obtain⟨j,rfl⟩:=Nat.exists_eq_add_of_le (Nat.le_of_not_lt hi);have e1:=PT (DL.enc a.cts x) (DL.enc b.cts y) j;have e2:=SV xs ys j;rw[DL.len,H7] at e1;rw[hl] at e2;rw[e1,e2];exact y2 j
   · simp only[Ty.cts];rw[DL.app_encF];by_cases hi:i<a.w
     · rw[P3 _ _ _ (by rw[DL.lenF,H7];exact hi),SY _ _ _ (by rw[hl];exact hi)];exact x3 i hd p
     · obtain⟨j,rfl⟩:=Nat.exists_eq_add_of_le (Nat.le_of_not_lt hi);have e1:=PT (DL.encF a.cts x) (DL.encF b.cts y) j;have e2:=SV xs ys j;rw[DL.lenF,H7] at e1;rw[hl] at e2;rw[e1,e2];exact y3 j hd p
 | .sl t,cs,hg,h=>by
   simp only[Ty.good,Ai] at hg;have hw0:0<t.w:=Cm hg.1
   have hne:t.cts≠[]:=by intro e;have:=H7 t;rw[e] at this;simp only[As] at this;omega
   rcases h with h|⟨l,n,bs,h,hb,hbl,hn,he⟩
   · subst h;refine⟨(([]:List (Fv t.cts).D),()),⟨⟨Ff _,fun x hx=>by cases hx⟩,trivial⟩,fun i=>?_,fun i hd p=>?_⟩
     · cases i<;>first|exact .nil _ _|exact .undef _ _
     · cases i<;>first|exact .nil _ _|exact .undef _ _
   · subst h
     have ex:∀ i,∃ x:DL t.cts,i<n→DL.wf t.cts x∧(∀ k,RC σ (ωro σ) .fz (Aa (DL.enc t.cts x) k) (get ((bs.drop (i*t.w)).take t.w) k)):=by
      intro i;by_cases hi:i<n
      · obtain⟨x,h1,h2,_⟩:=NR t hg.2 (he i hi);exact⟨x,fun _=>⟨h1,h2⟩⟩
      · have h0:∀ l:List CT,Nonempty (DL l):=by
         intro l
         induction l with
         |nil=>exact⟨()⟩
         |cons a r ih=>obtain⟨y⟩:=ih;exact⟨(a.dflt,y)⟩
        obtain⟨y⟩:=h0 t.cts;exact⟨y,fun h=>absurd h hi⟩
     let f:Nat→DL t.cts:=fun i=>Classical.choose (ex i)
     have hf:∀ i,i<n→DL.wf t.cts (f i)∧∀ k,RC σ (ωro σ) .fz (Aa (DL.enc t.cts (f i)) k) (get ((bs.drop (i*t.w)).take t.w) k):=fun i hi=>Classical.choose_spec (ex i) hi
     let L:List (Fv t.cts).D:=(List.range n).map fun i=>DL.rt t.cts (f i)
     have hL:L.length=n:=by simp[L]
     have hLw:∀ e∈L.map (RT.enc (Fv t.cts)),e.length=t.w:=by
      intro e he;obtain⟨y,hy,rfl⟩:=List.mem_map.mp he;obtain⟨i,_,rfl⟩:=List.mem_map.mp hy;rw[DL.rt_enc _ _ hne,DL.len,H7]
     have hcell:∀ k,k<L.length*t.w→RC σ (ωro σ) .fz (Aa (L.map (RT.enc (Fv t.cts))).flatten k) (get bs (0+k)):=by
      intro k hk
      have hdm:k / t.w*t.w+k % t.w=k:=by rw[RD];exact RN k t.w
      have hmod:=FM k hw0
      have hdiv:k / t.w<n:=by rw[hL] at hk;exact(Rl hw0).2 hk
      have e1:=Yl (L.map (RT.enc (Fv t.cts))) (k / t.w) (k % t.w) hLw hmod (by rw[Bd,hL];exact hdiv);rw[hdm] at e1;rw[e1,Zf _ _ _ (by rw[hL];exact hdiv),AD];have e2:=SS bs (k / t.w*t.w) t.w (k % t.w) hmod;rw[hdm] at e2
      have e3:L[k / t.w]'(by rw[hL];exact hdiv)=DL.rt t.cts (f (k / t.w)):=by simp[L]
      rw[e3,DL.rt_enc _ _ hne,← e2];exact(hf _ hdiv).2 _
     have hwf:∀ x∈L,RT.wf (Fv t.cts) x:=by
      intro x hx;obtain⟨i,hi,rfl⟩:=List.mem_map.mp hx;exact DL.rt_wf _ _ hne (hf i (List.mem_range.mp hi)).1
     have hle:0+(L.map (RT.enc (Fv t.cts))).length*t.w≤bs.length:=by rw[Bd,hL,hbl];omega
     refine⟨(L,()),⟨⟨by rw[hL];exact hn,hwf⟩,trivial⟩,fun i=>?_,fun i hd p=>?_⟩
     · cases i with
       |succ i=>exact .undef _ _
       |zero=>exact .sl _ _ _ _ _ _ _ hb (by simp) (ωro_frz hb) (fun e=>by cases e) (by rw[Bd,hL]) hLw hle fun k hk=>hcell k (by rw[Bd] at hk;exact hk)
     · cases i with
       |succ i=>exact .undef _ _
       |zero=>exact .sl _ _ _ _ _ _ _ hb (by simp) (ωro_frz hb) (fun _ e=>by rcases e with e|⟨_,_,e⟩<;>cases e) (by rw[Bd,hL]) hLw hle fun k hk=>hcell k (by rw[Bd] at hk;exact hk)
structure ArgD (σ:Ac) (v:PV) (u:V):Prop where
 rc:∀ hd p c,RC σ (ωro σ) (.at hd p) (v.fcell c) (u.fcell c)
 sh:AM v u
 nx:∀ c i pb tp,(v.fcell c).q≠some (.bor (.x i) pb tp)
theorem nR{v:V}(h:v.cell=true):(∀ us,v≠.agg us)∧∀ us,v≠.tup us:=by
 constructor<;>rintro us rfl<;>cases h
theorem Vy:∀ (l:List CT) (x:DL l) (i:Nat) (a:Hd) (pb:List Nat) (tp:Bool),(Aa (DL.encF l x) i).q≠some (.bor a pb tp)
 |[],_,_,_,_,_=>by simp[DL.encF,Aa,PV.q]
 |c::r,x,0,a,pb,tp=>by cases c<;>simp[DL.encF,Aa,CT.dv,DV.enc,PV.q]
 |_::r,x,i+1,a,pb,tp=>Vy r x.2 i a pb tp
theorem YP{σ:Ac}{a:Ty×Bool}{u:V}(hg:Q6 a=true)(h:ArgOk σ a u):∃ x:(Jq a).D,(Jq a).wf x∧ArgD σ ((Jq a).dv x).enc u:=by
 obtain⟨ty,b⟩:=a
 cases b with
 | true=>
   obtain⟨cs,rfl,hs,hc⟩:=h;obtain⟨x,h1,_,h3⟩:=NR ty hg hs;have hle:=hs.len;refine⟨DL.ag ty.cts x,DL.ag_wf _ _ h1,?_⟩
   have he:((Jq (ty,true)).dv (DL.ag ty.cts x)).enc= .agg (DL.encF ty.cts x):=by
    show PV.agg _=PV.agg _;rw[DL.ag_enc]
   rw[he];refine⟨fun hd p c=>?_,⟨cs,rfl,by rw[hle,DL.lenF,H7]⟩,fun c i pb tp=>?_⟩
   · match c with
     |[]=>exact .undef _ _
     |[c]=>exact h3 c hd p
     |_::_::_=>exact .undef _ _
   · match c with
     |[]=>simp[PV.fcell,PV.q]
     |[c]=>exact Vy _ _ _ _ _ _
     |_::_::_=>simp[PV.fcell,PV.q]
 | false =>
   obtain⟨hs,hc⟩:=h;simp only[Q6,Ai,AU] at hg;obtain⟨x,h1,_,h3⟩:=NR ty hg.1 hs
   have key:∀ (l:List CT) (x:DL l),l.length=1→DL.wf l x→(∀ i hd p,RC σ (ωro σ) (.at hd p) (Aa (DL.encF l x) i) (get [u] i)) →
    ∃ y:(match l with|[c]=>HT.one .frz c|_=>HT.agg []).D,(match l with|[c]=>HT.one .frz c|_=>HT.agg []).wf y∧ArgD σ ((match l with|[c]=>HT.one .frz c|_=>HT.agg []).dv y).enc u:=by
    intro l x hl hwf h3
    match l,x,hl,hwf,h3 with
    | [c],x,_,hwf,h3=>
      have hsc:=nR hc
      have hnf:∀ p,p≠[0]→((CT.dv .frz c x.1).enc).fcell p= .fl .undef:=by
       intro p hp;cases c<;>(match p with|[]=>rfl|[0]=>exact absurd rfl hp|(_+1)::_=>rfl|0::_::_=>rfl)
      have hf0:((CT.dv .frz c x.1).enc).fcell [0]=(CT.dv .frz c x.1).enc:=by cases c<;>rfl
      have hu0:u.fcell [0]=u:=by cases u<;>first|rfl|exact absurd rfl (hsc.1 _)|exact absurd rfl (hsc.2 _)
      refine⟨x.1,hwf.1,⟨fun hd p q=>?_,?_,fun q i pb tp=>?_⟩⟩
      · by_cases hq:q=[0]
        · subst hq;show RC σ (ωro σ) (.at hd p) (((CT.dv .frz c x.1).enc).fcell [0]) (u.fcell [0]);rw[hf0,hu0];exact h3 0 hd p
        · show RC σ (ωro σ) (.at hd p) (((CT.dv .frz c x.1).enc).fcell q) (u.fcell q);rw[hnf q hq];exact .undef _ _
      · show AM ((CT.dv .frz c x.1).enc) u;cases c<;>exact hsc
      · show (((CT.dv .frz c x.1).enc).fcell q).q≠_;by_cases hq:q=[0]
        · subst hq;rw[hf0];exact Vy [c] x 0 _ _ _
        · rw[hnf q hq];simp[PV.q]
   exact key ty.cts x hg.2 h1 h3
theorem Tp{σ:Ac}:∀ {tys:List (Ty×Bool)} {us:List V},tys.all Q6=true→L4 σ tys us→∃ x:TuX (tys.map Jq),TuX.wf _ x∧us.length=tys.length ∧
 ∀ t,ArgD σ (Aa (DV.encL (CK (tys.map Jq) x)) t) (get us t)
 |[],[],_,_=>⟨(),trivial,rfl,fun t=>⟨fun hd p c=>by
  have:(PV.fl V.undef).fcell c= .fl .undef:=by match c with|[]=>rfl|[0]=>rfl|(_+1)::_=>rfl|0::_::_=>rfl
  show RC σ (ωro σ) (.at hd p) ((PV.fl V.undef).fcell c) _
  rw[this];exact .undef _ _,trivial,fun c i pb tp=>by
  have:(PV.fl V.undef).fcell c= .fl .undef:=by match c with|[]=>rfl|[0]=>rfl|(_+1)::_=>rfl|0::_::_=>rfl
  show ((PV.fl V.undef).fcell c).q≠_
  rw[this];simp[PV.q]⟩⟩
 | [a],[u],hg,h=>by
   simp only[D2,N3,Gu] at hg;obtain⟨x,h1,h2⟩:=YP hg h.1;obtain⟨_,_,_,h4⟩:=Tp (σ:=σ) (tys:=[]) (us:=[]) rfl trivial;refine⟨x,h1,rfl,fun t=>?_⟩
   cases t with
   |zero=>exact h2
   |succ t=>exact h4 t
 | a::b::r,u::us,hg,h=>by
   rw[D2,Ai] at hg;obtain⟨x,h1,h2⟩:=YP hg.1 h.1;obtain⟨y,h3,h4,h5⟩:=Tp (tys:=b::r) (us:=us) hg.2 h.2;refine⟨(x,y),⟨h1,h3⟩,by simp[h4],fun t=>?_⟩
   cases t with
   |zero=>exact h2
   |succ t=>exact h5 t
 |[_],_::_::_,_,h=>h.2.elim
 |[_],[],_,h=>h.elim
 |_::_::_,[],_,h=>h.elim
 |[],_::_,_,h=>h.elim
theorem pY{σ:Ac}{as:List PV}{us:List V}(hl:as.length=us.length)(h:∀ t,ArgD σ (Aa as t) (get us t)):RS σ (ωro σ) (ωro σ) (fun _=>0) ⟨as,[],[]⟩ ⟨us,[],σ⟩ X0:=by
 have no:∀ l hd p,ωro σ l≠.own hd p:=by intro l hd p e;unfold ωro at e;split at e<;>cases e
 have nop:∀ l i,ωro σ l≠.ptr i:=by intro l i e;unfold ωro at e;split at e<;>cases e
 have hund:∀ c,(PV.fl V.undef).fcell c= .fl .undef:=by
  intro c;match c with|[]=>rfl|[0]=>rfl|(_+1)::_=>rfl|0::_::_=>rfl
 have cat:∀ (c:List Nat) (l:List V),(AX [] l c).1= .fl .undef:=by
  intro c l;match c with|[]=>rfl|[_]=>rfl|_::_::_=>rfl
 refine⟨⟨fun hd p=>?_,fun l l' hd p e=>absurd e (no l hd p),fun l l' i e=>absurd e (nop l i),fun l e=>?_,fun l e=>?_⟩,fun t=>(h t).sh,fun i=>trivial,hl,rfl,fun i=>rfl,fun i c=>rfl,fun i c=>rfl,fun i hi=>(by cases hi),fun l i e=>absurd e (nop l i),fun l i p e=>absurd e (no l _ p),⟨AF _,fun l _ _=>⟨rfl,rfl⟩,fun l hlt e=>(by rw[e];simp),fun l i e=>e⟩,fun hd p i pb tp=>?_⟩
 · cases hd with
   |s t=>exact(h t).rc _ _ _
   |b i=>show RC σ (ωro σ) _ (AX [] (AO [] i) p).1 _;rw[cat];exact .undef _ _
   |h i=>show RC σ (ωro σ) _ (AX [] _ p).1 _;rw[cat];exact .undef _ _
   |x i=>show RC σ (ωro σ) _ ((PV.fl V.undef).fcell p) _;rw[hund];exact .undef _ _
 · rcases e with⟨hd,p,e⟩|⟨i,e⟩
   · exact absurd e (no l hd p)
   · exact absurd e (nop l i)
 · unfold ωro at e;split at e
   · assumption
   · cases e
 · cases hd with
   |s t=>exact(h t).nx p i pb tp
   |b j=>show (AX [] (AO [] j) p).1.q≠_;rw[cat];simp[PV.q]
   |h j=>show (AX [] _ p).1.q≠_;rw[cat];simp[PV.q]
   |x j=>show ((PV.fl V.undef).fcell p).q≠_;rw[hund];simp[PV.q]
theorem oW {f:DFun} {tys:List (Ty×Bool)} {hs:List HT} {s:A8} (hsp:Eo s (DA f.er)) (hhs:tys.map Jq=hs) (hg:tys.all Q6=true) (ho:AllD f.body.obs)
 (hst:Mk f hs (.one (.one .own .bool))=true) (hc:∀ x,L8 f hs (.one (.one .own .bool)) x=true)
 (law:∀ x:TuX hs,TuX.wf hs x→GB f hs (.one (.one .own .bool)) x∧GG f hs (.one (.one .own .bool)) x=true) (σ:Ac) (us:List V) (hro:Dv σ) (ha:L4 σ tys us):s us σ fun r _=>r= .bool true:=by
 subst hhs
 obtain⟨x,h1,h2,h3⟩:=Tp hg ha
 obtain⟨l1,l2⟩:=law x h1
 have hlen:(DV.encL (CK (tys.map Jq) x)).length=us.length:=by rw[DY,Lw,Bd,h2]
 refine hsp σ (ωro σ) (fun _=>0) _ us [] (fun r _=>r= .fl (.bool true)) _ (pY hlen h3) (fun l hd p e=>?_) ?_ fun u h' r H' ω' ρ' hQ R' _=>?_
 · exfalso;unfold ωro at e;split at e<;>cases e
 · refine Y5 ho hst x (hc x) l1 fun H=>?_
   rw[l2];rfl
 · subst hQ
   have r:=R'.core.rc (.x 0) [0];have hs:=R'.shx 0;have r:RC h' ω' (.at (.x 0) [0]) (.fl (.bool true)) (u.fcell [0]):=r
   have hu:u.fcell [0]=u:=by
    have hs:AM (.fl (.bool true)) u:=hs
    cases u<;>first|rfl|exact absurd rfl (hs.1 _)|exact absurd rfl (hs.2 _)
   rw[hu] at r;cases r;rfl
def rk(pu:Bool)(res:List ARes)(h0:Ac)(Q:V→Ac→Prop):Et:=Si ⟨0,0,0,pu,res,.skip⟩ h0 Q
@[congr] theorem qJ {c:ACode} {k:Et} {st st':St} (h:st=st'):Dw c k st=Dw c k st':=by rw[h]
@[congr] theorem qI {o:List AOper} {k:St→Prop} {st st':St} (h:st=st'):CD o k st=CD o k st':=by rw[h]
@[congr] theorem qK {o:AOp} {d:Option Nat} {k:St→Prop} {st st':St} (h:st=st'):AZ o d k st=AZ o d k st':=by rw[h]
@[congr] theorem qG {n:St→Prop} {k:Et} {e e':AExit} {st st':St} (he:e=e') (h:st=st'):KB n k e st=KB n k e' st':=by rw[he,h]
@[congr] theorem qD {i:Nat} {k:Et} {e e':AExit} {st st':St} (he:e=e') (h:st=st'):LU i k e st=LU i k e' st':=by rw[he,h]
@[congr] theorem qL {pu:Bool} {res:List ARes} {h0:Ac} {Q:V→Ac→Prop} {e e':AExit} {st st':St} (he:e=e') (h:st=st'):rk pu res h0 Q e st=rk pu res h0 Q e' st':=by rw[he,h]
def pI:V→Option V
 |.nils=>some (.int .i64 0)
 |.slice _ _ n=>some (.int .i64 n)
 |_=>none
def Zo(hp:Ac)(n:Option Nat):V→Option V
 |.ptr l o=>(rd hp l o (n.getD 1)).bind fun cs=>CX n cs
 |_=>none
def T8(bx:List (List V))(hp:Ac)(n:Nat)(a x:V):Option (V×List (List V)×Ac):=match a with
 |.ptr l o=>if x.cells.length=n∧x.cells.all V.cell then (wr hp l o x.cells).bind fun h=>some (.undef,bx,h) else none
 |_=>none
theorem bind_some{α:Type}(o:Option α):(o.bind fun x=>some x)=o:=by cases o<;>rfl
section
variable {α:Type}
def Mq(f:α→Int→α×Int):List α→Int→List α×Int
 |[],m=>([],m)
 |a::r,m=>((f a m).1::(Mq f r (f a m).2).1,(Mq f r (f a m).2).2)
end
def qa:IntKind→Int→Int
 |.i64,m=>m
 |k,m=>k.wrap m
mutual
def CT.mkI:(t:CT)→t.D→Int→t.D×Int
 |.int k,_,m=>(qa k m,IntKind.i64.wrap (m+1))
 |.bool,_,m=>((m.tmod 3 == 0:Bool),IntKind.i64.wrap (m+1))
 |.str,s,m=>(s,m)
 |.ifc,b,m=>(b,m)
 |.sl r,l,m=>Mq (RT.mkI r) l m
def RT.mkI:(r:RT)→r.D→Int→r.D×Int
 |.one t,x,m=>CT.mkI t x m
 |.cons t r,x,m=>(((CT.mkI t x.1 m).1,(RT.mkI r x.2 (CT.mkI t x.1 m).2).1),(RT.mkI r x.2 (CT.mkI t x.1 m).2).2)
end
mutual
def CT.wl:(t:CT)→t.D→Prop
 |.sl r,l=>l.length≤9223372036854775807∧∀ a:r.D,List.Mem a l→RT.wl r a
 |_,_=>True
def RT.wl:(r:RT)→r.D→Prop
 |.one t,x=>CT.wl t x
 |.cons t r,x=>CT.wl t x.1∧RT.wl r x.2
end
section
variable {h h':Ac} {ω:Nat→W} {hd:Hd} {p:List Nat}
abbrev Ks (ω:Nat→W) (hd:Hd) (p:List Nat):Nat→Prop:=fun l=>∃ q,ω l= .own hd (p++q)
abbrev MS (h:Ac) (ω:Nat→W) (hd:Hd) (p:List Nat) (r:RT) (l:List r.D) (u:V):Prop:=RC h ω (.inn hd p) (.sl .own (l.map r.enc)) u
theorem MS.len{r:RT}{l:List r.D}{u:V}(M:MS h ω hd p r l u):pI u=some (.int .i64 (l.length:Int)):=by
 unfold MS at M;generalize he:l.map r.enc=es at M
 have hl:l.length=es.length:=by rw[← he,Bd]
 cases M with
 |nil=>rw[hl];rfl
 |sl _ _ _ l o n b h1 hk hc hne hn hw hle hr=>rw[hl,← hn];rfl
theorem MS.ok1{r:RT}{l:List r.D}{u:V}(M:MS h ω hd p r l u):u.ok1=true∧u.cell=true:=by
 unfold MS at M;generalize l.map r.enc=es at M;cases M<;>exact⟨rfl,rfl⟩
theorem MS.slice{r:RT}{l:List r.D}{u:V}(M:MS h ω hd p r l u)(hl:0<l.length):∃ b,u= .slice b 0 l.length:=by
 unfold MS at M;generalize he:l.map r.enc=es at M
 have hl':l.length=es.length:=by rw[← he,Bd]
 cases M with
 |nil=>rw[hl'] at hl;simp at hl
 | sl _ _ _ b o n bk h1 hk hc hne hn hw hle hr=>
   obtain⟨_,rfl,_⟩:=hc;exact⟨b,by rw[hl',hn]⟩
theorem MS.upd {r:RT} {l:List r.D} {b n:Nat} (M:MS h ω hd p r l (.slice b 0 n)) {i off:Nat} (hi:i<l.length) (hoff:off<r.w) {y:r.D} {c:PV} (hy:r.enc y=Ao (r.enc (l.getD i r.dflt)) off [c])
 {bk:Blk} (h1:h[b]?=some bk) {cs':List V} (h1':h'[b]?=some { bk with cs:=cs' }) (hcl:cs'.length=bk.cs.length) {v:V} (hcs:∀ k,get cs' k=if k=i*r.w+off then v else get bk.cs k)
 (hO:∀ x,x≠b→(∀ q,ω x≠.own hd (p++(i*r.w+off)::q))→h'[x]?=h[x]?) (hc:RC h' ω (.inn hd (p++[i*r.w+off])) c v):MS h' ω hd p r (l.set i y) (.slice b 0 n):=by
 unfold MS at M ⊢
 rw[← Nx,hy,← FK r l i hi]
 generalize he:l.map r.enc=es at M
 have hl':l.length=es.length:=by rw[← he,Bd]
 have hwr:∀ e∈es,e.length=r.w:=by rw[← he];intro e h;obtain⟨x,_,rfl⟩:=List.mem_map.1 h;exact I7 r x
 have hi':i<es.length:=by rw[← hl'];exact hi
 cases M with
 | sl _ _ _ _ o _ bk' h1b hk hch hne hn hw hle hr=>
   rw[h1] at h1b;cases h1b
   have hbw:bk.w=r.w:=by rw[← hw _ (Dr (l:=es) hi')];exact hwr _ (Dr hi')
   have hel:=J2 hw hi';obtain⟨hb1,_,hb3⟩:=hch
   refine RC.sl _ .own _ b 0 n { bk with cs:=cs' } h1' hk ⟨hb1,rfl,hb3⟩ (fun _ _ h=>by have:=congrArg List.length h;rw[DX] at this;simp only[As] at this;omega) (by rw[DX];exact hn) (N5 hw (by rw[EZ];exact hel)) (by rw[DX];simp only[hcl];exact hle) fun k hk'=>?_
   simp only[DX] at hk';rw[QD hw hi' (by rw[hbw];simp only[Ar,As];omega) k hk',AD,hcs];simp only[Ar,As,hbw];by_cases hkk:k=i*r.w+off
   · subst hkk;rw[Ab ⟨by omega,by omega⟩,Ab rfl,Rt];exact hc
   · rw[Ad (by omega),Ad hkk];have r0:=hr k hk';rw[AD] at r0;refine r0.inn0 (f:=Ren.id) (T:=fun x=>x=b∨∃ q,ω x= .own hd (p++(i*r.w+off)::q)) ⟨fun x e=>⟨e,hO x (by rintro rfl;rw[hb1] at e;cases e) (fun q e'=>by rw[e] at e';cases e')⟩,fun x a q e hn=>⟨by rw[e];rfl,hO x (fun h=>hn (.inl h)) (fun q' e'=>hn (.inr ⟨q',e'⟩))⟩⟩ (fun x q e hT=>?_) (fun q=>rfl);rcases hT with rfl|⟨q',e'⟩
     · rw[hb1] at e;simp only[W.own.injEq] at e;have:=congrArg List.length e.2;simp at this
     · rw[e] at e';simp only[W.own.injEq,BH,Cn,Cs,List.append_cancel_left_eq,Fe] at e';exact hkk e'.2.1
theorem MS.store {r:RT} {l:List r.D} {b n:Nat} (M:MS h ω hd p r l (.slice b 0 n)) {i off:Nat} (hi:i<l.length) (hoff:off<r.w) {v:V} (hv:v.flat=true) (hvc:v.cells=[v]) {y:r.D} (hy:r.enc y=Ao (r.enc (l.getD i r.dflt)) off [.fl v])
 (hinj:∀ l l' a q,ω l= .own a q→ω l'= .own a q→l=l') (bx:List (List V)):∃ h',T8 bx h 1 (.ptr b (i*r.w+off)) v=some (.undef,bx,h')∧Only (Ks ω hd p) h h'∧MS h' ω hd p r (l.set i y) (.slice b 0 n):=by
 have M0:=M
 unfold MS at M0
 generalize he:l.map r.enc=es at M0
 have hl':l.length=es.length:=by rw[← he,Bd]
 have hwr:∀ e∈es,e.length=r.w:=by rw[← he];intro e h;obtain⟨x,_,rfl⟩:=List.mem_map.1 h;exact I7 r x
 have hi':i<es.length:=by rw[← hl'];exact hi
 cases M0 with
 | sl _ _ _ _ o _ bk h1 hk hch hne hn hw hle hr=>
   have hbw:bk.w=r.w:=by rw[← hw _ (Dr (l:=es) hi')];exact hwr _ (Dr hi')
   obtain⟨hb1,_,hb3⟩:=hch
   have hlt:i*r.w+off<bk.cs.length:=by
    have:(i+1)*r.w≤es.length*r.w:=G8 _ hi';rw[C8,Ib] at this;rw[hbw] at hle;omega
   have hb:b<h.length:=BP h1
   have hset:∀ k,(h.set b { bk with cs:=splice bk.cs (i*r.w+off) [v] })[k]?=if k=b then some { bk with cs:=splice bk.cs (i*r.w+off) [v] } else h[k]?:=by
    intro k;rw[Fb];by_cases hk:b=k
    · subst hk;simp[hb]
    · rw[Ad hk,Ad (fun h'=>hk h'.symm)]
   have hvcell:[v].all V.cell=true:=by
    cases v<;>first|rfl|(simp[V.flat] at hv)
   refine⟨h.set b { bk with cs:=splice bk.cs (i*r.w+off) [v] },?_,⟨by simp,fun x hx=>?_,fun x bx' hx=>?_⟩,M.upd hi hoff hy h1 (cs':=splice bk.cs (i*r.w+off) [v]) (v:=v) (by rw[hset,Ab rfl]) (ED _ _ _) (fun k=>?_) (fun x hx _=>by rw[hset,Ad hx]) (.v _ _ hv)⟩
   · have hwr':wr h b (i*r.w+off) [v]=some (h.set b { bk with cs:=splice bk.cs (i*r.w+off) [v] }):=by
      rw[wr,h1];simp only;rw[Ab ⟨hb3,by simp only[Ar,As];omega⟩]
     simp only[T8,hvc,hvcell,Ar,As,hwr'];rfl
   · rw[hset,Ad];rintro rfl;exact hx ⟨[],by rw[hb1];simp⟩
   · by_cases hxb:x=b
     · subst hxb;rw[h1] at hx;cases hx;exact⟨{ bk with cs:=splice bk.cs (i*r.w+off) [v] },by rw[hset,Ab rfl],rfl,rfl,ED _ _ _⟩
     · exact⟨bx',by rw[hset,Ad hxb];exact hx,rfl,rfl,rfl⟩
   · rw[M6 _ _ _ _ (by simp only[Ar,As];omega)];simp only[Ar,As];by_cases hkk:k=i*r.w+off
     · subst hkk;rw[Ab ⟨by omega,by omega⟩,Ab rfl,Rt];rfl
     · rw[Ad (by omega),Ad hkk]
theorem MS.load{r:RT}{l:List r.D}{b n:Nat}(M:MS h ω hd p r l (.slice b 0 n)){i off:Nat}(hi:i<l.length)(hoff:off<r.w){r':RT}{l':List r'.D}(hx:Aa (r.enc (l.getD i r.dflt)) off= .sl .own (l'.map r'.enc)) :
 ∃ u,Zo h none (.ptr b (i*r.w+off))=some u∧MS h ω hd (p++[i*r.w+off]) r' l' u∧∃ bk,h[b]?=some bk∧get bk.cs (i*r.w+off)=u:=by
 have M0:=M
 unfold MS at M0
 rw[← FK r l i hi] at hx
 generalize he:l.map r.enc=es at M0 hx
 have hl':l.length=es.length:=by rw[← he,Bd]
 have hwr:∀ e∈es,e.length=r.w:=by rw[← he];intro e h;obtain⟨x,_,rfl⟩:=List.mem_map.1 h;exact I7 r x
 have hi':i<es.length:=by rw[← hl'];exact hi
 cases M0 with
 | sl _ _ _ _ o _ bk h1 hk hch hne hn hw hle hr=>
   have hbw:bk.w=r.w:=by rw[← hw _ (Dr (l:=es) hi')];exact hwr _ (Dr hi')
   have hm:(i+1)*r.w≤es.length*r.w:=G8 _ hi';rw[C8,Ib] at hm
   have hlt:i*r.w+off<bk.cs.length:=by rw[hbw] at hle;omega
   have r0:=hr (i*r.w+off) (by rw[hbw];omega);rw[AD] at r0;have hf:Aa es.flatten (i*r.w+off)=Aa (AJ es i) off:=Ga (w:=r.w) (by rw[← hbw];exact hw) i off hoff;rw[hf,hx] at r0;refine⟨get bk.cs (i*r.w+off),?_,r0,bk,h1,rfl⟩
   have e1:rd h b (i*r.w+off) 1=some ((bk.cs.drop (i*r.w+off)).take 1):=by
    rw[rd,h1];simp only;rw[Ab ⟨hk,by omega⟩]
   show (rd h b (i*r.w+off) 1).bind (CX none)=_;rw[e1];rw[RF hlt];simp only[Vu,List.take_zero,Jc,CX,CB,Ay hlt];rfl
theorem MS.sub {r:RT} {l:List r.D} {b n:Nat} (M:MS h ω hd p r l (.slice b 0 n)) {i off:Nat} (hi:i<l.length) (hoff:off<r.w) {u:V} {bk:Blk} (h1:h[b]?=some bk) (hu:get bk.cs (i*r.w+off)=u)
 (hO:Only (Ks ω hd (p++[i*r.w+off])) h h') {r':RT} {l':List r'.D} (hr:MS h' ω hd (p++[i*r.w+off]) r' l' u) {y:r.D} (hy:r.enc y=Ao (r.enc (l.getD i r.dflt)) off [.sl .own (l'.map r'.enc)]) :
 Only (Ks ω hd p) h h'∧MS h' ω hd p r (l.set i y) (.slice b 0 n):=by
 have hb1:ω b= .own hd p:=by
  have M0:=M;unfold MS at M0;generalize l.map r.enc=es at M0
  cases M0 with
  |sl _ _ _ _ o _ bk h1 hk hch hne hn hw hle hr=>exact hch.1
 refine⟨hO.mono fun x ⟨q,e⟩=>⟨(i*r.w+off)::q,by rw[e];simp⟩,M.upd hi hoff hy h1 (cs':=bk.cs) (v:=u) ?_ rfl (fun k=>?_) (fun x _ hx=>hO.off x (fun⟨q,e⟩=>hx q (by rw[e];simp))) hr⟩
 · rw[hO.off b]
   · exact h1
   · rintro⟨q,e⟩;rw[hb1] at e;simp only[W.own.injEq] at e;have:=congrArg List.length e.2;simp at this
 · split
   · rename_i hk;rw[hk,hu]
   · rfl
theorem MS.frame{r:RT}{l:List r.D}{u:V}(M:MS h ω hd p r l u){i:Nat}(hi:i<l.length):MS h ω hd p r (l.set i (l.getD i r.dflt)) u:=by
 have:l.set i (l.getD i r.dflt)=l:=by
  rw[Bu,Ay hi];simp
 rw[this];exact M
theorem Tb{r:RT}{l:List r.D}{i:Nat}(hi:i<l.length)(x:r.D):(l.set i x).getD i r.dflt=x:=by
 rw[Bu,List.getElem?_set_self (by simpa using hi)];rfl
theorem MS.st {r:RT} {l:List r.D} {b n i:Nat} {x:r.D} (M:MS h ω hd p r (l.set i x) (.slice b 0 n)) (hi:i<l.length) {off:Nat} (hoff:off<r.w) {v:V} (hv:v.flat=true) (hvc:v.cells=[v]) {y:r.D} (hy:r.enc y=Ao (r.enc x) off [.fl v])
 (hinj:∀ l l' a q,ω l= .own a q→ω l'= .own a q→l=l') (bx:List (List V)):∃ h',T8 bx h 1 (.ptr b (i*r.w+off)) v=some (.undef,bx,h')∧Only (Ks ω hd p) h h'∧MS h' ω hd p r (l.set i y) (.slice b 0 n):=by
 obtain⟨h',e1,e2,e3⟩:=M.store (i:=i) (off:=off) (by simpa using hi) hoff hv hvc (y:=y) (by rw[Tb hi];exact hy) hinj bx
 rw[List.set_set] at e3
 exact⟨h',e1,e2,e3⟩
theorem MS.sb{r:RT}{l:List r.D}{b n i:Nat}{x:r.D}(M:MS h ω hd p r (l.set i x) (.slice b 0 n))(hi:i<l.length){off:Nat}(hoff:off<r.w){r':RT}{l':List r'.D}(hx:Aa (r.enc x) off= .sl .own (l'.map r'.enc)) :
 ∃ u,Zo h none (.ptr b (i*r.w+off))=some u∧MS h ω hd (p++[i*r.w+off]) r' l' u ∧
   ∀ (h':Ac) (l'':List r'.D) (y:r.D),Only (Ks ω hd (p++[i*r.w+off])) h h'→MS h' ω hd (p++[i*r.w+off]) r' l'' u→r.enc y=Ao (r.enc x) off [.sl .own (l''.map r'.enc)]→Only (Ks ω hd p) h h'∧MS h' ω hd p r (l.set i y) (.slice b 0 n):=by
 obtain⟨u,e1,e2,bk,e3,e4⟩:=M.load (i:=i) (off:=off) (by simpa using hi) hoff (r':=r') (l':=l') (by rw[Tb hi];exact hx)
 refine⟨u,e1,e2,fun h' l'' y hO hM hy=>?_⟩
 obtain⟨k1,k2⟩:=M.sub (i:=i) (off:=off) (by simpa using hi) hoff e3 e4 hO hM (y:=y) (by rw[Tb hi];exact hy)
 rw[List.set_set] at k2
 exact⟨k1,k2⟩
theorem RC.flat1{H:Ac}{m:Md}{x u:V}(r:RC H ω m (.fl x) u)(hx:x≠.undef):u=x:=by
 cases r with
 |undef=>exact absurd rfl hx
 |v=>rfl
end
def SlC(s:A8)(r:RT):Prop:=∀ (h:Ac) (ω:Nat→W) (hd:Hd) (p:List Nat) (l:List r.D) (u:V) (m:Int) (Q:V→Ac→Prop),CT.wl (.sl r) l→(∀ l l' a q,ω l= .own a q→ω l'= .own a q→l=l')→MS h ω hd p r l u →
 (∀ h',Only (Ks ω hd p) h h'→MS h' ω hd p r (Mq r.mkI l m).1 u→Q (.int .i64 (Mq r.mkI l m).2) h')→s [u,.int .i64 m] h Q
def qv(r:RT):DMk:=⟨.one (.sl r),false,fun l=>CT.wl (.sl r) l,fun l m=>Mq r.mkI l m,false⟩
theorem SlC.sound{s:A8}{r:RT}(hs:SlC s r):Vv s (qv r).P:=by
 rintro h ω hd P b AP us u m K Q hinj hu hl hr ⟨x,rfl,hok,hK⟩ hQ;have hu:us=[u]:=hu;subst hu;have h0:=hr 0 (by show 0<1;omega)
 refine hs h ω hd (P++[b]) x u m Q hok hinj h0 fun h' hO hM=>?_
 refine hQ _ _ h' hK rfl (hO.mono fun l ⟨q,e⟩=>⟨0,_,q,by show 0<1;omega,rfl,by rw[e];simp⟩) fun c hc=>?_
 have:c=0:=by have:c<1:=hc;omega
 subst this;exact hM
structure Fn where
 d:DFun
 h:List HT
 q:QT
@[irreducible] def Fn.S(F:Fn):A8:=FO F.d.er.er
@[irreducible] def Fn.P(F:Fn):B5:=DA F.d.er
@[irreducible] def Fn.V(F:Fn)(x:TuX F.h):F.q.D:=(shut fun x=>GG F.d F.h F.q x).1 x
@[irreducible] def Fn.O(F:Fn)(x:TuX F.h):Prop:=(shut fun x=>GB F.d F.h F.q x).1 x
def Fn.D(F:Fn):FU:=G6 F.h F.q F.O F.V
theorem Fn.v(F:Fn)(x:TuX F.h):F.V x=GG F.d F.h F.q x:=by unfold Fn.V;exact congrFun (shut _).2 x
theorem Fn.o(F:Fn)(x:TuX F.h):F.O x=GB F.d F.h F.q x:=by unfold Fn.O;exact congrFun (shut _).2 x
def Fn.A(F:Fn):Prop:=Eo F.S F.P
def Fn.B(F:Fn):Prop:=Jd F.P F.D
theorem CE{F:Fn}(o:AllP F.d.er.body.obs):F.A:=by unfold Fn.A Fn.S Fn.P;exact IQ o
theorem CO{F:Fn}(o:AllD F.d.body.obs)(st:Mk F.d F.h F.q=true)(c:∀ x,L8 F.d F.h F.q x=true):F.B:=by
 unfold Fn.B Fn.P;exact X9 o st c (fun x h=>Eq.mp (F.o x) h) (fun x=>(F.v x).symm)
@[reducible] def oF (i d:Nat) (F:Fn) (args:List Opnd):DOper:=⟨i,some d,.call false F.S F.P F.D args,none,[]⟩
@[reducible] def xF (i d:Nat) (F:Fn) (args:List Opnd) (a:List Nat):DOper:=⟨i,some d,.call false F.S F.P F.D args,none,a⟩
theorem lF{P:Program}(hm:P.follows .mixedOrders=true){F:Fn}{f:FuncId}{fn:Func}{obs:List (FuncId×A8)}(hf:P.funcs[f]?=some fn)(hk:He P fn F.d.er.er=true)(ho:Hg P fn F.d.er.er=obs)(hob:AllSound P obs):AN P f F.S:=by
 unfold Fn.S;exact JK hm hf hk ho hob
section
set_option maxRecDepth 8000
def hF:DCode:=(.seq [2,1,0] (.region [oa 0 6 (.mv (.c (.bool false)))]) (.seq [6] (.region [om 0 7 0,om 1 8 1,oa 2 9 (.bin .geq (.t 7) (.t 8)),om 3 10 9,og 4 11 (.mv (.t 0)) 10 true,og 5 12 (.mv (.t 2)) 10 true,og 6 13 (.bin .leq (.t 11) (.t 12)) 10 true,oa 7 14 (.pick (.t 10) (.t 13) (.c (.bool false))),om 8 6 14]) .ret))
def GU:Fn:=⟨⟨3,15,0,true,[.tmp 6],hF⟩,[.one .frz (.int .i64),.one .frz (.int .i64),.one .frz (.int .i64)],.one (.one .own (.bool))⟩
def DU:Int×Int×Int→Bool:=GU.V
def JL:Int×Int×Int→Prop:=GU.O
def fK:DCode:=(.seq [0] (.region [oa 0 2 (.mv (.c (.bool false)))]) (.seq [2] (.region [om 0 3 0,oa 1 4 (.bin .geq (.t 3) (.c (.int .i64 1))),om 2 5 4,og 3 6 (.mv (.t 0)) 5 true,og 4 7 (.bin .leq (.t 6) (.c (.int .i64 56))) 5 true,oa 5 8 (.pick (.t 5) (.t 7) (.c (.bool false))),om 6 2 8]) .ret))
def HM:Fn:=⟨⟨1,9,0,true,[.tmp 2],fK⟩,[.one .frz (.int .i64)],.one (.one .own (.bool))⟩
theorem fx:HM.A:=CE trivial
def Lf:Int→Bool:=HM.V
def PQ:Int→Prop:=HM.O
theorem fM:HM.B:=CO trivial (by kernel_rfl) (fun x=>by kernel_rfl)
end
section
set_option maxRecDepth 100000
theorem MZ (x):DU x=(bAnd (iGe x.1 x.2.1) (iLe x.1 x.2.2)):=(GU.v x).trans (by kernel_rfl)
theorem P9 (x):JL x=True:=(GU.o x).trans (by kernel_rfl)
theorem ft (x):Lf x=(bAnd (iGe x 1) (iLe x 56)):=(HM.v x).trans (by kernel_rfl)
theorem fN (x):PQ x=True:=(HM.o x).trans (by kernel_rfl)
attribute [irreducible] DU JL Lf PQ
end
section
set_option maxRecDepth 8000
def iK:DCode:=(.seq [1,0] (.region [oi 0 4 0]) (.seq [4] (.region [om 0 5 0,om 1 6 1,oa 2 7 (.bin .shr (.t 5) (.t 6)),oa 3 8 (.bin .and (.t 7) (.c (.int .i64 1))),om 4 4 8]) .ret))
def HV:Fn:=⟨⟨2,9,0,true,[.tmp 4],iK⟩,[.one .frz (.int .i64),.one .frz (.int .i64)],.one (.one .own (.int .i64))⟩
theorem iM:HV.A:=CE trivial
def Nd:Int×Int→Int:=HV.V
def S7:Int×Int→Prop:=HV.O
theorem iT:HV.B:=CO trivial (by kernel_rfl) (fun x=>by kernel_rfl)
end
section
set_option maxRecDepth 100000
theorem iu (x):Nd x=(iAnd .i64 (iShr .i64 x.1 x.2) 1):=(HV.v x).trans (by kernel_rfl)
theorem il (x):S7 x=((0:Int)≤x.2):=(HV.o x).trans (by kernel_rfl)
attribute [irreducible] Nd S7
end
section
set_option maxRecDepth 8000
def dx:DCode:=(.seq [1,0] (.region [oa 0 4 (.mv (.c (.bool false)))]) (.seq [1,0] (.seq [10,1,0] (.region [on 0 6 0,oa 1 7 (.len (.t 6)),on 2 8 1,oa 3 9 (.len (.t 8)),oa 4 10 (.bin .neq (.t 7) (.t 9))]) (.cond (.t 10) (.seq [4] (.region [oa 0 4 (.mv (.c (.bool false)))]) .ret) .skip)) (.seq [] (.seq [13,12,1,0] (.region [on 0 11 0,oa 1 12 (.len (.t 11)),oi 2 13 0]) (.block 0 (.loop [0,1,12,13] 1 (.seq [14,13,12,1,0] (.region [oa 0 14 (.bin .lss (.t 13) (.t 12))]) (.seq [13,12,1,0] (.cond (.t 14) .skip (.exit 0)) (.seq [13,12,1,0] (.block 1 (.seq [13,12,5,1,0] (.region [om 0 15 13,om 1 5 15]) (.seq [24,13,12,1,0] (.region [on 0 16 0,om 1 17 5,xA 2 18 (.indexA 1 (.t 16) (.t 17)) (rg 2),xA 3 19 (.loadH none (.t 18)) (rg 3),on 4 20 1,om 5 21 5,xA 6 22 (.indexA 1 (.t 20) (.t 21)) [4,5],xA 7 23 (.loadH none (.t 22)) [4,5,6],xA 8 24 (.bin .neq (.t 19) (.t 23)) (rg 8)]) (.cond (.t 24) (.seq [4] (.region [oa 0 4 (.mv (.c (.bool false)))]) .ret) .skip)))) (.region [oa 0 25 (.bin .add (.t 13) (.c (.int .i64 1))),om 1 13 25]))))))) (.seq [4] (.region [oa 0 4 (.mv (.c (.bool true)))]) .ret))))
def F2:Fn:=⟨⟨2,26,0,true,[.tmp 4],dx⟩,[.one .frz (.sl (.one (.int .i64))),.one .frz (.sl (.one (.int .i64)))],.one (.one .own (.bool))⟩
theorem dG:F2.A:=CE trivial
def PI:List (Int)×List (Int)→Bool:=F2.V
def Ps:List (Int)×List (Int)→Prop:=F2.O
theorem dH:F2.B:=CO trivial (by kernel_rfl) (fun x=>by kernel_rfl)
def cg:DCode:=(.seq [3,2] (.region [oa 0 2 (.boxB 0 2 (.t 0)),oa 1 3 (.boxB 1 2 (.t 1)),oa 2 4 (.mv (.c (.bool false)))]) (.seq [4] (.region [oa 0 5 (.fieldA 0 (.t 2)),oa 1 6 (.loadB 0 none (.t 5)),oa 2 7 (.fieldA 0 (.t 3)),oa 3 8 (.loadB 1 none (.t 7)),oa 4 9 (.bin .eql (.t 6) (.t 8)),om 5 10 9,og 6 11 (.fieldA 1 (.t 2)) 10 true,og 7 12 (.loadB 0 none (.t 11)) 10 true,og 8 13 (.fieldA 1 (.t 3)) 10 true,og 9 14 (.loadB 1 none (.t 13)) 10 true,⟨10,some 15,.call false F2.S F2.P F2.D [(.t 12),(.t 14)],(some (10,true)),[]⟩,oa 11 16 (.pick (.t 10) (.t 15) (.c (.bool false))),om 12 4 16]) .ret))
def C9:Fn:=⟨⟨2,17,2,true,[.tmp 4],cg⟩,[.agg [(.frz,.int .i64),(.frz,.sl (.one (.int .i64)))],.agg [(.frz,.int .i64),(.frz,.sl (.one (.int .i64)))]],.one (.one .own (.bool))⟩
theorem O6:C9.A:=CE ⟨dG,trivial⟩
def ET:(Int×List (Int))×(Int×List (Int))→Bool:=C9.V
def JD:(Int×List (Int))×(Int×List (Int))→Prop:=C9.O
theorem O9:C9.B:=CO ⟨dH,trivial⟩ (by kernel_rfl) (fun x=>by kernel_rfl)
end
section
set_option maxRecDepth 100000
theorem dD (x):PI x=(bAnd (bNot (iNe (lLen x.1) (lLen x.2))) (bNot (iLt (Ap (fun(x0:Int)=>(bAnd (iLt x0 (lLen x.1)) (bNot (iNe (lGet x.1 (iNat x0) 0) (lGet x.2 (iNat x0) 0))))) (fun(x0:Int)=>(iAdd .i64 x0 1)) 0) (lLen x.1)))):=(F2.v x).trans (by kernel_rfl)
theorem dQ (x):Ps x=(((iNe (lLen x.1) (lLen x.2))=true→True)∧((iNe (lLen x.1) (lLen x.2))=false→(LoopOk (fun(x0:Int)=>(bAnd (iLt x0 (lLen x.1)) (bNot (iNe (lGet x.1 (iNat x0) 0) (lGet x.2 (iNat x0) 0))))) (fun(x0:Int)=>(iAdd .i64 x0 1)) (fun(x0:Int)=>(((iLt x0 (lLen x.1))=true→((((0:Int)≤x0)∧(x0<(((List.length x.1):Int))))∧(((iNat x0)<(List.length x.1))∧((((0:Int)≤x0)∧(x0<(((List.length x.2):Int))))∧((iNat x0)<(List.length x.2))))))∧((iLt x0 (lLen x.1))=false→True))) 0))):=(F2.o x).trans (by kernel_rfl)
theorem ck (x):ET x=(bAnd (iEq x.1.1 x.2.1) (PI (x.1.2,x.2.2))):=(C9.v x).trans (by kernel_rfl)
theorem b6 (x):JD x=(((iEq x.1.1 x.2.1)=true→(Ps (x.1.2,x.2.2)))∧((iEq x.1.1 x.2.1)=false→True)):=(C9.o x).trans (by kernel_rfl)
attribute [irreducible] PI Ps ET JD
end
section
set_option maxRecDepth 8000
def dT:DCode:=(.seq [2,0] (.region [oa 0 2 (.allocB 0 [(.int .i64 0),.nils]),oa 1 3 (.mv (.c (.bool false)))]) (.seq [2,0] (.seq [15,2,0] (.region [on 0 6 0,oa 1 7 (.len (.t 6)),oa 2 8 (.bin .neq (.t 7) (.c (.int .i64 8))),om 3 9 8,⟨4,some 10,.a true (.mv (.t 0)) none,(some (9,false)),[]⟩,og 5 11 (.indexA 1 (.t 10) (.c (.int .i64 0))) 9 false,og 6 12 (.loadH none (.t 11)) 9 false,og 7 13 (.conv .i64 (.t 12)) 9 false,og 8 14 (.bin .gtr (.t 13) (.c (.int .i64 15))) 9 false,oa 9 15 (.pick (.t 9) (.c (.bool true)) (.t 14))]) (.cond (.t 15) (.seq [3,2] (.region [oa 0 16 (.build [(.int .i64 0),.nils] []),os 1 (.storeB 0 2 (.t 2) (.t 16)),oa 2 3 (.mv (.c (.bool false)))]) .ret) .skip)) (.seq [4,2,0] (.region [on 0 17 0,oa 1 18 (.indexA 1 (.t 17) (.c (.int .i64 0))),oa 2 19 (.loadH none (.t 18)),oa 3 20 (.conv .i64 (.t 19)),⟨4,some 21,.a false (.litSlice 1 0 [] []) (some (.one (.int .i64))),none,[]⟩,oa 5 22 (.build [(.int .i64 0),.nils] [(0,1,(.t 20)),(1,1,(.t 21))]),oa 6 4 (.allocB 1 [(.int .i64 0),.nils]),os 7 (.storeB 1 2 (.t 4) (.t 22))]) (.seq [4,2] (.seq [5,4,2,0] (.region [oi 0 5 0]) (.block 0 (.loop [0,2,4,5] 1 (.seq [5,4,2,0] (.seq [24,5,4,2,0] (.region [om 0 23 5,oa 1 24 (.bin .lss (.t 23) (.c (.int .i64 56)))]) (.cond (.t 24) .skip (.exit 0))) (.seq [5,4,2,0] (.block 1 (.seq [38,5,4,2,0] (.region [on 0 27 0,om 1 28 5,oa 2 29 (.bin .quo (.t 28) (.c (.int .i64 8))),oa 3 30 (.bin .add (.c (.int .i64 1)) (.t 29)),oa 4 31 (.indexA 1 (.t 27) (.t 30)),oa 5 32 (.loadH none (.t 31)),oa 6 33 (.conv .i64 (.t 32)),om 7 34 5,oa 8 35 (.bin .rem (.t 34) (.c (.int .i64 8))),oa 9 36 (.bin .shr (.t 33) (.t 35)),oa 10 37 (.bin .and (.t 36) (.c (.int .i64 1))),oa 11 38 (.bin .eql (.t 37) (.c (.int .i64 1)))]) (.cond (.t 38) (.region [oa 0 39 (.fieldA 1 (.t 4)),ob 1 40 (.loadB 1 none (.t 39)),om 2 41 5,oa 3 42 (.bin .add (.t 41) (.c (.int .i64 1))),⟨4,some 43,.a false (.litSlice 1 1 [(.int .i64 0)] [(0,1,(.t 42))]) (some (.one (.int .i64))),none,[]⟩,oa 5 44 (.app 1 (.t 40) (.t 43)),oa 6 45 (.fieldA 1 (.t 4)),os 7 (.storeB 1 1 (.t 45) (.t 44))]) .skip))) (.region [om 0 25 5,oa 1 26 (.bin .add (.t 25) (.c (.int .i64 1))),om 2 5 26])))))) (.seq [3,2] (.region [ob 0 46 (.loadB 1 (some 2) (.t 4)),os 1 (.storeB 0 2 (.t 2) (.t 46)),oa 2 3 (.mv (.c (.bool true)))]) .ret)))))
def PG:Fn:=⟨⟨1,47,2,false,[.cell 2 (some 2),.tmp 3],dT⟩,[.one .frz (.sl (.one (.int .u8)))],.tup [.agg [(.own,.int .i64),(.own,.sl (.one (.int .i64)))],.one .own (.bool)]⟩
def K4:List (Int)→(Int×List (Int))×Bool:=PG.V
def SK:List (Int)→Prop:=PG.O
def dY:DCode:=(.seq [2,0] (.region [oa 0 2 (.allocB 0 [(.int .i64 0),.nils]),oa 1 3 (.mv (.c (.bool false)))]) (.seq [2,0] (.seq [14,2,0] (.region [on 0 6 0,oa 1 7 (.len (.t 6)),oa 2 8 (.bin .neq (.t 7) (.c (.int .i64 8))),om 3 9 8,⟨4,some 10,.a true (.mv (.t 0)) none,(some (9,false)),[]⟩,og 5 11 (.indexA 1 (.t 10) (.c (.int .i64 0))) 9 false,og 6 12 (.loadH none (.t 11)) 9 false,og 7 13 (.bin .gtr (.t 12) (.c (.int .u8 15))) 9 false,oa 8 14 (.pick (.t 9) (.c (.bool true)) (.t 13))]) (.cond (.t 14) (.seq [3,2] (.region [oa 0 15 (.build [(.int .i64 0),.nils] []),os 1 (.storeB 0 2 (.t 2) (.t 15)),oa 2 3 (.mv (.c (.bool false)))]) .ret) .skip)) (.seq [4,2,0] (.region [on 0 16 0,oa 1 17 (.indexA 1 (.t 16) (.c (.int .i64 0))),oa 2 18 (.loadH none (.t 17)),oa 3 19 (.conv .i64 (.t 18)),oa 4 20 (.build [(.int .i64 0),.nils] [(0,1,(.t 19))]),oa 5 4 (.allocB 1 [(.int .i64 0),.nils]),os 6 (.storeB 1 2 (.t 4) (.t 20))]) (.seq [4,2] (.seq [5,4,2,0] (.region [oi 0 5 1]) (.block 0 (.loop [0,2,4,5] 1 (.seq [5,4,2,0] (.seq [22,5,4,2,0] (.region [om 0 21 5,oa 1 22 (.bin .leq (.t 21) (.c (.int .i64 56)))]) (.cond (.t 22) .skip (.exit 0))) (.seq [5,4,2,0] (.block 1 (.seq [37,5,4,2,0] (.region [on 0 25 0,om 1 26 5,oa 2 27 (.bin .sub (.t 26) (.c (.int .i64 1))),oa 3 28 (.bin .quo (.t 27) (.c (.int .i64 8))),oa 4 29 (.bin .add (.c (.int .i64 1)) (.t 28)),oa 5 30 (.indexA 1 (.t 25) (.t 29)),oa 6 31 (.loadH none (.t 30)),om 7 32 5,oa 8 33 (.bin .sub (.t 32) (.c (.int .i64 1))),oa 9 34 (.bin .rem (.t 33) (.c (.int .i64 8))),oa 10 35 (.bin .shr (.t 31) (.t 34)),oa 11 36 (.bin .and (.t 35) (.c (.int .u8 1))),oa 12 37 (.bin .eql (.t 36) (.c (.int .u8 1)))]) (.cond (.t 37) (.region [oa 0 38 (.fieldA 1 (.t 4)),ob 1 39 (.loadB 1 none (.t 38)),om 2 40 5,⟨3,some 41,.a false (.litSlice 1 1 [(.int .i64 0)] [(0,1,(.t 40))]) (some (.one (.int .i64))),none,[]⟩,oa 4 42 (.app 1 (.t 39) (.t 41)),oa 5 43 (.fieldA 1 (.t 4)),os 6 (.storeB 1 1 (.t 43) (.t 42))]) .skip))) (.region [om 0 23 5,oa 1 24 (.bin .add (.t 23) (.c (.int .i64 1))),om 2 5 24])))))) (.seq [3,2] (.region [ob 0 44 (.loadB 1 (some 2) (.t 4)),os 1 (.storeB 0 2 (.t 2) (.t 44)),oa 2 3 (.mv (.c (.bool true)))]) .ret)))))
def HJ:Fn:=⟨⟨1,45,2,false,[.cell 2 (some 2),.tmp 3],dY⟩,[.one .frz (.sl (.one (.int .u8)))],.tup [.agg [(.own,.int .i64),(.own,.sl (.one (.int .i64)))],.one .own (.bool)]⟩
theorem dO:HJ.A:=CE trivial
def FC:List (Int)→(Int×List (Int))×Bool:=HJ.V
def Pr:List (Int)→Prop:=HJ.O
theorem de:HJ.B:=CO trivial (by kernel_rfl) (fun x=>by kernel_rfl)
end
section
set_option maxRecDepth 100000
def GM(x0:(Int×(List Int))):Bool:=(iLt x0.1 56)
def Hz(x:List (Int))(x0:(Int×(List Int))):(Int×(List Int)):=((iAdd .i64 x0.1 1),(bSel (iEq (iAnd .i64 (iShr .i64 (iConv .i64 (lGet x (iNat (iAdd .i64 1 (iQuo .i64 x0.1 8))) 0)) (iRem x0.1 8)) 1) 1) (lApp x0.2 [(iAdd .i64 x0.1 1)]) x0.2))
def Ph(x:List (Int))(x0:(Int×(List Int))):Prop:=(((iLt x0.1 56)=true→(((8:Int)≠0)∧((((0:Int)≤(iAdd .i64 1 (iQuo .i64 x0.1 8)))∧((iAdd .i64 1 (iQuo .i64 x0.1 8))<(((List.length x):Int))))∧(((iNat (iAdd .i64 1 (iQuo .i64 x0.1 8)))<(List.length x))∧(((8:Int)≠0)∧(((0:Int)≤(iRem x0.1 8))∧(((iEq (iAnd .i64 (iShr .i64 (iConv .i64 (lGet x (iNat (iAdd .i64 1 (iQuo .i64 x0.1 8))) 0)) (iRem x0.1 8)) 1) 1)=true→(Aw (((List.length x0.2)+(List.length [(iAdd .i64 x0.1 1)]))*1)))∧((iEq (iAnd .i64 (iShr .i64 (iConv .i64 (lGet x (iNat (iAdd .i64 1 (iQuo .i64 x0.1 8))) 0)) (iRem x0.1 8)) 1) 1)=false→True))))))))∧((iLt x0.1 56)=false→True))
theorem WA (x):K4 x=(bSel (bOr (iNe (lLen x) 8) (iGt (iConv .i64 (lGet x (iNat 0) 0)) 15)) ((0,[]),false) (((iConv .i64 (lGet x (iNat 0) 0)),(Ap GM (Hz x) (0,[])).2),true)):=(PG.v x).trans (by kernel_rfl)
theorem dP (x):SK x=((((iNe (lLen x) 8)=true→True)∧((iNe (lLen x) 8)=false→((((0:Int)≤0)∧((0:Int)<(((List.length x):Int))))∧((iNat 0)<(List.length x)))))∧(((bOr (iNe (lLen x) 8) (iGt (iConv .i64 (lGet x (iNat 0) 0)) 15))=true→True)∧((bOr (iNe (lLen x) 8) (iGt (iConv .i64 (lGet x (iNat 0) 0)) 15))=false→((((0:Int)≤0)∧((0:Int)<(((List.length x):Int))))∧(((iNat 0)<(List.length x))∧(LoopOk GM (Hz x) (Ph x) (0,[]))))))):=(PG.o x).trans (by kernel_rfl)
def KQ(x0:(Int×(List Int))):Bool:=(iLe x0.1 56)
def KL(x:List (Int))(x0:(Int×(List Int))):(Int×(List Int)):=((iAdd .i64 x0.1 1),(bSel (iEq (iAnd .u8 (iShr .u8 (lGet x (iNat (iAdd .i64 1 (iQuo .i64 (iSub .i64 x0.1 1) 8))) 0) (iRem (iSub .i64 x0.1 1) 8)) 1) 1) (lApp x0.2 [x0.1]) x0.2))
def Pf(x:List (Int))(x0:(Int×(List Int))):Prop:=(((iLe x0.1 56)=true→(((8:Int)≠0)∧((((0:Int)≤(iAdd .i64 1 (iQuo .i64 (iSub .i64 x0.1 1) 8)))∧((iAdd .i64 1 (iQuo .i64 (iSub .i64 x0.1 1) 8))<(((List.length x):Int))))∧(((iNat (iAdd .i64 1 (iQuo .i64 (iSub .i64 x0.1 1) 8)))<(List.length x))∧(((8:Int)≠0)∧(((0:Int)≤(iRem (iSub .i64 x0.1 1) 8))∧(((iEq (iAnd .u8 (iShr .u8 (lGet x (iNat (iAdd .i64 1 (iQuo .i64 (iSub .i64 x0.1 1) 8))) 0) (iRem (iSub .i64 x0.1 1) 8)) 1) 1)=true→(Aw (((List.length x0.2)+(List.length [x0.1]))*1)))∧((iEq (iAnd .u8 (iShr .u8 (lGet x (iNat (iAdd .i64 1 (iQuo .i64 (iSub .i64 x0.1 1) 8))) 0) (iRem (iSub .i64 x0.1 1) 8)) 1) 1)=false→True))))))))∧((iLe x0.1 56)=false→True))
theorem dn (x):FC x=(bSel (bOr (iNe (lLen x) 8) (iGt (lGet x (iNat 0) 0) 15)) ((0,[]),false) (((iConv .i64 (lGet x (iNat 0) 0)),(Ap KQ (KL x) (1,[])).2),true)):=(HJ.v x).trans (by kernel_rfl)
theorem dE (x):Pr x=((((iNe (lLen x) 8)=true→True)∧((iNe (lLen x) 8)=false→((((0:Int)≤0)∧((0:Int)<(((List.length x):Int))))∧((iNat 0)<(List.length x)))))∧(((bOr (iNe (lLen x) 8) (iGt (lGet x (iNat 0) 0) 15))=true→True)∧((bOr (iNe (lLen x) 8) (iGt (lGet x (iNat 0) 0) 15))=false→((((0:Int)≤0)∧((0:Int)<(((List.length x):Int))))∧(((iNat 0)<(List.length x))∧(LoopOk KQ (KL x) (Pf x) (1,[]))))))):=(HJ.o x).trans (by kernel_rfl)
attribute [irreducible] K4 SK FC Pr
end
section
set_option maxRecDepth 8000
def dr:DCode:=(.seq [1] (.region [oa 0 1 (.boxB 0 2 (.t 0)),oa 1 2 (.mv (.c (.bool false)))]) (.seq [1] (.seq [3,1] (.region [oi 0 3 0]) (.block 0 (.loop [1,3] 1 (.seq [3,1] (.seq [8,3,1] (.region [om 0 4 3,oa 1 5 (.fieldA 1 (.t 1)),oa 2 6 (.loadB 0 none (.t 5)),oa 3 7 (.len (.t 6)),oa 4 8 (.bin .lss (.t 4) (.t 7))]) (.cond (.t 8) .skip (.exit 0))) (.seq [3,1] (.block 1 (.seq [35,3,1] (.region [oa 0 11 (.fieldA 1 (.t 1)),xA 1 12 (.loadB 0 none (.t 11)) (rg 1),om 2 13 3,xA 3 14 (.indexA 1 (.t 12) (.t 13)) (rg 3),xA 4 15 (.loadH none (.t 14)) (rg 4),xF 5 16 GU [(.t 15),(.c (.int .i64 1)),(.c (.int .i64 56))] (rg 5),xA 6 17 (.un .not (.t 16)) (rg 6),xA 7 18 (.mv (.t 17)) (rg 7),⟨8,some 19,.a false (.mv (.t 3)) none,(some (18,false)),[0,1,2,3,4,5,6,7]⟩,⟨9,some 20,.a false (.bin .gtr (.t 19) (.c (.int .i64 0))) none,(some (18,false)),[0,1,2,3,4,5,6,7,8]⟩,⟨10,some 21,.a false (.mv (.t 20)) none,(some (18,false)),[0,1,2,3,4,5,6,7,8,9]⟩,⟨11,some 22,.a false (.fieldA 1 (.t 1)) none,(some (21,true)),[0,1,2,3,4,5,6,7,8,9,10]⟩,⟨12,some 23,.a false (.loadB 0 none (.t 22)) none,(some (21,true)),[0,1,2,3,4,5,6,7,8,9,10,11]⟩,⟨13,some 24,.a false (.mv (.t 3)) none,(some (21,true)),[0,1,2,3,4,5,6,7,8,9,10]⟩,⟨14,some 25,.a false (.bin .sub (.t 24) (.c (.int .i64 1))) none,(some (21,true)),[0,1,2,3,4,5,6,7,8,9,10,13]⟩,⟨15,some 26,.a false (.indexA 1 (.t 23) (.t 25)) none,(some (21,true)),[0,1,2,3,4,5,6,7,8,9,10,11,12,13,14]⟩,⟨16,some 27,.a false (.loadH none (.t 26)) none,(some (21,true)),[0,1,2,3,4,5,6,7,8,9,10,11,12,13,14,15]⟩,⟨17,some 28,.a false (.fieldA 1 (.t 1)) none,(some (21,true)),[0,1,2,3,4,5,6,7,8,9,10]⟩,⟨18,some 29,.a false (.loadB 0 none (.t 28)) none,(some (21,true)),[0,1,2,3,4,5,6,7,8,9,10,17]⟩,⟨19,some 30,.a false (.mv (.t 3)) none,(some (21,true)),[0,1,2,3,4,5,6,7,8,9,10]⟩,⟨20,some 31,.a false (.indexA 1 (.t 29) (.t 30)) none,(some (21,true)),[0,1,2,3,4,5,6,7,8,9,10,17,18,19]⟩,⟨21,some 32,.a false (.loadH none (.t 31)) none,(some (21,true)),[0,1,2,3,4,5,6,7,8,9,10,17,18,19,20]⟩,⟨22,some 33,.a false (.bin .geq (.t 27) (.t 32)) none,(some (21,true)),[0,1,2,3,4,5,6,7,8,9,10,11,12,13,14,15,16,17,18,19,20,21]⟩,⟨23,some 34,.a false (.pick (.t 21) (.t 33) (.c (.bool false))) none,(some (18,false)),[0,1,2,3,4,5,6,7,8,9,10,11,12,13,14,15,16,17,18,19,20,21,22]⟩,xA 24 35 (.pick (.t 18) (.c (.bool true)) (.t 34)) (rg 24)]) (.cond (.t 35) (.seq [2] (.region [oa 0 2 (.mv (.c (.bool false)))]) .ret) .skip))) (.region [om 0 9 3,oa 1 10 (.bin .add (.t 9) (.c (.int .i64 1))),om 2 3 10])))))) (.seq [2] (.region [oa 0 36 (.fieldA 0 (.t 1)),oa 1 37 (.loadB 0 none (.t 36)),oF 2 38 GU [(.t 37),(.c (.int .i64 0)),(.c (.int .i64 15))],om 3 2 38]) .ret)))
def F3:Fn:=⟨⟨1,39,1,true,[.tmp 2],dr⟩,[.agg [(.frz,.int .i64),(.frz,.sl (.one (.int .i64)))]],.one (.one .own (.bool))⟩
def BI:Int×List (Int)→Bool:=F3.V
def HE:Int×List (Int)→Prop:=F3.O
def ew:DCode:=(.seq [1] (.region [oa 0 1 (.boxB 0 2 (.t 0)),oa 1 2 (.mv (.c .nils))]) (.seq [1] (.seq [8,1] (.region [oa 0 6 (.loadB 0 (some 2) (.t 1)),oF 1 7 F3 [(.t 6)],oa 2 8 (.un .not (.t 7))]) (.cond (.t 8) (.seq [2] (.region [⟨0,some 9,.a false (.litSlice 1 0 [] []) (some (.one (.int .u8))),none,[]⟩,om 1 2 9]) .ret) .skip)) (.seq [3,1] (.region [⟨0,some 10,.a false (.mkSlice 1 [(.int .u8 0)] (.c (.int .i64 8))) (some (.one (.int .u8))),none,[]⟩,om 1 3 10]) (.seq [3,1] (.region [on 0 11 3,oa 1 12 (.fieldA 0 (.t 1)),oa 2 13 (.loadB 0 none (.t 12)),oa 3 14 (.conv .u8 (.t 13)),oa 4 15 (.indexA 1 (.t 11) (.c (.int .i64 0))),os 5 (.storeH 1 (.t 15) (.t 14))]) (.seq [3] (.seq [4,3,1] (.region [oi 0 4 0]) (.block 0 (.loop [1,3,4] 1 (.seq [4,3,1] (.seq [20,4,3,1] (.region [om 0 16 4,oa 1 17 (.fieldA 1 (.t 1)),oa 2 18 (.loadB 0 none (.t 17)),oa 3 19 (.len (.t 18)),oa 4 20 (.bin .lss (.t 16) (.t 19))]) (.cond (.t 20) .skip (.exit 0))) (.seq [4,3,1] (.block 1 (.seq [5,4,3,1] (.region [oa 0 23 (.fieldA 1 (.t 1)),oa 1 24 (.loadB 0 none (.t 23)),om 2 25 4,oa 3 26 (.indexA 1 (.t 24) (.t 25)),oa 4 27 (.loadH none (.t 26)),oa 5 28 (.bin .sub (.t 27) (.c (.int .i64 1))),om 6 5 28]) (.region [on 0 29 3,om 1 30 5,xA 2 31 (.bin .quo (.t 30) (.c (.int .i64 8))) [1],xA 3 32 (.bin .add (.c (.int .i64 1)) (.t 31)) [1,2],on 4 33 3,om 5 34 5,xA 6 35 (.bin .quo (.t 34) (.c (.int .i64 8))) [5],xA 7 36 (.bin .add (.c (.int .i64 1)) (.t 35)) [5,6],xA 8 37 (.indexA 1 (.t 33) (.t 36)) [4,5,6,7],xA 9 38 (.loadH none (.t 37)) [4,5,6,7,8],om 10 39 5,xA 11 40 (.bin .rem (.t 39) (.c (.int .i64 8))) [10],xA 12 41 (.bin .shl (.c (.int .u8 1)) (.t 40)) [10,11],xA 13 42 (.bin .or (.t 38) (.t 41)) [4,5,6,7,8,9,10,11,12],xA 14 43 (.indexA 1 (.t 29) (.t 32)) (rg 14),xS 15 (.storeH 1 (.t 43) (.t 42)) (rg 15)]))) (.region [om 0 21 4,oa 1 22 (.bin .add (.t 21) (.c (.int .i64 1))),om 2 4 22])))))) (.seq [2] (.region [om 0 44 3,om 1 2 44]) .ret))))))
def PM:Fn:=⟨⟨1,45,1,false,[.tmp 2],ew⟩,[.agg [(.frz,.int .i64),(.frz,.sl (.one (.int .i64)))]],.one (.one .own (.sl (.one (.int .u8))))⟩
def JH:Int×List (Int)→List (Int):=PM.V
def SL:Int×List (Int)→Prop:=PM.O
def eF:DCode:=(.seq [1] (.region [oa 0 1 (.boxB 0 2 (.t 0)),oa 1 2 (.mv (.c (.bool false)))]) (.seq [1] (.seq [12,1] (.region [oa 0 5 (.fieldA 0 (.t 1)),oa 1 6 (.loadB 0 none (.t 5)),oa 2 7 (.bin .lss (.t 6) (.c (.int .i64 0))),om 3 8 7,og 4 9 (.fieldA 0 (.t 1)) 8 false,og 5 10 (.loadB 0 none (.t 9)) 8 false,og 6 11 (.bin .gtr (.t 10) (.c (.int .i64 15))) 8 false,oa 7 12 (.pick (.t 8) (.c (.bool true)) (.t 11))]) (.cond (.t 12) (.seq [2] (.region [oa 0 2 (.mv (.c (.bool false)))]) .ret) .skip)) (.seq [] (.seq [16,15,14,1] (.region [oa 0 13 (.fieldA 1 (.t 1)),oa 1 14 (.loadB 0 none (.t 13)),oa 2 15 (.len (.t 14)),oi 3 16 0]) (.block 0 (.loop [1,14,15,16] 1 (.seq [17,16,15,14,1] (.region [oa 0 17 (.bin .lss (.t 16) (.t 15))]) (.seq [16,15,14,1] (.cond (.t 17) .skip (.exit 0)) (.seq [16,15,14,1] (.block 1 (.seq [16,15,14,4,3,1] (.region [om 0 18 16,oa 1 19 (.indexA 1 (.t 14) (.t 16)),oa 2 20 (.loadH none (.t 19)),om 3 3 18,om 4 4 20]) (.seq [37,16,15,14,1] (.region [om 0 21 4,oF 1 22 HM [(.t 21)],oa 2 23 (.un .not (.t 22)),om 3 24 23,og 4 25 (.mv (.t 3)) 24 false,og 5 26 (.bin .gtr (.t 25) (.c (.int .i64 0))) 24 false,og 6 27 (.mv (.t 26)) 24 false,og 7 28 (.fieldA 1 (.t 1)) 27 true,og 8 29 (.loadB 0 none (.t 28)) 27 true,og 9 30 (.mv (.t 3)) 27 true,og 10 31 (.bin .sub (.t 30) (.c (.int .i64 1))) 27 true,og 11 32 (.indexA 1 (.t 29) (.t 31)) 27 true,og 12 33 (.loadH none (.t 32)) 27 true,og 13 34 (.mv (.t 4)) 27 true,og 14 35 (.bin .geq (.t 33) (.t 34)) 27 true,og 15 36 (.pick (.t 27) (.t 35) (.c (.bool false))) 24 false,oa 16 37 (.pick (.t 24) (.c (.bool true)) (.t 36))]) (.cond (.t 37) (.seq [2] (.region [oa 0 2 (.mv (.c (.bool false)))]) .ret) .skip)))) (.region [oa 0 38 (.bin .add (.t 16) (.c (.int .i64 1))),om 1 16 38]))))))) (.seq [2] (.region [oa 0 2 (.mv (.c (.bool true)))]) .ret))))
def CP:Fn:=⟨⟨1,39,1,true,[.tmp 2],eF⟩,[.agg [(.frz,.int .i64),(.frz,.sl (.one (.int .i64)))]],.one (.one .own (.bool))⟩
theorem KX:CP.A:=CE ⟨fx,trivial⟩
def Cz:Int×List (Int)→Bool:=CP.V
def GN:Int×List (Int)→Prop:=CP.O
theorem KW:CP.B:=CO ⟨fM,trivial⟩ (by kernel_rfl) (fun x=>by kernel_rfl)
def dS:DCode:=(.seq [1] (.region [oa 0 1 (.boxB 0 2 (.t 0)),oa 1 2 (.mv (.c .nils))]) (.seq [1] (.seq [8,1] (.region [oa 0 6 (.loadB 0 (some 2) (.t 1)),oF 1 7 CP [(.t 6)],oa 2 8 (.un .not (.t 7))]) (.cond (.t 8) (.seq [2] (.region [oa 0 2 (.mv (.c .nils))]) .ret) .skip)) (.seq [3,1] (.region [⟨0,some 9,.a false (.mkSlice 1 [(.int .u8 0)] (.c (.int .i64 8))) (some (.one (.int .u8))),none,[]⟩,om 1 3 9]) (.seq [3,1] (.region [on 0 10 3,oa 1 11 (.fieldA 0 (.t 1)),oa 2 12 (.loadB 0 none (.t 11)),oa 3 13 (.conv .u8 (.t 12)),oa 4 14 (.indexA 1 (.t 10) (.c (.int .i64 0))),os 5 (.storeH 1 (.t 14) (.t 13))]) (.seq [3] (.seq [18,17,16,3] (.region [oa 0 15 (.fieldA 1 (.t 1)),oa 1 16 (.loadB 0 none (.t 15)),oa 2 17 (.len (.t 16)),oi 3 18 0]) (.block 0 (.loop [3,16,17,18] 1 (.seq [19,18,17,16,3] (.region [oa 0 19 (.bin .lss (.t 18) (.t 17))]) (.seq [18,17,16,3] (.cond (.t 19) .skip (.exit 0)) (.seq [18,17,16,3] (.block 1 (.seq [18,17,16,5,3] (.region [oa 0 20 (.indexA 1 (.t 16) (.t 18)),oa 1 21 (.loadH none (.t 20)),om 2 5 21]) (.region [on 0 22 3,om 1 23 5,xA 2 24 (.bin .sub (.t 23) (.c (.int .i64 1))) [1],xA 3 25 (.bin .quo (.t 24) (.c (.int .i64 8))) [1,2],xA 4 26 (.bin .add (.c (.int .i64 1)) (.t 25)) [1,2,3],xA 5 27 (.indexA 1 (.t 22) (.t 26)) (rg 5),xA 6 28 (.loadH none (.t 27)) (rg 6),om 7 29 5,xA 8 30 (.bin .sub (.t 29) (.c (.int .i64 1))) [7],xA 9 31 (.bin .rem (.t 30) (.c (.int .i64 8))) [7,8],xA 10 32 (.bin .shl (.c (.int .u8 1)) (.t 31)) [7,8,9],xA 11 33 (.bin .or (.t 28) (.t 32)) (rg 11),xA 12 34 (.indexA 1 (.t 22) (.t 26)) (rg 12),xS 13 (.storeH 1 (.t 34) (.t 33)) (rg 13)]))) (.region [oa 0 35 (.bin .add (.t 18) (.c (.int .i64 1))),om 1 18 35]))))))) (.seq [2] (.region [om 0 36 3,om 1 2 36]) .ret))))))
def HG:Fn:=⟨⟨1,37,1,false,[.tmp 2],dS⟩,[.agg [(.frz,.int .i64),(.frz,.sl (.one (.int .i64)))]],.one (.one .own (.sl (.one (.int .u8))))⟩
theorem dA:HG.A:=CE ⟨KX,trivial⟩
def EX:Int×List (Int)→List (Int):=HG.V
def Pu:Int×List (Int)→Prop:=HG.O
theorem dK:HG.B:=CO ⟨KW,trivial⟩ (by kernel_rfl) (fun x=>by kernel_rfl)
def cu:DCode:=(.seq [1] (.region [oa 0 1 (.boxB 0 2 (.t 0)),oa 1 2 (.mv (.c .nils))]) (.seq [1] (.seq [7,1] (.region [oa 0 5 (.loadB 0 (some 2) (.t 1)),oF 1 6 F3 [(.t 5)],oa 2 7 (.un .not (.t 6))]) (.cond (.t 7) (.seq [2] (.region [⟨0,some 8,.a false (.litSlice 1 0 [] []) (some (.one (.int .u8))),none,[]⟩,om 1 2 8]) .ret) .skip)) (.seq [3,1] (.region [oa 0 9 (.fieldA 0 (.t 1)),oa 1 10 (.loadB 0 none (.t 9)),oa 2 11 (.conv .u8 (.t 10)),⟨3,some 12,.a false (.litSlice 1 8 [(.int .u8 0),(.int .u8 0),(.int .u8 0),(.int .u8 0),(.int .u8 0),(.int .u8 0),(.int .u8 0),(.int .u8 0)] [(0,1,(.t 11)),(1,1,(.c (.int .u8 0))),(2,1,(.c (.int .u8 0))),(3,1,(.c (.int .u8 0))),(4,1,(.c (.int .u8 0))),(5,1,(.c (.int .u8 0))),(6,1,(.c (.int .u8 0))),(7,1,(.c (.int .u8 0)))]) (some (.one (.int .u8))),none,[]⟩,om 4 3 12]) (.seq [3] (.seq [4,3,1] (.region [oi 0 4 0]) (.block 0 (.loop [1,3,4] 1 (.seq [4,3,1] (.seq [14,4,3,1] (.region [om 0 13 4,oa 1 14 (.bin .lss (.t 13) (.c (.int .i64 6)))]) (.cond (.t 14) .skip (.exit 0))) (.seq [4,3,1] (.block 1 (.seq [20,4,3,1] (.region [oa 0 17 (.fieldA 1 (.t 1)),oa 1 18 (.loadB 0 none (.t 17)),oa 2 19 (.len (.t 18)),oa 3 20 (.bin .gtr (.t 19) (.c (.int .i64 6)))]) (.cond (.t 20) (.region [on 0 21 3,om 1 22 4,oa 2 23 (.bin .add (.c (.int .i64 2)) (.t 22)),oa 3 24 (.indexA 1 (.t 21) (.t 23)),os 4 (.storeH 1 (.t 24) (.c (.int .u8 1)))]) (.seq [29,4,3,1] (.region [om 0 25 4,oa 1 26 (.fieldA 1 (.t 1)),oa 2 27 (.loadB 0 none (.t 26)),oa 3 28 (.len (.t 27)),oa 4 29 (.bin .lss (.t 25) (.t 28))]) (.cond (.t 29) (.region [on 0 30 3,om 1 31 4,oa 2 32 (.bin .add (.c (.int .i64 2)) (.t 31)),oa 3 33 (.fieldA 1 (.t 1)),oa 4 34 (.loadB 0 none (.t 33)),om 5 35 4,oa 6 36 (.indexA 1 (.t 34) (.t 35)),oa 7 37 (.loadH none (.t 36)),oa 8 38 (.bin .add (.t 37) (.c (.int .i64 3))),oa 9 39 (.conv .u8 (.t 38)),oa 10 40 (.indexA 1 (.t 30) (.t 32)),os 11 (.storeH 1 (.t 40) (.t 39))]) .skip))))) (.region [om 0 15 4,oa 1 16 (.bin .add (.t 15) (.c (.int .i64 1))),om 2 4 16])))))) (.seq [2] (.region [om 0 41 3,om 1 2 41]) .ret)))))
def Py:Fn:=⟨⟨1,42,1,false,[.tmp 2],cu⟩,[.agg [(.frz,.int .i64),(.frz,.sl (.one (.int .i64)))]],.one (.one .own (.sl (.one (.int .u8))))⟩
def IC:Int×List (Int)→List (Int):=Py.V
def SH:Int×List (Int)→Prop:=Py.O
def cv:DCode:=(.seq [1] (.region [oa 0 1 (.boxB 0 2 (.t 0)),oa 1 2 (.mv (.c .nils))]) (.seq [1] (.seq [7,1] (.region [oa 0 5 (.loadB 0 (some 2) (.t 1)),oF 1 6 CP [(.t 5)],oa 2 7 (.un .not (.t 6))]) (.cond (.t 7) (.seq [2] (.region [oa 0 2 (.mv (.c .nils))]) .ret) .skip)) (.seq [3,1] (.region [⟨0,some 8,.a false (.mkSlice 1 [(.int .u8 0)] (.c (.int .i64 8))) (some (.one (.int .u8))),none,[]⟩,om 1 3 8]) (.seq [3,1] (.region [on 0 9 3,oa 1 10 (.fieldA 0 (.t 1)),oa 2 11 (.loadB 0 none (.t 10)),oa 3 12 (.conv .u8 (.t 11)),oa 4 13 (.indexA 1 (.t 9) (.c (.int .i64 0))),os 5 (.storeH 1 (.t 13) (.t 12))]) (.seq [3] (.seq [4,3,1] (.region [oi 0 4 0]) (.block 0 (.loop [1,3,4] 1 (.seq [4,3,1] (.seq [15,4,3,1] (.region [om 0 14 4,oa 1 15 (.bin .lss (.t 14) (.c (.int .i64 6)))]) (.cond (.t 15) .skip (.exit 0))) (.seq [4,3,1] (.block 1 (.block 2 (.seq [18,4,3,1] (.region [oa 0 19 (.fieldA 1 (.t 1)),oa 1 20 (.loadB 0 none (.t 19)),oa 2 21 (.len (.t 20)),oa 3 22 (.bin .gtr (.t 21) (.c (.int .i64 6))),om 4 18 22]) (.cond (.t 18) (.region [on 0 23 3,om 1 24 4,oa 2 25 (.bin .add (.t 24) (.c (.int .i64 2))),oa 3 26 (.indexA 1 (.t 23) (.t 25)),os 4 (.storeH 1 (.t 26) (.c (.int .u8 1)))]) (.seq [27,4,3,1] (.region [om 0 28 4,oa 1 29 (.fieldA 1 (.t 1)),oa 2 30 (.loadB 0 none (.t 29)),oa 3 31 (.len (.t 30)),oa 4 32 (.bin .lss (.t 28) (.t 31)),om 5 27 32]) (.cond (.t 27) (.region [on 0 33 3,om 1 34 4,oa 2 35 (.bin .add (.t 34) (.c (.int .i64 2))),oa 3 36 (.fieldA 1 (.t 1)),oa 4 37 (.loadB 0 none (.t 36)),om 5 38 4,oa 6 39 (.indexA 1 (.t 37) (.t 38)),oa 7 40 (.loadH none (.t 39)),oa 8 41 (.bin .add (.t 40) (.c (.int .i64 3))),oa 9 42 (.conv .u8 (.t 41)),oa 10 43 (.indexA 1 (.t 33) (.t 35)),os 11 (.storeH 1 (.t 43) (.t 42))]) .skip)))))) (.region [om 0 16 4,oa 1 17 (.bin .add (.t 16) (.c (.int .i64 1))),om 2 4 17])))))) (.seq [2] (.region [om 0 44 3,om 1 2 44]) .ret))))))
def EW:Fn:=⟨⟨1,45,1,false,[.tmp 2],cv⟩,[.agg [(.frz,.int .i64),(.frz,.sl (.one (.int .i64)))]],.one (.one .own (.sl (.one (.int .u8))))⟩
theorem Wp:EW.A:=CE ⟨KX,trivial⟩
def DN:Int×List (Int)→List (Int):=EW.V
def ME:Int×List (Int)→Prop:=EW.O
theorem Wj:EW.B:=CO ⟨KW,trivial⟩ (by kernel_rfl) (fun x=>by kernel_rfl)
def dt:DCode:=(.seq [4,3,0] (.region [oa 0 3 (.boxB 0 2 (.t 1)),oa 1 4 (.allocB 1 [(.int .i64 0),.nils]),oa 2 5 (.mv (.c (.bool false)))]) (.seq [4,3,0] (.seq [29,4,3,0] (.region [on 0 9 0,oa 1 10 (.len (.t 9)),oa 2 11 (.bin .neq (.t 10) (.c (.int .i64 8))),om 3 12 11,⟨4,some 13,.a true (.mv (.t 0)) none,(some (12,false)),[]⟩,og 5 14 (.indexA 1 (.t 13) (.c (.int .i64 0))) 12 false,og 6 15 (.loadH none (.t 14)) 12 false,og 7 16 (.conv .i64 (.t 15)) 12 false,og 8 17 (.bin .gtr (.t 16) (.c (.int .i64 15))) 12 false,oa 9 18 (.pick (.t 12) (.c (.bool true)) (.t 17)),om 10 19 18,⟨11,some 20,.a true (.mv (.t 0)) none,(some (19,false)),[]⟩,og 12 21 (.indexA 1 (.t 20) (.c (.int .i64 1))) 19 false,og 13 22 (.loadH none (.t 21)) 19 false,og 14 23 (.bin .neq (.t 22) (.c (.int .u8 0))) 19 false,oa 15 24 (.pick (.t 19) (.c (.bool true)) (.t 23)),om 16 25 24,og 17 26 (.loadB 0 (some 2) (.t 3)) 25 false,⟨18,some 27,.call false F3.S F3.P F3.D [(.t 26)],(some (25,false)),[]⟩,og 19 28 (.un .not (.t 27)) 25 false,oa 20 29 (.pick (.t 25) (.c (.bool true)) (.t 28))]) (.cond (.t 29) (.seq [5,4] (.region [oa 0 30 (.build [(.int .i64 0),.nils] []),os 1 (.storeB 1 2 (.t 4) (.t 30)),oa 2 5 (.mv (.c (.bool false)))]) .ret) .skip)) (.seq [6,4,3,0] (.region [on 0 31 0,oa 1 32 (.indexA 1 (.t 31) (.c (.int .i64 0))),oa 2 33 (.loadH none (.t 32)),oa 3 34 (.conv .i64 (.t 33)),⟨4,some 35,.a false (.litSlice 1 0 [] []) (some (.one (.int .i64))),none,[]⟩,oa 5 36 (.build [(.int .i64 0),.nils] [(0,1,(.t 34)),(1,1,(.t 35))]),oa 6 6 (.allocB 2 [(.int .i64 0),.nils]),os 7 (.storeB 2 2 (.t 6) (.t 36))]) (.seq [7,6,4,3,0] (.region [oi 0 7 0]) (.seq [7,6,4,3,0] (.seq [8,7,6,4,3,0] (.region [oi 0 8 2]) (.block 0 (.loop [0,3,4,6,7,8] 1 (.seq [8,7,6,4,3,0] (.seq [38,8,7,6,4,3,0] (.region [om 0 37 8,oa 1 38 (.bin .lss (.t 37) (.c (.int .i64 8)))]) (.cond (.t 38) .skip (.exit 0))) (.seq [8,7,6,4,3,0] (.block 1 (.seq [8,7,6,4,3,0] (.seq [45,8,7,6,4,3,0] (.region [on 0 41 0,om 1 42 8,oa 2 43 (.indexA 1 (.t 41) (.t 42)),oa 3 44 (.loadH none (.t 43)),oa 4 45 (.bin .eql (.t 44) (.c (.int .u8 1)))]) (.cond (.t 45) (.region [om 0 46 7,oa 1 47 (.bin .add (.t 46) (.c (.int .i64 1))),om 2 7 47]) .skip)) (.seq [8,7,6,4,3,0] (.seq [52,8,7,6,4,3,0] (.region [on 0 48 0,om 1 49 8,oa 2 50 (.indexA 1 (.t 48) (.t 49)),oa 3 51 (.loadH none (.t 50)),oa 4 52 (.bin .neq (.t 51) (.c (.int .u8 0)))]) (.cond (.t 52) (.region [oa 0 53 (.fieldA 1 (.t 6)),xB 1 54 (.loadB 2 none (.t 53)) (rg 1),on 2 55 0,om 3 56 8,xA 4 57 (.indexA 1 (.t 55) (.t 56)) [2,3],xA 5 58 (.loadH none (.t 57)) [2,3,4],xA 6 59 (.conv .i64 (.t 58)) [2,3,4,5],xA 7 60 (.bin .sub (.t 59) (.c (.int .i64 3))) [2,3,4,5,6],⟨8,some 61,.a false (.litSlice 1 1 [(.int .i64 0)] [(0,1,(.t 60))]) (some (.one (.int .i64))),none,[2,3,4,5,6,7]⟩,xA 9 62 (.app 1 (.t 54) (.t 61)) (rg 9),xA 10 63 (.fieldA 1 (.t 6)) (rg 10),xS 11 (.storeB 2 1 (.t 63) (.t 62)) (rg 11)]) .skip)) (.seq [80,8,7,6,4,3,0] (.region [on 0 64 0,om 1 65 8,oa 2 66 (.indexA 1 (.t 64) (.t 65)),oa 3 67 (.loadH none (.t 66)),oa 4 68 (.bin .neq (.t 67) (.c (.int .u8 0))),om 5 69 68,⟨6,some 70,.a true (.mv (.t 0)) none,(some (69,true)),[]⟩,og 7 71 (.mv (.t 8)) 69 true,og 8 72 (.bin .sub (.t 71) (.c (.int .i64 1))) 69 true,og 9 73 (.indexA 1 (.t 70) (.t 72)) 69 true,og 10 74 (.loadH none (.t 73)) 69 true,og 11 75 (.bin .eql (.t 74) (.c (.int .u8 0))) 69 true,oa 12 76 (.pick (.t 69) (.t 75) (.c (.bool false))),om 13 77 76,og 14 78 (.mv (.t 8)) 77 true,og 15 79 (.bin .gtr (.t 78) (.c (.int .i64 2))) 77 true,oa 16 80 (.pick (.t 77) (.t 79) (.c (.bool false)))]) (.cond (.t 80) (.seq [5,4] (.region [oa 0 81 (.build [(.int .i64 0),.nils] []),os 1 (.storeB 1 2 (.t 4) (.t 81)),oa 2 5 (.mv (.c (.bool false)))]) .ret) .skip))))) (.region [om 0 39 8,oa 1 40 (.bin .add (.t 39) (.c (.int .i64 1))),om 2 8 40])))))) (.seq [6,4] (.seq [83,6,4,3,0] (.region [om 0 82 7,oa 1 83 (.bin .eql (.t 82) (.c (.int .i64 6)))]) (.cond (.t 83) (.seq [5,4] (.region [on 0 84 0,xA 1 85 (.indexA 1 (.t 84) (.c (.int .i64 0))) (rg 1),xA 2 86 (.loadH none (.t 85)) (rg 2),xA 3 87 (.conv .i64 (.t 86)) (rg 3),oa 5 89 (.fieldA 1 (.t 3)),xA 6 90 (.loadB 0 none (.t 89)) [5],oa 4 88 (.litSlice 1 0 [] []),xA 7 91 (.appN 1 (.t 88) (.t 90)) [4,5,6],xA 8 92 (.build [(.int .i64 0),.nils] [(0,1,(.t 87)),(1,1,(.t 91))]) (rg 8),xS 9 (.storeB 1 2 (.t 4) (.t 92)) (rg 9),xA 10 5 (.mv (.c (.bool true))) (rg 10)]) .ret) .skip)) (.seq [6,4] (.seq [95,6,4] (.region [oa 0 93 (.loadB 2 (some 2) (.t 6)),oF 1 94 F3 [(.t 93)],oa 2 95 (.un .not (.t 94))]) (.cond (.t 95) (.seq [5,4] (.region [oa 0 96 (.build [(.int .i64 0),.nils] []),os 1 (.storeB 1 2 (.t 4) (.t 96)),oa 2 5 (.mv (.c (.bool false)))]) .ret) .skip)) (.seq [5,4] (.region [ob 0 97 (.loadB 2 (some 2) (.t 6)),os 1 (.storeB 1 2 (.t 4) (.t 97)),oa 2 5 (.mv (.c (.bool true)))]) .ret))))))))
def PL:Fn:=⟨⟨2,98,3,false,[.cell 4 (some 2),.tmp 5],dt⟩,[.one .frz (.sl (.one (.int .u8))),.agg [(.frz,.int .i64),(.frz,.sl (.one (.int .i64)))]],.tup [.agg [(.own,.int .i64),(.own,.sl (.one (.int .i64)))],.one .own (.bool)]⟩
def KZ:List (Int)×(Int×List (Int))→(Int×List (Int))×Bool:=PL.V
def SJ:List (Int)×(Int×List (Int))→Prop:=PL.O
def dk:DCode:=(.seq [0] (.region [oa 0 2 (.mv (.c .nils))]) (.seq [2] (.region [on 0 3 0,oa 1 4 (.app 1 (.c .nils) (.t 3)),om 2 2 4]) .ret))
def HI:Fn:=⟨⟨1,5,0,false,[.tmp 2],dk⟩,[.one .frz (.sl (.one (.int .i64)))],.one (.one .own (.sl (.one (.int .i64))))⟩
theorem di:HI.A:=CE trivial
def PN:List (Int)→List (Int):=HI.V
def PA:List (Int)→Prop:=HI.O
theorem dy:HI.B:=CO trivial (by kernel_rfl) (fun x=>by kernel_rfl)
def c8:DCode:=(.seq [4,3,0] (.region [oa 0 3 (.boxB 0 2 (.t 1)),oa 1 4 (.allocB 1 [(.int .i64 0),.nils]),oa 2 5 (.mv (.c (.bool false)))]) (.seq [4,3,0] (.seq [31,4,3,0] (.region [on 0 12 0,oa 1 13 (.len (.t 12)),oa 2 14 (.bin .neq (.t 13) (.c (.int .i64 8))),om 3 15 14,⟨4,some 16,.a true (.mv (.t 0)) none,(some (15,false)),[]⟩,og 5 17 (.indexA 1 (.t 16) (.c (.int .i64 0))) 15 false,og 6 18 (.loadH none (.t 17)) 15 false,og 7 19 (.bin .gtr (.t 18) (.c (.int .u8 15))) 15 false,oa 8 20 (.pick (.t 15) (.c (.bool true)) (.t 19)),om 9 21 20,⟨10,some 22,.a true (.mv (.t 0)) none,(some (21,false)),[]⟩,og 11 23 (.indexA 1 (.t 22) (.c (.int .i64 1))) 21 false,og 12 24 (.loadH none (.t 23)) 21 false,og 13 25 (.bin .neq (.t 24) (.c (.int .u8 0))) 21 false,oa 14 26 (.pick (.t 21) (.c (.bool true)) (.t 25)),om 15 27 26,og 16 28 (.loadB 0 (some 2) (.t 3)) 27 false,⟨17,some 29,.call false CP.S CP.P CP.D [(.t 28)],(some (27,false)),[]⟩,og 18 30 (.un .not (.t 29)) 27 false,oa 19 31 (.pick (.t 27) (.c (.bool true)) (.t 30))]) (.cond (.t 31) (.seq [5,4] (.region [oa 0 32 (.build [(.int .i64 0),.nils] []),os 1 (.storeB 1 2 (.t 4) (.t 32)),oa 2 5 (.mv (.c (.bool false)))]) .ret) .skip)) (.seq [6,4,3,0] (.region [oa 0 6 (.mv (.c (.bool true)))]) (.seq [6,4,3,0] (.seq [36,35,34,6,4,3,0] (.region [on 0 33 0,oa 1 34 (.slice 1 (.t 33) (some (.c (.int .i64 2))) none),oa 2 35 (.len (.t 34)),oi 3 36 0]) (.block 0 (.loop [0,3,4,6,34,35,36] 1 (.seq [37,36,35,34,6,4,3,0] (.region [oa 0 37 (.bin .lss (.t 36) (.t 35))]) (.seq [36,35,34,6,4,3,0] (.cond (.t 37) .skip (.exit 0)) (.seq [36,35,34,6,4,3,0] (.block 1 (.seq [36,35,34,8,6,4,3,0] (.region [oa 0 38 (.indexA 1 (.t 34) (.t 36)),oa 1 39 (.loadH none (.t 38)),om 2 8 39]) (.region [om 0 40 6,om 1 41 40,og 2 42 (.mv (.t 8)) 41 true,og 3 43 (.bin .eql (.t 42) (.c (.int .u8 1))) 41 true,oa 4 44 (.pick (.t 41) (.t 43) (.c (.bool false))),om 5 6 44]))) (.region [oa 0 45 (.bin .add (.t 36) (.c (.int .i64 1))),om 1 36 45]))))))) (.seq [9,6,4,3,0] (.region [on 0 46 0,oa 1 47 (.indexA 1 (.t 46) (.c (.int .i64 0))),oa 2 48 (.loadH none (.t 47)),oa 3 49 (.conv .i64 (.t 48)),oa 4 50 (.build [(.int .i64 0),.nils] [(0,1,(.t 49))]),oa 5 9 (.allocB 2 [(.int .i64 0),.nils]),os 6 (.storeB 2 2 (.t 9) (.t 50))]) (.seq [9,4,0] (.seq [51,9,4,3,0] (.region [om 0 51 6]) (.cond (.t 51) (.seq [9,4] (.region [oa 0 52 (.fieldA 1 (.t 3)),oa 1 53 (.loadB 0 none (.t 52)),oF 2 54 HI [(.t 53)],oa 3 55 (.fieldA 1 (.t 9)),os 4 (.storeB 2 1 (.t 55) (.t 54))]) (.seq [5,4] (.region [ob 0 56 (.loadB 2 (some 2) (.t 9)),os 1 (.storeB 1 2 (.t 4) (.t 56)),oa 2 5 (.mv (.c (.bool true)))]) .ret)) .skip)) (.seq [9,4,0] (.seq [60,59,58,9,4,0] (.region [on 0 57 0,oa 1 58 (.slice 1 (.t 57) (some (.c (.int .i64 2))) none),oa 2 59 (.len (.t 58)),oi 3 60 0]) (.block 2 (.loop [0,4,9,58,59,60] 1 (.seq [61,60,59,58,9,4,0] (.region [oa 0 61 (.bin .lss (.t 60) (.t 59))]) (.seq [60,59,58,9,4,0] (.cond (.t 61) .skip (.exit 2)) (.seq [60,59,58,9,4,0] (.block 3 (.seq [60,59,58,11,9,4,0] (.region [oa 0 62 (.indexA 1 (.t 58) (.t 60)),oa 1 63 (.loadH none (.t 62)),om 2 11 63]) (.seq [65,60,59,58,11,9,4,0] (.region [om 0 64 11,oa 1 65 (.bin .neq (.t 64) (.c (.int .u8 0)))]) (.cond (.t 65) (.region [oa 0 66 (.fieldA 1 (.t 9)),ob 1 67 (.loadB 2 none (.t 66)),om 2 68 11,oa 3 69 (.conv .i64 (.t 68)),oa 4 70 (.bin .sub (.t 69) (.c (.int .i64 3))),⟨5,some 71,.a false (.litSlice 1 1 [(.int .i64 0)] [(0,1,(.t 70))]) (some (.one (.int .i64))),none,[]⟩,oa 6 72 (.app 1 (.t 67) (.t 71)),oa 7 73 (.fieldA 1 (.t 9)),os 8 (.storeB 2 1 (.t 73) (.t 72))]) .skip)))) (.region [oa 0 74 (.bin .add (.t 60) (.c (.int .i64 1))),om 1 60 74]))))))) (.seq [9,4] (.seq [85,9,4] (.region [oa 0 75 (.loadB 2 (some 2) (.t 9)),xF 1 76 CP [(.t 75)] (rg 1),xA 2 77 (.un .not (.t 76)) (rg 2),xA 3 78 (.mv (.t 77)) (rg 3),⟨4,some 79,.a false (.loadB 2 (some 2) (.t 9)) none,(some (78,false)),[0,1,2,3]⟩,⟨7,some 82,.a true (.mv (.t 0)) none,(some (78,false)),[0,1,2,3]⟩,⟨8,some 83,.a false (.bstr (.t 82)) none,(some (78,false)),[0,1,2,3,7]⟩,⟨5,some 80,.call false EW.S EW.P EW.D [(.t 79)],(some (78,false)),[0,1,2,3,4]⟩,⟨6,some 81,.a false (.bstr (.t 80)) none,(some (78,false)),[0,1,2,3,4,5]⟩,⟨9,some 84,.a false (.bin .neq (.t 81) (.t 83)) none,(some (78,false)),[0,1,2,3,4,5,6,7,8]⟩,xA 10 85 (.pick (.t 78) (.c (.bool true)) (.t 84)) (rg 10)]) (.cond (.t 85) (.seq [5,4] (.region [oa 0 86 (.build [(.int .i64 0),.nils] []),os 1 (.storeB 1 2 (.t 4) (.t 86)),oa 2 5 (.mv (.c (.bool false)))]) .ret) .skip)) (.seq [5,4] (.region [ob 0 87 (.loadB 2 (some 2) (.t 9)),os 1 (.storeB 1 2 (.t 4) (.t 87)),oa 2 5 (.mv (.c (.bool true)))]) .ret)))))))))
def HF:Fn:=⟨⟨2,88,3,false,[.cell 4 (some 2),.tmp 5],c8⟩,[.one .frz (.sl (.one (.int .u8))),.agg [(.frz,.int .i64),(.frz,.sl (.one (.int .i64)))]],.tup [.agg [(.own,.int .i64),(.own,.sl (.one (.int .i64)))],.one .own (.bool)]⟩
theorem du:HF.A:=CE ⟨KX,di,KX,Wp,trivial⟩
def FB:List (Int)×(Int×List (Int))→(Int×List (Int))×Bool:=HF.V
def Pq:List (Int)×(Int×List (Int))→Prop:=HF.O
theorem dw:HF.B:=CO ⟨KW,dy,KW,Wj,trivial⟩ (by kernel_rfl) (fun x=>by kernel_rfl)
end
section
set_option maxRecDepth 100000
def KN(x:Int×List (Int))(x0:Int):Bool:=(bAnd (iLt x0 (lLen x.2)) (bNot (bOr (bNot (DU ((lGet x.2 (iNat x0) 0),1,56))) (bAnd (iGt x0 0) (iGe (lGet x.2 (iNat (iSub .i64 x0 1)) 0) (lGet x.2 (iNat x0) 0))))))
def MA(x0:Int):Int:=(iAdd .i64 x0 1)
def SA(x:Int×List (Int))(x0:Int):Prop:=(((iLt x0 (lLen x.2))=true→((((0:Int)≤x0)∧(x0<(((List.length x.2):Int))))∧(((iNat x0)<(List.length x.2))∧((JL ((lGet x.2 (iNat x0) 0),1,56))∧(((bNot (DU ((lGet x.2 (iNat x0) 0),1,56)))=true→True)∧((bNot (DU ((lGet x.2 (iNat x0) 0),1,56)))=false→(((iGt x0 0)=true→((((0:Int)≤(iSub .i64 x0 1))∧((iSub .i64 x0 1)<(((List.length x.2):Int))))∧(((iNat (iSub .i64 x0 1))<(List.length x.2))∧((((0:Int)≤x0)∧(x0<(((List.length x.2):Int))))∧((iNat x0)<(List.length x.2))))))∧((iGt x0 0)=false→True))))))))∧((iLt x0 (lLen x.2))=false→True))
theorem eE (x):BI x=(bAnd (bNot (iLt (Ap (KN x) MA 0) (lLen x.2))) (DU (x.1,0,15))):=(F3.v x).trans (by kernel_rfl)
theorem eC (x):HE x=((LoopOk (KN x) MA (SA x) 0)∧(((iLt (Ap (KN x) MA 0) (lLen x.2))=true→True)∧((iLt (Ap (KN x) MA 0) (lLen x.2))=false→(JL (x.1,0,15))))):=(F3.o x).trans (by kernel_rfl)
def Hy(x:Int×List (Int))(x0:((List Int)×Int)):Bool:=(iLt x0.2 (lLen x.2))
def Iy(x:Int×List (Int))(x0:((List Int)×Int)):((List Int)×Int):=((lSet x0.1 (iNat (iAdd .i64 1 (iQuo .i64 (iSub .i64 (lGet x.2 (iNat x0.2) 0) 1) 8))) (iOr .u8 (lGet x0.1 (iNat (iAdd .i64 1 (iQuo .i64 (iSub .i64 (lGet x.2 (iNat x0.2) 0) 1) 8))) 0) (iShl .u8 1 (iRem (iSub .i64 (lGet x.2 (iNat x0.2) 0) 1) 8)))),(iAdd .i64 x0.2 1))
def SE(x:Int×List (Int))(x0:((List Int)×Int)):Prop:=(((iLt x0.2 (lLen x.2))=true→((((0:Int)≤x0.2)∧(x0.2<(((List.length x.2):Int))))∧(((iNat x0.2)<(List.length x.2))∧(((8:Int)≠0)∧(((8:Int)≠0)∧((((0:Int)≤(iAdd .i64 1 (iQuo .i64 (iSub .i64 (lGet x.2 (iNat x0.2) 0) 1) 8)))∧((iAdd .i64 1 (iQuo .i64 (iSub .i64 (lGet x.2 (iNat x0.2) 0) 1) 8))<(((List.length x0.1):Int))))∧(((iNat (iAdd .i64 1 (iQuo .i64 (iSub .i64 (lGet x.2 (iNat x0.2) 0) 1) 8)))<(List.length x0.1))∧(((8:Int)≠0)∧(((0:Int)≤(iRem (iSub .i64 (lGet x.2 (iNat x0.2) 0) 1) 8))∧((((0:Int)≤(iAdd .i64 1 (iQuo .i64 (iSub .i64 (lGet x.2 (iNat x0.2) 0) 1) 8)))∧((iAdd .i64 1 (iQuo .i64 (iSub .i64 (lGet x.2 (iNat x0.2) 0) 1) 8))<(((List.length x0.1):Int))))∧((iNat (iAdd .i64 1 (iQuo .i64 (iSub .i64 (lGet x.2 (iNat x0.2) 0) 1) 8)))<(List.length x0.1))))))))))))∧((iLt x0.2 (lLen x.2))=false→True))
theorem Wy (x):JH x=(bSel (bNot (BI x)) [] (Ap (Hy x) (Iy x) ((lSet (lRep 8 0) (iNat 0) (iConv .u8 x.1)),0)).1):=(PM.v x).trans (by kernel_rfl)
theorem eN (x):SL x=((HE x)∧(((bNot (BI x))=true→True)∧((bNot (BI x))=false→((((0:Int)≤8)∧(Aw 8))∧((((0:Int)≤0)∧((0:Int)<(((List.length (lRep 8 (0:Int))):Int))))∧(((iNat 0)<(List.length (lRep 8 (0:Int))))∧(LoopOk (Hy x) (Iy x) (SE x) ((lSet (lRep 8 0) (iNat 0) (iConv .u8 x.1)),0)))))))):=(PM.o x).trans (by kernel_rfl)
def Pb(x:Int×List (Int))(x0:Int):Bool:=(bAnd (iLt x0 (lLen x.2)) (bNot (bOr (bNot (Lf (lGet x.2 (iNat x0) 0))) (bAnd (iGt x0 0) (iGe (lGet x.2 (iNat (iSub .i64 x0 1)) 0) (lGet x.2 (iNat x0) 0))))))
def SD(x0:Int):Int:=(iAdd .i64 x0 1)
def SC(x:Int×List (Int))(x0:Int):Prop:=(((iLt x0 (lLen x.2))=true→((((0:Int)≤x0)∧(x0<(((List.length x.2):Int))))∧(((iNat x0)<(List.length x.2))∧((PQ (lGet x.2 (iNat x0) 0))∧(((bNot (Lf (lGet x.2 (iNat x0) 0)))=true→True)∧((bNot (Lf (lGet x.2 (iNat x0) 0)))=false→(((iGt x0 0)=true→((((0:Int)≤(iSub .i64 x0 1))∧((iSub .i64 x0 1)<(((List.length x.2):Int))))∧((iNat (iSub .i64 x0 1))<(List.length x.2))))∧((iGt x0 0)=false→True))))))))∧((iLt x0 (lLen x.2))=false→True))
theorem eJ (x):Cz x=(bAnd (bNot (bOr (iLt x.1 0) (iGt x.1 15))) (bNot (iLt (Ap (Pb x) SD 0) (lLen x.2)))):=(CP.v x).trans (by kernel_rfl)
theorem et (x):GN x=(((bOr (iLt x.1 0) (iGt x.1 15))=true→True)∧((bOr (iLt x.1 0) (iGt x.1 15))=false→(LoopOk (Pb x) SD (SC x) 0))):=(CP.o x).trans (by kernel_rfl)
def Sz(x:Int×List (Int))(x0:((List Int)×Int)):Bool:=(iLt x0.2 (lLen x.2))
def SB(x:Int×List (Int))(x0:((List Int)×Int)):((List Int)×Int):=((lSet x0.1 (iNat (iAdd .i64 1 (iQuo .i64 (iSub .i64 (lGet x.2 (iNat x0.2) 0) 1) 8))) (iOr .u8 (lGet x0.1 (iNat (iAdd .i64 1 (iQuo .i64 (iSub .i64 (lGet x.2 (iNat x0.2) 0) 1) 8))) 0) (iShl .u8 1 (iRem (iSub .i64 (lGet x.2 (iNat x0.2) 0) 1) 8)))),(iAdd .i64 x0.2 1))
def SF(x:Int×List (Int))(x0:((List Int)×Int)):Prop:=(((iLt x0.2 (lLen x.2))=true→((((0:Int)≤x0.2)∧(x0.2<(((List.length x.2):Int))))∧(((iNat x0.2)<(List.length x.2))∧(((8:Int)≠0)∧((((0:Int)≤(iAdd .i64 1 (iQuo .i64 (iSub .i64 (lGet x.2 (iNat x0.2) 0) 1) 8)))∧((iAdd .i64 1 (iQuo .i64 (iSub .i64 (lGet x.2 (iNat x0.2) 0) 1) 8))<(((List.length x0.1):Int))))∧(((iNat (iAdd .i64 1 (iQuo .i64 (iSub .i64 (lGet x.2 (iNat x0.2) 0) 1) 8)))<(List.length x0.1))∧(((8:Int)≠0)∧(((0:Int)≤(iRem (iSub .i64 (lGet x.2 (iNat x0.2) 0) 1) 8))∧((((0:Int)≤(iAdd .i64 1 (iQuo .i64 (iSub .i64 (lGet x.2 (iNat x0.2) 0) 1) 8)))∧((iAdd .i64 1 (iQuo .i64 (iSub .i64 (lGet x.2 (iNat x0.2) 0) 1) 8))<(((List.length x0.1):Int))))∧((iNat (iAdd .i64 1 (iQuo .i64 (iSub .i64 (lGet x.2 (iNat x0.2) 0) 1) 8)))<(List.length x0.1)))))))))))∧((iLt x0.2 (lLen x.2))=false→True))
theorem dh (x):EX x=(bSel (bNot (Cz x)) [] (Ap (Sz x) (SB x) ((lSet (lRep 8 0) (iNat 0) (iConv .u8 x.1)),0)).1):=(HG.v x).trans (by kernel_rfl)
theorem df (x):Pu x=((GN x)∧(((bNot (Cz x))=true→True)∧((bNot (Cz x))=false→((((0:Int)≤8)∧(Aw 8))∧((((0:Int)≤0)∧((0:Int)<(((List.length (lRep 8 (0:Int))):Int))))∧(((iNat 0)<(List.length (lRep 8 (0:Int))))∧(LoopOk (Sz x) (SB x) (SF x) ((lSet (lRep 8 0) (iNat 0) (iConv .u8 x.1)),0)))))))):=(HG.o x).trans (by kernel_rfl)
def Hu(x0:((List Int)×Int)):Bool:=(iLt x0.2 6)
def Hw(x:Int×List (Int))(x0:((List Int)×Int)):((List Int)×Int):=((bSel (iGt (lLen x.2) 6) (lSet x0.1 (iNat (iAdd .i64 2 x0.2)) 1) (bSel (iLt x0.2 (lLen x.2)) (lSet x0.1 (iNat (iAdd .i64 2 x0.2)) (iConv .u8 (iAdd .i64 (lGet x.2 (iNat x0.2) 0) 3))) x0.1)),(iAdd .i64 x0.2 1))
def Sv(x:Int×List (Int))(x0:((List Int)×Int)):Prop:=(((iLt x0.2 6)=true→(((iGt (lLen x.2) 6)=true→((((0:Int)≤(iAdd .i64 2 x0.2))∧((iAdd .i64 2 x0.2)<(((List.length x0.1):Int))))∧((iNat (iAdd .i64 2 x0.2))<(List.length x0.1))))∧((iGt (lLen x.2) 6)=false→(((iLt x0.2 (lLen x.2))=true→((((0:Int)≤x0.2)∧(x0.2<(((List.length x.2):Int))))∧(((iNat x0.2)<(List.length x.2))∧((((0:Int)≤(iAdd .i64 2 x0.2))∧((iAdd .i64 2 x0.2)<(((List.length x0.1):Int))))∧((iNat (iAdd .i64 2 x0.2))<(List.length x0.1))))))∧((iLt x0.2 (lLen x.2))=false→True)))))∧((iLt x0.2 6)=false→True))
theorem Wl (x):IC x=(bSel (bNot (BI x)) [] (Ap Hu (Hw x) ([(iConv .u8 x.1),0,0,0,0,0,0,0],0)).1):=(Py.v x).trans (by kernel_rfl)
theorem c7 (x):SH x=((HE x)∧(((bNot (BI x))=true→True)∧((bNot (BI x))=false→(LoopOk Hu (Hw x) (Sv x) ([(iConv .u8 x.1),0,0,0,0,0,0,0],0))))):=(Py.o x).trans (by kernel_rfl)
def Mx(x0:((List Int)×Int)):Bool:=(iLt x0.2 6)
def KK(x:Int×List (Int))(x0:((List Int)×Int)):((List Int)×Int):=((bSel (iGt (lLen x.2) 6) (lSet x0.1 (iNat (iAdd .i64 x0.2 2)) 1) (bSel (iLt x0.2 (lLen x.2)) (lSet x0.1 (iNat (iAdd .i64 x0.2 2)) (iConv .u8 (iAdd .i64 (lGet x.2 (iNat x0.2) 0) 3))) x0.1)),(iAdd .i64 x0.2 1))
def Sx(x:Int×List (Int))(x0:((List Int)×Int)):Prop:=(((iLt x0.2 6)=true→(((iGt (lLen x.2) 6)=true→((((0:Int)≤(iAdd .i64 x0.2 2))∧((iAdd .i64 x0.2 2)<(((List.length x0.1):Int))))∧((iNat (iAdd .i64 x0.2 2))<(List.length x0.1))))∧((iGt (lLen x.2) 6)=false→(((iLt x0.2 (lLen x.2))=true→((((0:Int)≤x0.2)∧(x0.2<(((List.length x.2):Int))))∧(((iNat x0.2)<(List.length x.2))∧((((0:Int)≤(iAdd .i64 x0.2 2))∧((iAdd .i64 x0.2 2)<(((List.length x0.1):Int))))∧((iNat (iAdd .i64 x0.2 2))<(List.length x0.1))))))∧((iLt x0.2 (lLen x.2))=false→True)))))∧((iLt x0.2 6)=false→True))
theorem Wk (x):DN x=(bSel (bNot (Cz x)) [] (Ap Mx (KK x) ((lSet (lRep 8 0) (iNat 0) (iConv .u8 x.1)),0)).1):=(EW.v x).trans (by kernel_rfl)
theorem cy (x):ME x=((GN x)∧(((bNot (Cz x))=true→True)∧((bNot (Cz x))=false→((((0:Int)≤8)∧(Aw 8))∧((((0:Int)≤0)∧((0:Int)<(((List.length (lRep 8 (0:Int))):Int))))∧(((iNat 0)<(List.length (lRep 8 (0:Int))))∧(LoopOk Mx (KK x) (Sx x) ((lSet (lRep 8 0) (iNat 0) (iConv .u8 x.1)),0)))))))):=(EW.o x).trans (by kernel_rfl)
def Ex(x:List (Int)×(Int×List (Int)))(x0:(Int×(Int×(List Int)))):Bool:=(bAnd (iLt x0.2.1 8) (bNot (bAnd (iNe (lGet x.1 (iNat x0.2.1) 0) 0) (bAnd (iEq (lGet x.1 (iNat (iSub .i64 x0.2.1 1)) 0) 0) (iGt x0.2.1 2)))))
def Ez(x:List (Int)×(Int×List (Int)))(x0:(Int×(Int×(List Int)))):(Int×(Int×(List Int))):=((bSel (iEq (lGet x.1 (iNat x0.2.1) 0) 1) (iAdd .i64 x0.1 1) x0.1),(iAdd .i64 x0.2.1 1),(bSel (iNe (lGet x.1 (iNat x0.2.1) 0) 0) (lApp x0.2.2 [(iSub .i64 (iConv .i64 (lGet x.1 (iNat x0.2.1) 0)) 3)]) x0.2.2))
def Pg(x:List (Int)×(Int×List (Int)))(x0:(Int×(Int×(List Int)))):Prop:=(((iLt x0.2.1 8)=true→(((((0:Int)≤x0.2.1)∧(x0.2.1<(((List.length x.1):Int))))∧((iNat x0.2.1)<(List.length x.1)))∧(((((0:Int)≤x0.2.1)∧(x0.2.1<(((List.length x.1):Int))))∧(((iNat x0.2.1)<(List.length x.1))∧(((iNe (lGet x.1 (iNat x0.2.1) 0) 0)=true→((((0:Int)≤x0.2.1)∧(x0.2.1<(((List.length x.1):Int))))∧(((iNat x0.2.1)<(List.length x.1))∧(Aw (((List.length x0.2.2)+(List.length [(iSub .i64 (iConv .i64 (lGet x.1 (iNat x0.2.1) 0)) 3)]))*1)))))∧((iNe (lGet x.1 (iNat x0.2.1) 0) 0)=false→True))))∧((((0:Int)≤x0.2.1)∧(x0.2.1<(((List.length x.1):Int))))∧(((iNat x0.2.1)<(List.length x.1))∧(((iNe (lGet x.1 (iNat x0.2.1) 0) 0)=true→((((0:Int)≤(iSub .i64 x0.2.1 1))∧((iSub .i64 x0.2.1 1)<(((List.length x.1):Int))))∧((iNat (iSub .i64 x0.2.1 1))<(List.length x.1))))∧((iNe (lGet x.1 (iNat x0.2.1) 0) 0)=false→True)))))))∧((iLt x0.2.1 8)=false→True))
theorem Wv (x):KZ x=(bSel (bOr (iNe (lLen x.1) 8) (bOr (iGt (iConv .i64 (lGet x.1 (iNat 0) 0)) 15) (bOr (iNe (lGet x.1 (iNat 1) 0) 0) (bNot (BI x.2))))) ((0,[]),false) (bSel (iLt (Ap (Ex x) (Ez x) (0,2,[])).2.1 8) ((0,[]),false) (bSel (iEq (Ap (Ex x) (Ez x) (0,2,[])).1 6) (((iConv .i64 (lGet x.1 (iNat 0) 0)),x.2.2),true) (bSel (bNot (BI ((iConv .i64 (lGet x.1 (iNat 0) 0)),(Ap (Ex x) (Ez x) (0,2,[])).2.2))) ((0,[]),false) (((iConv .i64 (lGet x.1 (iNat 0) 0)),(Ap (Ex x) (Ez x) (0,2,[])).2.2),true))))):=(PL.v x).trans (by kernel_rfl)
theorem c9 (x):SJ x=((((iNe (lLen x.1) 8)=true→True)∧((iNe (lLen x.1) 8)=false→((((0:Int)≤0)∧((0:Int)<(((List.length x.1):Int))))∧(((iNat 0)<(List.length x.1))∧(((iGt (iConv .i64 (lGet x.1 (iNat 0) 0)) 15)=true→True)∧((iGt (iConv .i64 (lGet x.1 (iNat 0) 0)) 15)=false→((((0:Int)≤1)∧((1:Int)<(((List.length x.1):Int))))∧(((iNat 1)<(List.length x.1))∧(((iNe (lGet x.1 (iNat 1) 0) 0)=true→True)∧((iNe (lGet x.1 (iNat 1) 0) 0)=false→(HE x.2)))))))))))∧(((bOr (iNe (lLen x.1) 8) (bOr (iGt (iConv .i64 (lGet x.1 (iNat 0) 0)) 15) (bOr (iNe (lGet x.1 (iNat 1) 0) 0) (bNot (BI x.2)))))=true→True)∧((bOr (iNe (lLen x.1) 8) (bOr (iGt (iConv .i64 (lGet x.1 (iNat 0) 0)) 15) (bOr (iNe (lGet x.1 (iNat 1) 0) 0) (bNot (BI x.2)))))=false→((((0:Int)≤0)∧((0:Int)<(((List.length x.1):Int))))∧(((iNat 0)<(List.length x.1))∧((LoopOk (Ex x) (Ez x) (Pg x) (0,2,[]))∧(((iLt (Ap (Ex x) (Ez x) (0,2,[])).2.1 8)=true→True)∧((iLt (Ap (Ex x) (Ez x) (0,2,[])).2.1 8)=false→(((iEq (Ap (Ex x) (Ez x) (0,2,[])).1 6)=true→((((0:Int)≤0)∧((0:Int)<(((List.length x.1):Int))))∧(((iNat 0)<(List.length x.1))∧(Aw ((List.length x.2.2)*1)))))∧((iEq (Ap (Ex x) (Ez x) (0,2,[])).1 6)=false→(HE ((iConv .i64 (lGet x.1 (iNat 0) 0)),(Ap (Ex x) (Ez x) (0,2,[])).2.2)))))))))))):=(PL.o x).trans (by kernel_rfl)
theorem eB (x):PN x=x:=(HI.v x).trans (by kernel_rfl)
theorem dR (x):PA x=(Aw ((List.length x)*1)):=(HI.o x).trans (by kernel_rfl)
def Iw(x:List (Int)×(Int×List (Int)))(x0:(Bool×Int)):Bool:=(iLt x0.2 (lLen (lSub x.1 (iNat 2) (lN x.1))))
def Ix(x:List (Int)×(Int×List (Int)))(x0:(Bool×Int)):(Bool×Int):=((bAnd x0.1 (iEq (lGet (lSub x.1 (iNat 2) (lN x.1)) (iNat x0.2) 0) 1)),(iAdd .i64 x0.2 1))
def Fz(x:List (Int)×(Int×List (Int)))(x0:(Int×(List Int))):Bool:=(iLt x0.1 (lLen (lSub x.1 (iNat 2) (lN x.1))))
def Fy(x:List (Int)×(Int×List (Int)))(x0:(Int×(List Int))):(Int×(List Int)):=((iAdd .i64 x0.1 1),(bSel (iNe (lGet (lSub x.1 (iNat 2) (lN x.1)) (iNat x0.1) 0) 0) (lApp x0.2 [(iSub .i64 (iConv .i64 (lGet (lSub x.1 (iNat 2) (lN x.1)) (iNat x0.1) 0)) 3)]) x0.2))
def Pe(x:List (Int)×(Int×List (Int)))(x0:(Bool×Int)):Prop:=(((iLt x0.2 (lLen (lSub x.1 (iNat 2) (lN x.1))))=true→((((0:Int)≤x0.2)∧(x0.2<(((List.length (lSub x.1 (iNat 2) (lN x.1))):Int))))∧((iNat x0.2)<(List.length (lSub x.1 (iNat 2) (lN x.1))))))∧((iLt x0.2 (lLen (lSub x.1 (iNat 2) (lN x.1))))=false→True))
def O7(x:List (Int)×(Int×List (Int)))(x0:(Int×(List Int))):Prop:=(((iLt x0.1 (lLen (lSub x.1 (iNat 2) (lN x.1))))=true→((((0:Int)≤x0.1)∧(x0.1<(((List.length (lSub x.1 (iNat 2) (lN x.1))):Int))))∧(((iNat x0.1)<(List.length (lSub x.1 (iNat 2) (lN x.1))))∧(((iNe (lGet (lSub x.1 (iNat 2) (lN x.1)) (iNat x0.1) 0) 0)=true→(Aw (((List.length x0.2)+(List.length [(iSub .i64 (iConv .i64 (lGet (lSub x.1 (iNat 2) (lN x.1)) (iNat x0.1) 0)) 3)]))*1)))∧((iNe (lGet (lSub x.1 (iNat 2) (lN x.1)) (iNat x0.1) 0) 0)=false→True)))))∧((iLt x0.1 (lLen (lSub x.1 (iNat 2) (lN x.1))))=false→True))
theorem dF (x):FB x=(bSel (bOr (iNe (lLen x.1) 8) (bOr (iGt (lGet x.1 (iNat 0) 0) 15) (bOr (iNe (lGet x.1 (iNat 1) 0) 0) (bNot (Cz x.2))))) ((0,[]),false) (bSel (Ap (Iw x) (Ix x) (true,0)).1 (((iConv .i64 (lGet x.1 (iNat 0) 0)),(PN x.2.2)),true) (bSel (bOr (bNot (Cz ((iConv .i64 (lGet x.1 (iNat 0) 0)),(Ap (Fz x) (Fy x) (0,[])).2))) (sNe (rowS (DN ((iConv .i64 (lGet x.1 (iNat 0) 0)),(Ap (Fz x) (Fy x) (0,[])).2))) (rowS x.1))) ((0,[]),false) (((iConv .i64 (lGet x.1 (iNat 0) 0)),(Ap (Fz x) (Fy x) (0,[])).2),true)))):=(HF.v x).trans (by kernel_rfl)
theorem dV (x):Pq x=((((iNe (lLen x.1) 8)=true→True)∧((iNe (lLen x.1) 8)=false→((((0:Int)≤0)∧((0:Int)<(((List.length x.1):Int))))∧(((iNat 0)<(List.length x.1))∧(((iGt (lGet x.1 (iNat 0) 0) 15)=true→True)∧((iGt (lGet x.1 (iNat 0) 0) 15)=false→((((0:Int)≤1)∧((1:Int)<(((List.length x.1):Int))))∧(((iNat 1)<(List.length x.1))∧(((iNe (lGet x.1 (iNat 1) 0) 0)=true→True)∧((iNe (lGet x.1 (iNat 1) 0) 0)=false→(GN x.2)))))))))))∧(((bOr (iNe (lLen x.1) 8) (bOr (iGt (lGet x.1 (iNat 0) 0) 15) (bOr (iNe (lGet x.1 (iNat 1) 0) 0) (bNot (Cz x.2)))))=true→True)∧((bOr (iNe (lLen x.1) 8) (bOr (iGt (lGet x.1 (iNat 0) 0) 15) (bOr (iNe (lGet x.1 (iNat 1) 0) 0) (bNot (Cz x.2)))))=false→((((0:Int)≤2)∧(((iNat 2)≤(lN x.1))∧(((lN x.1)≤(List.length x.1))∧(0<(List.length x.1)))))∧((LoopOk (Iw x) (Ix x) (Pe x) (true,0))∧((((0:Int)≤0)∧((0:Int)<(((List.length x.1):Int))))∧(((iNat 0)<(List.length x.1))∧(((Ap (Iw x) (Ix x) (true,0)).1=true→(PA x.2.2))∧((Ap (Iw x) (Ix x) (true,0)).1=false→((((0:Int)≤2)∧(((iNat 2)≤(lN x.1))∧(((lN x.1)≤(List.length x.1))∧(0<(List.length x.1)))))∧((LoopOk (Fz x) (Fy x) (O7 x) (0,[]))∧((GN ((iConv .i64 (lGet x.1 (iNat 0) 0)),(Ap (Fz x) (Fy x) (0,[])).2))∧(((bNot (Cz ((iConv .i64 (lGet x.1 (iNat 0) 0)),(Ap (Fz x) (Fy x) (0,[])).2)))=true→True)∧((bNot (Cz ((iConv .i64 (lGet x.1 (iNat 0) 0)),(Ap (Fz x) (Fy x) (0,[])).2)))=false→(ME ((iConv .i64 (lGet x.1 (iNat 0) 0)),(Ap (Fz x) (Fy x) (0,[])).2)))))))))))))))):=(HF.o x).trans (by kernel_rfl)
attribute [irreducible] BI HE JH SL Cz GN EX Pu IC SH DN ME KZ SJ PN PA FB Pq
end
section
set_option maxRecDepth 8000
def fQ:DCode:=(.seq [0] (.region [oa 0 2 (.mv (.c .undef))]) (.seq [3,0] (.region [on 0 5 0,oa 1 6 (.len (.t 5)),oa 2 7 (.bin .add (.c (.int .i64 10729)) (.t 6)),om 3 3 7]) (.seq [3,0] (.seq [4,3,0] (.region [oi 0 4 0]) (.block 0 (.loop [0,3,4] 1 (.seq [4,3,0] (.seq [15,4,3,0] (.region [om 0 8 4,on 1 9 0,oa 2 10 (.len (.t 9)),oa 3 11 (.bin .lss (.t 8) (.t 10)),om 4 12 11,og 5 13 (.mv (.t 4)) 12 true,og 6 14 (.bin .lss (.t 13) (.c (.int .i64 4000))) 12 true,oa 7 15 (.pick (.t 12) (.t 14) (.c (.bool false)))]) (.cond (.t 15) .skip (.exit 0))) (.seq [4,3,0] (.block 1 (.region [om 0 18 3,oa 1 19 (.bin .mul (.t 18) (.c (.int .i64 131))),on 2 20 0,om 3 21 4,oa 4 22 (.indexA 1 (.t 20) (.t 21)),oa 5 23 (.loadH none (.t 22)),oa 6 24 (.conv .i64 (.t 23)),oa 7 25 (.bin .add (.t 19) (.t 24)),oa 8 26 (.bin .add (.t 25) (.c (.int .i64 7))),oa 9 27 (.bin .and (.t 26) (.c (.int .i64 1073741823))),om 10 3 27])) (.region [om 0 16 4,oa 1 17 (.bin .add (.t 16) (.c (.int .i64 1))),om 2 4 17])))))) (.seq [2] (.region [om 0 28 0,om 1 29 3,oa 2 30 (.build [.nils,(.int .i64 0),(.int .i64 0)] [(0,1,(.t 28)),(2,1,(.t 29))]),oa 3 31 (.boxH 3 (.t 30)),om 4 2 31]) .ret))))
def IK:DFun:=⟨1,32,0,false,[.tmp 2],fQ⟩
@[irreducible] def Li:A8:=FO IK.er.er
@[irreducible] def M4:B5:=DA IK.er
theorem gd:Eo Li M4:=by unfold Li M4;exact IQ (f:=IK.er) trivial
def P7:List HT:=[.one .frz (.sl (.one (.int .u8)))]
def Qa:List (Ql×CT):=[(.frz,.sl (.one (.int .u8))),(.own,.int .i64),(.own,.int .i64)]
@[irreducible] def HQ(x:List (Int)):List (Int)×Int×Int:=(shut fun x=>OS IK P7 Qa x).1 x
@[irreducible] def Lg(x:List (Int)):Prop:=(shut fun x=>OA IK P7 Qa x).1 x
def Xa:Er:=Q1 P7 Qa Lg HQ
theorem gf:G0 M4 Xa:=by unfold M4;exact XE (f:=IK) (hs:=P7) (cs:=Qa) trivial (by kernel_rfl) (fun x=>by kernel_rfl) (fun x h=>by unfold Lg at h;exact Eq.mp (congrFun (shut _).2 x) h) (fun x=>by unfold HQ;exact(congrFun (shut _).2 x).symm)
def fv:DCode:=(.seq [0] (.region [oi 0 2 0]) (.seq [0] (.region [om 0 4 0,om 1 5 0,oa 2 6 (.nilck (.t 5)),oa 3 7 (.fieldA 2 (.t 6)),oa 4 8 (.loadH none (.t 7)),oa 5 9 (.bin .mul (.t 8) (.c (.int .i64 6364136223846793005))),oa 6 10 (.bin .add (.t 9) (.c (.int .i64 1442695040888963407))),oa 7 11 (.nilck (.t 4)),oa 8 12 (.fieldA 2 (.t 11)),os 9 (.storeH 1 (.t 12) (.t 10))]) (.seq [3,0] (.region [om 0 13 0,xA 1 14 (.nilck (.t 13)) (rg 1),xA 2 15 (.fieldA 2 (.t 14)) (rg 2),xA 3 16 (.loadH none (.t 15)) (rg 3),xA 4 17 (.bin .shr (.t 16) (.c (.int .u64 33))) (rg 4),om 5 18 0,xA 6 19 (.nilck (.t 18)) [5],xA 7 20 (.fieldA 2 (.t 19)) [5,6],xA 8 21 (.loadH none (.t 20)) [5,6,7],xA 9 22 (.bin .shr (.t 21) (.c (.int .u64 45))) [5,6,7,8],xA 10 23 (.bin .xor (.t 17) (.t 22)) (rg 10),xA 11 24 (.bin .and (.t 23) (.c (.int .i64 255))) (rg 11),xA 12 3 (.mv (.t 24)) (rg 12)]) (.seq [3] (.seq [34,3,0] (.region [om 0 25 0,xA 1 26 (.nilck (.t 25)) (rg 1),xA 2 27 (.fieldA 1 (.t 26)) (rg 2),xA 3 28 (.loadH none (.t 27)) (rg 3),om 4 29 0,xA 5 30 (.nilck (.t 29)) [4],xA 6 31 (.fieldA 0 (.t 30)) [4,5],xA 7 32 (.loadH none (.t 31)) [4,5,6],xA 8 33 (.len (.t 32)) [4,5,6,7],xA 9 34 (.bin .lss (.t 28) (.t 33)) (rg 9)]) (.cond (.t 34) (.seq [3,0] (.region [om 0 35 3,om 1 36 0,xA 2 37 (.nilck (.t 36)) [1],xA 3 38 (.fieldA 0 (.t 37)) [1,2],xA 4 39 (.loadH none (.t 38)) [1,2,3],om 5 40 0,xA 6 41 (.nilck (.t 40)) [5],xA 7 42 (.fieldA 1 (.t 41)) [5,6],xA 8 43 (.loadH none (.t 42)) [5,6,7],xA 9 44 (.indexA 1 (.t 39) (.t 43)) [1,2,3,4,5,6,7,8],xA 10 45 (.loadH none (.t 44)) [1,2,3,4,5,6,7,8,9],xA 11 46 (.conv .i64 (.t 45)) [1,2,3,4,5,6,7,8,9,10],xA 12 47 (.bin .add (.t 35) (.t 46)) (rg 12),xA 13 48 (.bin .and (.t 47) (.c (.int .i64 255))) (rg 13),xA 14 3 (.mv (.t 48)) (rg 14)]) (.region [om 0 49 0,om 1 50 0,oa 2 51 (.nilck (.t 50)),oa 3 52 (.fieldA 1 (.t 51)),oa 4 53 (.loadH none (.t 52)),oa 5 54 (.bin .add (.t 53) (.c (.int .i64 1))),oa 6 55 (.nilck (.t 49)),oa 7 56 (.fieldA 1 (.t 55)),os 8 (.storeH 1 (.t 56) (.t 54))])) .skip)) (.seq [2] (.region [om 0 57 3,om 1 2 57]) .ret)))))
def II:DFun:=⟨1,58,0,false,[.tmp 2],fv⟩
@[irreducible] def EA:A8:=FO II.er.er
@[irreducible] def HO:B5:=DA II.er
theorem MU:Eo EA HO:=by unfold EA HO;exact IQ (f:=II.er) trivial
def P4:List HT:=[]
def P2:List (Ql×CT):=[(.frz,.sl (.one (.int .u8))),(.own,.int .i64),(.own,.int .i64)]
def P1:QT:=.one (.one .own (.int .i64))
@[irreducible] def Bq(x:List (Int)×Int×Int):Int×(Int×Int):=(shut fun x=>Kz II P4 P2 P1 x).1 x
@[irreducible] def GP(x:List (Int)×Int×Int):Prop:=(shut fun x=>Ko II P4 P2 P1 x).1 x
def Lh:Er:=LP P4 P2 P1 GP Bq
theorem MT:G0 HO Lh:=by unfold HO;exact Qi (f:=II) (hs:=P4) (cs:=P2) (q:=P1) trivial (by kernel_rfl) (fun x=>by kernel_rfl) (fun x h=>by unfold GP at h;exact Eq.mp (congrFun (shut _).2 x) h) (fun x=>by unfold Bq;exact(congrFun (shut _).2 x).symm)
def fg:DCode:=(.seq [1,0] (.region [oi 0 4 0]) (.seq [1,0] (.seq [10,1,0] (.region [om 0 9 1,oa 1 10 (.bin .leq (.t 9) (.c (.int .i64 0)))]) (.cond (.t 10) (.seq [4] (.region [oi 0 4 0]) .ret) .skip)) (.seq [1,0] (.seq [12,1,0] (.region [om 0 11 1,oa 1 12 (.bin .leq (.t 11) (.c (.int .i64 256)))]) (.cond (.t 12) (.seq [4] (.region [om 0 13 0,op 1 14 EA HO Lh [(.t 13)],om 2 15 1,oa 3 16 (.bin .rem (.t 14) (.t 15)),om 4 4 16]) .ret) .skip)) (.seq [5,1,0] (.region [om 0 17 0,op 1 18 EA HO Lh [(.t 17)],om 2 5 18]) (.seq [6,5,1,0] (.region [om 0 19 0,op 1 20 EA HO Lh [(.t 19)],om 2 6 20]) (.seq [7,6,5,1,0] (.region [om 0 21 0,op 1 22 EA HO Lh [(.t 21)],om 2 7 22]) (.seq [8,7,6,5,1] (.region [om 0 23 0,op 1 24 EA HO Lh [(.t 23)],om 2 8 24]) (.seq [4] (.region [om 0 25 5,oa 1 26 (.bin .mul (.t 25) (.c (.int .i64 16777216))),om 2 27 6,oa 3 28 (.bin .mul (.t 27) (.c (.int .i64 65536))),oa 4 29 (.bin .add (.t 26) (.t 28)),om 5 30 7,oa 6 31 (.bin .mul (.t 30) (.c (.int .i64 256))),oa 7 32 (.bin .add (.t 29) (.t 31)),om 8 33 8,oa 9 34 (.bin .add (.t 32) (.t 33)),om 10 35 1,oa 11 36 (.bin .rem (.t 34) (.t 35)),om 12 4 36]) .ret))))))))
def IF:DFun:=⟨2,37,0,false,[.tmp 4],fg⟩
@[irreducible] def GQ:A8:=FO IF.er.er
@[irreducible] def JI:B5:=DA IF.er
theorem SO:Eo GQ JI:=by unfold GQ JI;exact IQ (f:=IF.er) ⟨MU,MU,MU,MU,MU,trivial⟩
def PR:List HT:=[.one .frz (.int .i64)]
def PO:List (Ql×CT):=[(.frz,.sl (.one (.int .u8))),(.own,.int .i64),(.own,.int .i64)]
def PY:QT:=.one (.one .own (.int .i64))
@[irreducible] def Bw(x:(List (Int)×Int×Int)×Int):Int×(Int×Int):=(shut fun x=>Kz IF PR PO PY x).1 x
@[irreducible] def IG(x:(List (Int)×Int×Int)×Int):Prop:=(shut fun x=>Ko IF PR PO PY x).1 x
def PZ:Er:=LP PR PO PY IG Bw
theorem SN:G0 JI PZ:=by unfold JI;exact Qi (f:=IF) (hs:=PR) (cs:=PO) (q:=PY) ⟨MT,MT,MT,MT,MT,trivial⟩ (by kernel_rfl) (fun x=>by kernel_rfl) (fun x h=>by unfold IG at h;exact Eq.mp (congrFun (shut _).2 x) h) (fun x=>by unfold Bw;exact(congrFun (shut _).2 x).symm)
def cQ:DCode:=(.seq [1,0] (.region [oi 0 4 0]) (.seq [4] (.region [on 0 5 1,om 1 6 0,on 2 7 1,oa 3 8 (.len (.t 7)),op 4 9 GQ JI PZ [(.t 6),(.t 8)],oa 5 10 (.indexA 1 (.t 5) (.t 9)),ob 6 11 (.loadH none (.t 10)),om 7 4 11]) .ret))
def IA:DFun:=⟨2,12,0,false,[.tmp 4],cQ⟩
@[irreducible] def KU:A8:=FO IA.er.er
@[irreducible] def MK:B5:=DA IA.er
theorem cW:Eo KU MK:=by unfold KU MK;exact IQ (f:=IA.er) ⟨SO,trivial⟩
def Pw:List HT:=[.one .frz (.sl (.one (.int .i64)))]
def PB:List (Ql×CT):=[(.frz,.sl (.one (.int .u8))),(.own,.int .i64),(.own,.int .i64)]
def Pp:QT:=.one (.one .own (.int .i64))
@[irreducible] def DP(x:(List (Int)×Int×Int)×List (Int)):Int×(Int×Int):=(shut fun x=>Kz IA Pw PB Pp x).1 x
@[irreducible] def KT(x:(List (Int)×Int×Int)×List (Int)):Prop:=(shut fun x=>Ko IA Pw PB Pp x).1 x
def Wq:Er:=LP Pw PB Pp KT DP
theorem cA:G0 MK Wq:=by unfold MK;exact Qi (f:=IA) (hs:=Pw) (cs:=PB) (q:=Pp) ⟨SN,trivial⟩ (by kernel_rfl) (fun x=>by kernel_rfl) (fun x h=>by unfold KT at h;exact Eq.mp (congrFun (shut _).2 x) h) (fun x=>by unfold DP;exact(congrFun (shut _).2 x).symm)
def ic:DCode:=(.seq [0] (.region [oa 0 2 (.mv (.c (.bool false)))]) (.seq [2] (.region [on 0 3 0,oa 1 4 (.len (.t 3)),oa 2 5 (.bin .gtr (.t 4) (.c (.int .i64 1048576))),om 3 2 5]) .ret))
def HU:Fn:=⟨⟨1,6,0,true,[.tmp 2],ic⟩,[.one .frz (.sl (.one (.int .u8)))],.one (.one .own (.bool))⟩
theorem iN:HU.A:=CE trivial
def Lp:List (Int)→Bool:=HU.V
def Qe:List (Int)→Prop:=HU.O
theorem iq:HU.B:=CO trivial (by kernel_rfl) (fun x=>by kernel_rfl)
end
section
set_option maxRecDepth 100000
def SP(x:List (Int))(x0:(Int×Int)):Bool:=(bAnd (iLt x0.2 (lLen x)) (iLt x0.2 4000))
def WG(x:List (Int))(x0:(Int×Int)):(Int×Int):=((iAnd .i64 (iAdd .i64 (iAdd .i64 (iMul .i64 x0.1 131) (iConv .i64 (lGet x (iNat x0.2) 0))) 7) 1073741823),(iAdd .i64 x0.2 1))
def WI(x:List (Int))(x0:(Int×Int)):Prop:=(((bAnd (iLt x0.2 (lLen x)) (iLt x0.2 4000))=true→((((0:Int)≤x0.2)∧(x0.2<(((List.length x):Int))))∧((iNat x0.2)<(List.length x))))∧((bAnd (iLt x0.2 (lLen x)) (iLt x0.2 4000))=false→True))
theorem gD (x):HQ x=(x,0,(Ap (SP x) (WG x) ((iAdd .i64 10729 (lLen x)),0)).1):=by unfold HQ;exact(congrFun (shut _).2 x).trans (by kernel_rfl)
theorem gz (x):Lg x=(LoopOk (SP x) (WG x) (WI x) ((iAdd .i64 10729 (lLen x)),0)):=by unfold Lg;exact(congrFun (shut _).2 x).trans (by kernel_rfl)
theorem fD (x):Bq x=((bSel (iLt x.2.1 (lLen x.1)) (iAnd .i64 (iAdd .i64 (iAnd .i64 (iXor .i64 (iShr .i64 (iAdd .i64 (iMul .i64 x.2.2 6364136223846793005) 1442695040888963407) 33) (iShr .i64 (iAdd .i64 (iMul .i64 x.2.2 6364136223846793005) 1442695040888963407) 45)) 255) (iConv .i64 (lGet x.1 (iNat x.2.1) 0))) 255) (iAnd .i64 (iXor .i64 (iShr .i64 (iAdd .i64 (iMul .i64 x.2.2 6364136223846793005) 1442695040888963407) 33) (iShr .i64 (iAdd .i64 (iMul .i64 x.2.2 6364136223846793005) 1442695040888963407) 45)) 255)),(bSel (iLt x.2.1 (lLen x.1)) (iAdd .i64 x.2.1 1) x.2.1),(iAdd .i64 (iMul .i64 x.2.2 6364136223846793005) 1442695040888963407)):=by unfold Bq;exact(congrFun (shut _).2 x).trans (by kernel_rfl)
theorem fk (x):GP x=(((0:Int)≤33)∧(((0:Int)≤45)∧(((iLt x.2.1 (lLen x.1))=true→((((0:Int)≤x.2.1)∧(x.2.1<(((List.length x.1):Int))))∧((iNat x.2.1)<(List.length x.1))))∧((iLt x.2.1 (lLen x.1))=false→True)))):=by unfold GP;exact(congrFun (shut _).2 x).trans (by kernel_rfl)
theorem eS (x):Bw x=(bSel (iLe x.2 0) (0,x.1.2) (bSel (iLe x.2 256) ((iRem (Bq x.1).1 x.2),(Bq x.1).2) ((iRem (iAdd .i64 (iAdd .i64 (iAdd .i64 (iMul .i64 (Bq x.1).1 16777216) (iMul .i64 (Bq (x.1.1,(Bq x.1).2)).1 65536)) (iMul .i64 (Bq (x.1.1,(Bq (x.1.1,(Bq x.1).2)).2)).1 256)) (Bq (x.1.1,(Bq (x.1.1,(Bq (x.1.1,(Bq x.1).2)).2)).2)).1) x.2),(Bq (x.1.1,(Bq (x.1.1,(Bq (x.1.1,(Bq x.1).2)).2)).2)).2))):=by unfold Bw;exact(congrFun (shut _).2 x).trans (by kernel_rfl)
theorem eX (x):IG x=(((iLe x.2 0)=true→True)∧((iLe x.2 0)=false→(((iLe x.2 256)=true→((GP x.1)∧(x.2≠0)))∧((iLe x.2 256)=false→((GP x.1)∧((GP (x.1.1,(Bq x.1).2))∧((GP (x.1.1,(Bq (x.1.1,(Bq x.1).2)).2))∧((GP (x.1.1,(Bq (x.1.1,(Bq (x.1.1,(Bq x.1).2)).2)).2))∧(x.2≠0))))))))):=by unfold IG;exact(congrFun (shut _).2 x).trans (by kernel_rfl)
theorem cr (x):DP x=((lGet x.2 (iNat (Bw (x.1,(lLen x.2))).1) 0),(Bw (x.1,(lLen x.2))).2):=by unfold DP;exact(congrFun (shut _).2 x).trans (by kernel_rfl)
theorem cn (x):KT x=((IG (x.1,(lLen x.2)))∧((((0:Int)≤(Bw (x.1,(lLen x.2))).1)∧((Bw (x.1,(lLen x.2))).1<(((List.length x.2):Int))))∧((iNat (Bw (x.1,(lLen x.2))).1)<(List.length x.2)))):=by unfold KT;exact(congrFun (shut _).2 x).trans (by kernel_rfl)
theorem iC (x):Lp x=(iGt (lLen x) 1048576):=(HU.v x).trans (by kernel_rfl)
theorem iH (x):Qe x=True:=(HU.o x).trans (by kernel_rfl)
attribute [irreducible] Lp Qe
end
open Go.RowKit
theorem HRel.below{ι:An}{σ:Ac}{w w':World}(H:HRel ι σ w)(B:Below w.heap.size w w'):HRel ι σ w':=by
 have far:∀ (j:Nat) (b:Blk),σ[j]?=some b→b.k≠.dead→w'.heap[(ι j).b]?=w.heap[(ι j).b]?:=fun j b hj hbk=>B.block _ (H.there j b hj hbk)
 refine⟨fun l blk h hd i v hv=>?_,fun l blk h hk=>?_,H.apart,fun l blk h hd=>G9 (H.there l blk h hd) B.size⟩
 · obtain⟨c,x,hx,hr⟩:=H.cells l blk h hd i v hv;exact⟨c,x,by rw[Q2 (w:=w) (far l blk h hd)];exact hx,hr⟩
 · obtain⟨g1,g2,arr,e,g3,g4⟩:=H.own l blk h hk;exact⟨g1,g2,arr,e,by rw[far l blk h (by rw[hk];decide)];exact g3,g4⟩
theorem Step.below{ι:An}{σ:Ac}{w w':World}(B:Below w.heap.size w w'):Step ι σ w ι σ w':=
 { Step.refl ι σ w with frame:=fun b hb _=>B.block b hb,size:=B.size,os:=B.os,output:=B.output,tape:=B.tape }
def Bc(xs:List (List UInt8))(sep:List UInt8):List UInt8:=sep.intercalate xs
def MQ:A8:=fun args h Q=>∃ (u:V) (sep:List UInt8) (xs:List (List UInt8)),args=[u,.str sep]∧xs.length≤140737488355328∧(Bc xs sep).length≤140737488355328 ∧
 ((xs=[]∧(u= .nils∨∃ l o,u= .slice l o 0))∨∃ (l o:Nat) (b:Blk),u= .slice l o xs.length∧0<xs.length∧h[l]?=some b∧b.k≠.dead∧∀ (k:Nat) x,xs[k]?=some x→b.cs[o+k]?=some (.str x))∧Q (.str (Bc xs sep)) h
def lV(P:Program)(g:FuncId):Prop:=
 (∀ (bk o c:Nat) (xs:List ByteArray) (sep:ByteArray) (w:World),(∀ (j:Nat) x,xs[j]?=some x→w.cell? ⟨bk,o+j,none⟩=some (.string x))→bk<w.heap.size→xs.length≤140737488355328→xs.length≤c→(Lib.join (xs.map (·.data.toList)) sep.data.toList).length≤140737488355328 →
  Calls P g #[.slice (some ⟨bk,o,none⟩) xs.length c,.string sep] w fun e w'=>e= .returned (.string ⟨(Lib.join (xs.map (·.data.toList)) sep.data.toList).toArray⟩)∧Below w.heap.size w w') ∧
 ∀ (a:Option Addr) (c:Nat) (sep:ByteArray) (w:World),Calls P g #[.slice a 0 c,.string sep] w fun e w'=>e= .returned (.string ⟨#[]⟩)∧w'=w
theorem jO{P:Program}{g:FuncId}(hs:lV P g):AN P g MQ:=by
 rintro Φ ι σ w args xs Q hΦ H hargs ⟨u,sep,ss,rfl,hn,hlen,hu,hQ⟩;have hl:=hargs.1
 match xs,hl with
 | [x, y], _=>
   have hy:=FF (hargs.2 1 _ _ rfl rfl (fun _=>0));have hx:=hargs.2 0 _ _ rfl rfl (fun _=>0);subst hy;rcases hu with⟨rfl,hu⟩|⟨l,o,b,rfl,hpos,hb,hk,hc⟩
   · have key:∃ a c,x= .slice a 0 c:=by
      rcases hu with rfl|⟨l,o,rfl⟩
      · obtain⟨a,rfl⟩:=LH hx;exact⟨a,0,rfl⟩
      · obtain⟨_,_,⟨c,rfl,_⟩|⟨_,a,rfl⟩⟩:=EF hx
        · exact⟨_,c,rfl⟩
        · exact⟨a,0,rfl⟩
     obtain⟨a,c,rfl⟩:=key;refine(hs.2 a c ⟨sep.toArray⟩ w).mono ?_;rintro e w' ⟨rfl,rfl⟩;exact⟨_,.str (Bc [] sep),σ,ι,rfl,hQ,hΦ,fun β=>.str _,H,.refl _ _ _⟩
   · have hl:Φ l=none:=(Uo hx).1 l o _ rfl
     have hb':(kill Φ σ)[l]?=some b:=by rw[LL hl];exact hb
     obtain⟨b1,g1,hc1⟩:=EF hx;rw[hb'] at g1;cases g1;rcases hc1 with⟨c,rfl,c1,c2⟩|⟨h0,_⟩
     · have hbs:∀ (s:List UInt8),(ByteArray.mk s.toArray).data.toList=s:=fun s=>by simp
       have e1:(ss.map fun s=>ByteArray.mk s.toArray).map (·.data.toList)=ss:=by
        rw[List.map_map];simp[Function.comp_def]
       have hcall:=hs.1 (ι l).b ((ι l).o+o) c (ss.map fun s=>ByteArray.mk s.toArray) ⟨sep.toArray⟩ w (fun j x hx=>by
        rw[EJ] at hx
        cases hj:ss[j]? with
        |none=>rw[hj] at hx;cases hx
        | some s=>
          rw[hj] at hx;cases hx;obtain⟨_,z,q1,q2⟩:=H.cells l b hb' hk (o+j) _ (hc j s hj)
          rw[LS,q1,FF (q2 (fun _=>0))]) (H.there l b hb' hk) (by simpa using hn) (by simpa using c1) (by rw[e1,hbs];exact hlen)
       rw[Bd,e1,hbs] at hcall;refine hcall.mono ?_;rintro e w' ⟨rfl,B⟩;exact⟨_,.str (Bc ss sep),σ,ι,rfl,hQ,hΦ,fun β=>.str _,H.below B,Step.below B⟩
     · omega
def CF:List UInt8:=[97,32,98,32,99,32,100,32,101,32,102,32,103,32,104,32,105,32,106,32,107,32,108,32,109,32,110,32,111,32,112,32,113,32,114,32,115,32,116,32,117,32,118,32,119,32,120,32,121,32,122,32,49,32,50,32,51,32,52,32,53,32,54,32,55,32,56,32,57,32,48,32,101,110,116,101,114,32,101,115,99,32,98,97,99,107,32,116,97,98,32,115,112,97,99,101,32,109,105,110,117,115,32,101,113,117,97,108,32,108,101,102,116,32,114,105,103,104,116,32,117,112,32,100,111,119,110,32,102,49,32,102,50,32,102,51,32,102,52,32,102,53,32,102,54,32,102,55,32,102,56,32,102,57]
def Bi:List (List UInt8):=[[97],[98],[99],[100],[101],[102],[103],[104],[105],[106],[107],[108],[109],[110],[111],[112],[113],[114],[115],[116],[117],[118],[119],[120],[121],[122],[49],[50],[51],[52],[53],[54],[55],[56],[57],[48],[101,110,116,101,114],[101,115,99],[98,97,99,107],[116,97,98],[115,112,97,99,101],[109,105,110,117,115],[101,113,117,97,108],[108,101,102,116],[114,105,103,104,116],[117,112],[100,111,119,110],[102,49],[102,50],[102,51],[102,52],[102,53],[102,54],[102,55],[102,56],[102,57]]
def IE:A8:=fun args h Q=>args=[.str CF,.str [32]]∧Q (.slice h.length 0 56) (h++[⟨.own,1,Bi.map .str⟩])
def Yr(P:Program)(g:FuncId):Prop:=∀ (w:World),Calls P g #[.string ⟨CF.toArray⟩,.string ⟨#[32]⟩] w fun e w'=>∃ T,e= .returned (.slice (some ⟨w.heap.size,0,none⟩) 56 56)∧w'=w.alloc (.cells (Bi.map fun s=>Value.string ⟨s.toArray⟩).toArray T)
theorem ig{P:Program}{g:FuncId}(hs:Yr P g):AN P g IE:=by
 rintro Φ ι σ w args xs Q hΦ H hargs ⟨rfl,hQ⟩;have hl:=hargs.1
 match xs,hl with
 | [x, y],_=>
   have hx:=FF (hargs.2 0 _ _ rfl rfl (fun _=>0));have hy:=FF (hargs.2 1 _ _ rfl rfl (fun _=>0));subst hx;subst hy;refine(hs w).mono ?_;rintro e w' ⟨T,rfl,rfl⟩
   have hcl:RelCells ι (kill Φ σ) (Bi.map .str) (Bi.map fun s=>Value.string ⟨s.toArray⟩).toArray.toList:=by
    refine⟨by simp,fun i v hv=>?_⟩;rw[EJ] at hv
    cases hi:Bi[i]? with
    |none=>rw[hi] at hv;cases hv
    | some s=>
      rw[hi] at hv;cases hv;exact⟨rfl,.string ⟨s.toArray⟩,by simp[hi],fun β=>.str s⟩
   have B:BRel ι (kill Φ σ) (fun _=>0) [] w w:=⟨fun i cs h=>by simp at h,fun i cs h=>by simp at h,fun i j cs ds _ h=>by simp at h,fun i cs l blk h=>by simp at h⟩;have S:SRel ι (kill Φ σ) (fun _=>0) [] #[]:=⟨AF _,fun i=>by rw[show get [] i=V.undef from rfl];exact Rel.undef _⟩;obtain⟨g1,_,_,g2⟩:=LF H B S (Bi.map fun s=>Value.string ⟨s.toArray⟩).toArray T 1 (Bi.map .str) hcl;rw[← HY hΦ] at g1 g2;refine⟨_,.slice σ.length 0 56,_,_,rfl,hQ,hΦ.push _,fun β=>?_,g1,g2⟩;have hlen:(kill Φ σ).length=σ.length:=C4 Φ σ;rw[HY hΦ];have:=Rel.slice (ι:=upd ι (kill Φ σ).length ⟨w.heap.size,0,(Bi.map fun s=>Value.string ⟨s.toArray⟩).toArray.size⟩) (σ:=kill Φ σ++[⟨.own,1,Bi.map .str⟩]) (β:=β) σ.length 0 56 56 ⟨.own,1,Bi.map .str⟩ (by rw[← hlen];simp) (by decide) (by rw[← hlen,BN];simp[show Bi.length=56 from rfl]) (by decide);rw[← hlen,BN] at this;rw[← hlen];simpa using this
def Mr:A8:=fun args h Q=>∃ (s:List UInt8) (b:UInt8),args=[.str s,.str [b]]∧Q (.int .i64 (Lib.indexByte s b)) h
def k8(P:Program)(g:FuncId):Prop:=∀ (s:ByteArray) (c:UInt8) (w:World),Calls P g #[.string s,.string ⟨#[c]⟩] w fun e w'=>e= .returned (.int .i64 (Lib.indexByte s.data.toList c))∧w'=w
theorem iy{P:Program}{g:FuncId}(hs:k8 P g):AN P g Mr:=by
 rintro Φ ι σ w args xs Q hΦ H hargs ⟨s,b,rfl,hQ⟩;have hl:=hargs.1
 match xs,hl with
 | [x,y],_=>
   have hx:=FF (hargs.2 0 _ _ rfl rfl (fun _=>0));have hy:=FF (hargs.2 1 _ _ rfl rfl (fun _=>0));subst hx;subst hy;refine(hs ⟨s.toArray⟩ b w).mono ?_;rintro e w' ⟨rfl,rfl⟩;exact⟨_,.int .i64 (Lib.indexByte s b),σ,ι,rfl,hQ,hΦ,fun β=>by simpa using Rel.int .i64 _,H,.refl _ _ _⟩
section
set_option maxRecDepth 8000
def pL(hs:List HT)(q:QT)(ok:TuX hs→Prop)(v:TuX hs→q.D):B5:=fun args H Q=>∃ x:TuX hs,DV.encL (CK hs x)=args∧ok x∧Q (q.dv (v x)).enc H
theorem YI(hs:List HT)(q:QT)(ok:TuX hs→Prop)(v:TuX hs→q.D):Jd (pL hs q ok v) (G6 hs q ok v):=by
 intro args g w Q h hg hQ;unfold G6 at h
 cases hx:D8 hs args with
 |none=>rw[hx] at h;cases h
 | some x=>
   rw[hx] at h;simp only[Ah,Aj] at h;obtain⟨rfl,rfl⟩:=h;exact⟨x,Kk hx,hg,hQ []⟩
theorem ZS{h h0:Ac}{ω0 ω:Nat→W}{ρ:Nat→Nat}{args:List PV}{us:List V}{H:List (List PV)}(R:RS h0 ω0 ω ρ ⟨args,[],H⟩ ⟨us,[],h⟩ X0)(x:V)(hx:x.flat=true):RS h0 ω0 ω ρ ⟨[],[],H⟩ ⟨[],[],h⟩ (X1 (.fl x) x):=by
 have e:∀ p:List Nat,((PV.fl x).fcell p= .fl .undef)∨((PV.fl x).fcell p= .fl x∧x.fcell p=x):=by
  intro p
  match p with
  |[]=>exact .inl rfl
  |[0]=>right;cases x<;>first|exact⟨rfl,rfl⟩|cases hx
  |[n+1]=>exact .inl rfl
  |_::_::_=>exact .inl (by simp[PV.fcell])
 refine(R.forget).handx ?_ (fun p=>?_) (fun p i pb tp=>?_)
 · cases x<;>first|trivial|(refine⟨fun us h=>?_,fun us h=>?_⟩<;>cases h)|cases hx
 · rcases e p with e|⟨e1,e2⟩
   · rw[e];exact .undef _ _
   · rw[e1,e2];exact .v _ _ hx
 · rcases e p with e|⟨e1,e2⟩
   · rw[e];simp[PV.q]
   · rw[e1];simp[PV.q]
theorem Z7(x:V):(PV.fl x).nob:=by
 intro p hb pb tp
 match p with
 |[]=>simp[PV.fcell,PV.q]
 |[0]=>simp[PV.fcell,PV.q]
 |[n+1]=>simp[PV.fcell,PV.q]
 |_::_::_=>simp[PV.fcell,PV.q]
theorem L6{h0:Ac}{ω0 ω:Nat→W}{ρ:Nat→Nat}{st:PS}{us:St}(R:RS h0 ω0 ω ρ st us X0)(t:Nat){v:PV}(hv:Aa st.sl t=v)(h1:∀ cs,v≠.agg cs)(h2:∀ vs,v≠.tup vs)(h3:v≠.fl .undef):RC us.hp ω (.at (.s t) [0]) v (get us.sl t):=by
 have r:RC us.hp ω (.at (.s t) [0]) ((Aa st.sl t).fcell [0]) ((get us.sl t).fcell [0]):=R.core.rc (.s t) [0];have sh:=R.sh t;rw[hv] at r sh
 have e1:v.fcell [0]=v:=by cases v<;>first|rfl|exact absurd rfl (h1 _)|exact absurd rfl (h2 _)
 have e2:(get us.sl t).fcell [0]=get us.sl t:=by
  have s1:(∀ us',get us.sl t≠.agg us')∧∀ us',get us.sl t≠.tup us':=by
   cases v with
   |agg cs=>exact absurd rfl (h1 _)
   |tup vs=>exact absurd rfl (h2 _)
   |fl x=>cases x<;>first|exact absurd rfl h3|exact sh
   |_=>exact sh
  generalize get us.sl t=u at s1
  cases u<;>first|rfl|exact absurd rfl (s1.1 _)|exact absurd rfl (s1.2 _)
 rw[e1,e2] at r;exact r
def Kq(l:List (List UInt8)):List (List PV):=l.map fun s=>[.fl (.str s)]
theorem js(l:List (List UInt8)):(Kq l).flatten=l.map fun s=>.fl (.str s):=by
 induction l with
 |nil=>rfl
 |cons n r ih=>simpa [Kq] using ih
theorem jW{l:List (List UInt8)}{k:Nat}(h:k<l.length):Aa (Kq l).flatten k= .fl (.str (l[k])):=by
 rw[js,DD,EJ,Ay h];rfl
def WQ:List HT:=[.one .frz (.sl (.one .str)),.one .frz .str]
def WN:QT:=.one (.one .own .str)
@[irreducible] def La(x:List (List UInt8)×List UInt8):List UInt8:=(shut fun(x:List (List UInt8)×List UInt8)=>Bc x.1 x.2).1 x
@[irreducible] def K3(x:List (List UInt8)×List UInt8):Prop:=(shut fun(x:List (List UInt8)×List UInt8)=>x.1.length≤140737488355328∧(Bc x.1 x.2).length≤140737488355328).1 x
theorem WH (x):La x=Bc x.1 x.2:=by unfold La;exact congrFun (shut _).2 x
theorem WD (x):K3 x=(x.1.length≤140737488355328∧(Bc x.1 x.2).length≤140737488355328):=by unfold K3;exact congrFun (shut _).2 x
def WK:FU:=G6 WQ WN K3 La
@[irreducible] def MV:B5:=pL WQ WN K3 La
theorem eQ:Jd MV WK:=by unfold MV;exact YI _ _ _ _
theorem eR:Eo MQ MV:=by
 unfold MV;rintro h ω0 ρ args us H Q K R hloc ⟨⟨(xs:List (List UInt8)),(sep:List UInt8)⟩,rfl,hok,hQ⟩ hK;have hlen:=R.lsl
 match us,hlen with
 | [u1,u2],_=>
   have c1:RC h ω0 (.at (.s 0) [0]) (.sl .frz (Kq xs)) u1:=L6 (us:=⟨[u1,u2],[],h⟩) R 0 rfl (by simp) (by simp) (by simp);have c2:RC h ω0 (.at (.s 1) [0]) (.fl (.str sep)) u2:=L6 (us:=⟨[u1,u2],[],h⟩) R 1 rfl (by simp) (by simp) (by simp)
   have e2:u2= .str sep:=by cases c2;rfl
   subst e2;have hok:K3 (xs,sep):=hok;have hQ:Q (.fl (.str (La (xs,sep)))) H:=hQ;rw[WD] at hok;rw[WH] at hQ;refine⟨u1,sep,xs,rfl,hok.1,hok.2,?_,hK _ _ _ _ _ _ hQ (ZS R _ rfl) (Z7 _)⟩;generalize hes:Kq xs=es at c1
   have hxl:es.length=xs.length:=by rw[← hes];simp[Kq]
   cases c1 with
   |nil=>exact .inl ⟨Ek (by rw[← hxl];rfl),.inl rfl⟩
   | sl _ _ _ l o n b hb hk hc hne hn hw hle hr=>
     subst hes;rcases Og xs.length with h0|h0
     · exact .inl ⟨Ek h0,.inr ⟨l,o,by rw[hn,hxl,h0]⟩⟩
     · refine .inr ⟨l,o,b,by rw[hn,hxl],h0,hb,hk,fun k x hx=>?_⟩
       have hkl:k<xs.length:=by
        rcases A9 k xs.length with h|h
        · exact h
        · rw[Bg h] at hx;cases hx
       have hbw:b.w=1:=by
        obtain⟨y,ys,rfl⟩:=List.exists_cons_of_length_pos h0;have:=hw [.fl (.str y)] (by simp[Kq]);simpa using this.symm
       rw[hxl,hbw,BZ] at hle hr;have r:=hr k hkl;rw[jW hkl] at r;rw[Ay hkl] at hx;cases hx
       have e:get b.cs (o+k)= .str (xs[k]):=by
        generalize get b.cs (o+k)=z at r
        cases r with
        |v=>rfl
       rw[CB,Ay (show o+k<b.cs.length by omega)] at e;rw[Ay (show o+k<b.cs.length by omega)];simpa using e
def dz:DCode:=(.seq [2] (.region [⟨0,some 2,.a false (.litSlice 1 56 (Bi.map fun _=>.str []) (Bi.zipIdx.map fun x=>(x.2,1,.c (.str x.1)))) (some (.one .str)),none,[]⟩]) .ret)
def EU:DFun:=⟨2,3,0,false,[.tmp 2],dz⟩
theorem mG(Q:V→Ac→Prop)(h:Ac):FO EU.er.er [.str CF,.str [32]] h Q→IE [.str CF,.str [32]] h Q:=by
 intro hs;refine⟨rfl,?_⟩
 have e:FO EU.er.er [.str CF,.str [32]] h Q=(2=2∧Q (.slice h.length 0 56) (h++[⟨.own,1,Bi.map .str⟩])):=by kernel_rfl
 exact(e▸hs).2
def F4:List HT:=[.one .frz .str,.one .frz .str]
def F5:QT:=.one (.one .own (.sl (.one .str)))
@[irreducible] def Ef(x:List UInt8×List UInt8):List (List UInt8):=(shut fun x=>GG EU F4 F5 x).1 x
@[irreducible] def ID(x:List UInt8×List UInt8):Prop:=(shut fun x=>(x.1=CF∧x.2=[32])∧GB EU F4 F5 x).1 x
theorem PC (x):Ef x=Bi:=by unfold Ef;exact(congrFun (shut _).2 x).trans (by kernel_rfl)
theorem Ws (x):ID x=((x.1=CF∧x.2=[32])∧True):=by unfold ID;exact(congrFun (shut _).2 x).trans (by kernel_rfl)
def PJ:FU:=G6 F4 F5 ID Ef
@[irreducible] def K7:B5:=fun args H Q=>args=[.fl (.str CF),.fl (.str [32])]∧DA EU.er args H Q
theorem Wz:Eo IE K7:=by
 unfold K7;rintro h ω0 ρ args us H Q K R hloc ⟨rfl,hp⟩ hK;have hlen:=R.lsl
 match us,hlen with
 | [u1,u2],_=>
   have c1:RC h ω0 (.at (.s 0) [0]) (.fl (.str CF)) u1:=L6 (us:=⟨[u1,u2],[],h⟩) R 0 rfl (by simp) (by simp) (by simp);have c2:RC h ω0 (.at (.s 1) [0]) (.fl (.str [32])) u2:=L6 (us:=⟨[u1,u2],[],h⟩) R 1 rfl (by simp) (by simp) (by simp)
   have e1:u1= .str CF:=by cases c1;rfl
   have e2:u2= .str [32]:=by cases c2;rfl
   subst e1;subst e2;exact mG K h (IQ (f:=EU.er) trivial h ω0 ρ _ _ H Q K R hloc hp hK)
theorem Wr:Jd K7 PJ:=by
 intro args g w Q h hg hQ;have h0:=h;unfold PJ G6 at h
 cases hx:D8 F4 args with
 |none=>rw[hx] at h;cases h
 | some x=>
   rw[hx] at h;simp only[Ah,Aj] at h;obtain⟨rfl,rfl⟩:=h;have hg':ID x:=hg
   have ho:ID x=((x.1=CF∧x.2=[32])∧GB EU F4 F5 x):=by unfold ID;exact congrFun (shut _).2 x
   have hv:GG EU F4 F5 x=Ef x:=by unfold Ef;exact(congrFun (shut _).2 x).symm
   rw[ho] at hg';have hd:=X9 (f:=EU) (hs:=F4) (q:=F5) trivial (by kernel_rfl) (fun x=>by kernel_rfl) (ok:=GB EU F4 F5) (v:=GG EU F4 F5) (fun _ h=>h) (fun _=>rfl);unfold K7;refine⟨?_,hd args (.p (GB EU F4 F5 x)) (F5.dv (GG EU F4 F5 x)) Q (by unfold G6;rw[hx]) hg'.2 fun H=>by rw[hv];exact hQ H⟩;obtain⟨⟨a,b⟩,_⟩:=hg';rw[← Kk hx];obtain⟨x1,x2⟩:=x;have a:x1=CF:=a;have b:x2=[32]:=b;subst a;subst b;rfl
def V5:List HT:=[.one .frz .str,.one .frz .str]
def V7:QT:=.one (.one .own (.int .i64))
@[irreducible] def Dx(x:List UInt8×List UInt8):Int:=(shut fun(x:List UInt8×List UInt8)=>Lib.indexByte x.1 (x.2.getD 0 0)).1 x
@[irreducible] def It(x:List UInt8×List UInt8):Prop:=(shut fun(x:List UInt8×List UInt8)=>x.2.length=1).1 x
theorem Sn (x):Dx x=Lib.indexByte x.1 (x.2.getD 0 0):=by unfold Dx;exact congrFun (shut _).2 x
theorem Sm (x):It x=(x.2.length=1):=by unfold It;exact congrFun (shut _).2 x
def V6:FU:=G6 V5 V7 It Dx
@[irreducible] def Ms:B5:=pL V5 V7 It Dx
theorem bD:Jd Ms V6:=by unfold Ms;exact YI _ _ _ _
theorem bE:Eo Mr Ms:=by
 unfold Ms;rintro h ω0 ρ args us H Q K R hloc ⟨⟨(s:List UInt8),(sep:List UInt8)⟩,rfl,hok,hQ⟩ hK;have hlen:=R.lsl
 match us,hlen with
 | [u1,u2],_=>
   have c1:RC h ω0 (.at (.s 0) [0]) (.fl (.str s)) u1:=L6 (us:=⟨[u1,u2],[],h⟩) R 0 rfl (by simp) (by simp) (by simp);have c2:RC h ω0 (.at (.s 1) [0]) (.fl (.str sep)) u2:=L6 (us:=⟨[u1,u2],[],h⟩) R 1 rfl (by simp) (by simp) (by simp)
   have e1:u1= .str s:=by cases c1;rfl
   have e2:u2= .str sep:=by cases c2;rfl
   subst e1;subst e2;have hok:It (s,sep):=hok;have hQ:Q (.fl (.int .i64 (Dx (s,sep)))) H:=hQ;rw[Sm] at hok;rw[Sn] at hQ;obtain⟨b,rfl⟩:=List.length_eq_one_iff.1 hok;exact⟨s,b,rfl,hK _ _ _ _ _ _ hQ (ZS R _ rfl) (Z7 _)⟩
end
section
set_option maxRecDepth 8000
def cV:DCode:=(.seq [1,0] (.region [oa 0 4 (.mv (.c .nils))]) (.seq [5,1,0] (.region [⟨0,some 8,.a false (.litSlice 1 0 [] []) (some (.one (.str))),none,[]⟩,om 1 5 8]) (.seq [6,5,1,0] (.region [oi 0 6 0]) (.seq [5] (.seq [7,6,5,1,0] (.region [oi 0 7 0]) (.block 0 (.loop [0,1,5,6,7] 1 (.seq [7,6,5,1,0] (.seq [12,7,6,5,1,0] (.region [om 0 9 7,om 1 10 0,oa 2 11 (.lenT (.t 10)),oa 3 12 (.bin .leq (.t 9) (.t 11))]) (.cond (.t 12) .skip (.exit 0))) (.seq [7,6,5,1,0] (.block 1 (.seq [25,7,6,5,1,0] (.region [om 0 15 7,om 1 16 0,oa 2 17 (.lenT (.t 16)),oa 3 18 (.bin .eql (.t 15) (.t 17)),om 4 19 18,og 5 20 (.mv (.t 0)) 19 false,og 6 21 (.mv (.t 7)) 19 false,og 7 22 (.index (.t 20) (.t 21)) 19 false,og 8 23 (.mv (.t 1)) 19 false,og 9 24 (.bin .eql (.t 22) (.t 23)) 19 false,oa 10 25 (.pick (.t 19) (.c (.bool true)) (.t 24))]) (.cond (.t 25) (.seq [7,5,1,0] (.region [om 0 26 5,om 1 27 0,om 2 28 6,om 3 29 7,oa 4 30 (.substr (.t 27) (some (.t 28)) (some (.t 29))),⟨5,some 31,.a false (.litSlice 1 1 [(.str [])] [(0,1,(.t 30))]) (some (.one (.str))),none,[]⟩,oa 6 32 (.app 1 (.t 26) (.t 31)),om 7 5 32]) (.region [om 0 33 7,oa 1 34 (.bin .add (.t 33) (.c (.int .i64 1))),om 2 6 34])) .skip))) (.region [om 0 13 7,oa 1 14 (.bin .add (.t 13) (.c (.int .i64 1))),om 2 7 14])))))) (.seq [4] (.region [om 0 35 5,om 1 4 35]) .ret)))))
def JE:Fn:=⟨⟨2,36,0,false,[.tmp 4],cV⟩,[.one .frz (.str),.one .frz (.int .u8)],.one (.one .own (.sl (.one (.str))))⟩
def Bp:List UInt8×Int→List (List UInt8):=JE.V
def KR:List UInt8×Int→Prop:=JE.O
def eY:DCode:=(.seq [] (.region [oa 0 0 (.mv (.c .nils))]) (.seq [0] (.region [oF 0 1 JE [(.c (.str [97,32,98,32,99,32,100,32,101,32,102,32,103,32,104,32,105,32,106,32,107,32,108,32,109,32,110,32,111,32,112,32,113,32,114,32,115,32,116,32,117,32,118,32,119,32,120,32,121,32,122,32,49,32,50,32,51,32,52,32,53,32,54,32,55,32,56,32,57,32,48,32,101,110,116,101,114,32,101,115,99,32,98,97,99,107,32,116,97,98,32,115,112,97,99,101,32,109,105,110,117,115,32,101,113,117,97,108,32,108,101,102,116,32,114,105,103,104,116,32,117,112,32,100,111,119,110,32,102,49,32,102,50,32,102,51,32,102,52,32,102,53,32,102,54,32,102,55,32,102,56,32,102,57])),(.c (.int .u8 32))],om 1 0 1]) .ret))
def MR:Fn:=⟨⟨0,2,0,false,[.tmp 0],eY⟩,[],.one (.one .own (.sl (.one (.str))))⟩
def K9:Unit→List (List UInt8):=MR.V
def PH:Unit→Prop:=MR.O
def eL:DCode:=(.seq [0] (.region [oa 0 2 (.mv (.c (.str [])))]) (.seq [0] (.seq [5,0] (.region [om 0 3 0,oF 1 4 GU [(.t 3),(.c (.int .i64 1)),(.c (.int .i64 56))],oa 2 5 (.un .not (.t 4))]) (.cond (.t 5) (.seq [2] (.region [oa 0 2 (.mv (.c (.str [])))]) .ret) .skip)) (.seq [2] (.region [oF 0 6 MR [],om 1 7 0,oa 2 8 (.bin .sub (.t 7) (.c (.int .i64 1))),oa 3 9 (.indexA 1 (.t 6) (.t 8)),ob 4 10 (.loadH none (.t 9)),om 5 2 10]) .ret)))
def K5:Fn:=⟨⟨1,11,0,true,[.tmp 2],eL⟩,[.one .frz (.int .i64)],.one (.one .own (.str))⟩
def Bv:Int→List UInt8:=K5.V
def MF:Int→Prop:=K5.O
def cf:DCode:=(.seq [0] (.region [oa 0 2 (.mv (.c (.str [])))]) (.seq [3,0] (.region [oa 0 3 (.mv (.c (.str [])))]) (.seq [3] (.seq [4,3,0] (.region [oi 0 4 0]) (.block 0 (.loop [0,3,4] 1 (.seq [4,3,0] (.seq [10,4,3,0] (.region [om 0 5 4,oa 1 6 (.bin .lss (.t 5) (.c (.int .i64 4))),om 2 7 6,og 3 8 (.mv (.t 0)) 7 true,⟨4,some 9,.call false GU.S GU.P GU.D [(.t 8),(.c (.int .i64 1)),(.c (.int .i64 15))],(some (7,true)),[]⟩,oa 5 10 (.pick (.t 7) (.t 9) (.c (.bool false)))]) (.cond (.t 10) .skip (.exit 0))) (.seq [4,3,0] (.block 1 (.seq [17,4,3,0] (.region [om 0 13 0,om 1 14 4,oa 2 15 (.bin .shr (.t 13) (.t 14)),oa 3 16 (.bin .and (.t 15) (.c (.int .i64 1))),oa 4 17 (.bin .eql (.t 16) (.c (.int .i64 1)))]) (.cond (.t 17) (.region [om 0 18 3,om 1 19 4,om 2 20 4,oa 3 21 (.bin .add (.t 20) (.c (.int .i64 1))),oa 4 22 (.substr (.c (.str [67,83,65,71])) (some (.t 19)) (some (.t 21))),oa 5 23 (.bin .add (.t 18) (.t 22)),om 6 3 23]) .skip))) (.region [om 0 11 4,oa 1 12 (.bin .add (.t 11) (.c (.int .i64 1))),om 2 4 12])))))) (.seq [2] (.region [om 0 24 3,om 1 2 24]) .ret))))
def KS:Fn:=⟨⟨1,25,0,true,[.tmp 2],cf⟩,[.one .frz (.int .i64)],.one (.one .own (.str))⟩
def CZ:Int→List UInt8:=KS.V
def KM:Int→Prop:=KS.O
def eo:DCode:=(.seq [1,0] (.region [oa 0 4 (.mv (.c (.str [])))]) (.seq [5,1,0] (.region [⟨0,some 7,.a false (.litSlice 1 0 [] []) (some (.one (.int .u8))),none,[]⟩,om 1 5 7]) (.seq [5] (.seq [6,5,1,0] (.region [oi 0 6 0]) (.block 0 (.loop [0,1,5,6] 1 (.seq [6,5,1,0] (.seq [11,6,5,1,0] (.region [om 0 8 6,on 1 9 0,oa 2 10 (.len (.t 9)),oa 3 11 (.bin .lss (.t 8) (.t 10))]) (.cond (.t 11) .skip (.exit 0))) (.seq [6,5,1,0] (.block 1 (.seq [6,5,1,0] (.seq [15,6,5,1,0] (.region [om 0 14 6,oa 1 15 (.bin .gtr (.t 14) (.c (.int .i64 0)))]) (.cond (.t 15) (.region [om 0 16 5,om 1 17 1,oa 2 18 (.app 1 (.t 16) (.t 17)),om 3 5 18]) .skip)) (.region [om 0 19 5,on 1 20 0,om 2 21 6,oa 3 22 (.indexA 1 (.t 20) (.t 21)),oa 4 23 (.loadH none (.t 22)),oa 5 24 (.app 1 (.t 19) (.t 23)),om 6 5 24]))) (.region [om 0 12 6,oa 1 13 (.bin .add (.t 12) (.c (.int .i64 1))),om 2 6 13])))))) (.seq [4] (.region [on 0 25 5,oa 1 26 (.bstr (.t 25)),om 2 4 26]) .ret))))
def MO:Fn:=⟨⟨2,27,0,true,[.tmp 4],eo⟩,[.one .frz (.sl (.one (.str))),.one .frz (.str)],.one (.one .own (.str))⟩
def K0:List (List UInt8)×List UInt8→List UInt8:=MO.V
def MI:List (List UInt8)×List UInt8→Prop:=MO.O
def bN:DCode:=(.seq [1] (.region [oa 0 1 (.boxB 0 2 (.t 0)),oa 1 2 (.mv (.c (.str [])))]) (.seq [1] (.seq [7,1] (.region [oa 0 5 (.loadB 0 (some 2) (.t 1)),oF 1 6 F3 [(.t 5)],oa 2 7 (.un .not (.t 6))]) (.cond (.t 7) (.seq [2] (.region [oa 0 2 (.mv (.c (.str [])))]) .ret) .skip)) (.seq [3,1] (.region [⟨0,some 8,.a false (.litSlice 1 0 [] []) (some (.one (.str))),none,[]⟩,om 1 3 8]) (.seq [3,1] (.seq [4,3,1] (.region [oi 0 4 0]) (.block 0 (.loop [1,3,4] 1 (.seq [4,3,1] (.seq [13,4,3,1] (.region [om 0 9 4,oa 1 10 (.fieldA 1 (.t 1)),oa 2 11 (.loadB 0 none (.t 10)),oa 3 12 (.len (.t 11)),oa 4 13 (.bin .lss (.t 9) (.t 12))]) (.cond (.t 13) .skip (.exit 0))) (.seq [4,3,1] (.block 1 (.region [om 0 16 3,oa 1 17 (.fieldA 1 (.t 1)),oa 2 18 (.loadB 0 none (.t 17)),om 3 19 4,oa 4 20 (.indexA 1 (.t 18) (.t 19)),oa 5 21 (.loadH none (.t 20)),oF 6 22 K5 [(.t 21)],⟨7,some 23,.a false (.litSlice 1 1 [(.str [])] [(0,1,(.t 22))]) (some (.one (.str))),none,[]⟩,oa 8 24 (.app 1 (.t 16) (.t 23)),om 9 3 24])) (.region [om 0 14 4,oa 1 15 (.bin .add (.t 14) (.c (.int .i64 1))),om 2 4 15])))))) (.seq [2] (.region [oa 0 25 (.fieldA 0 (.t 1)),oa 1 26 (.loadB 0 none (.t 25)),oF 2 27 KS [(.t 26)],oa 3 28 (.bin .add (.t 27) (.c (.str [58]))),on 4 29 3,oF 5 30 MO [(.t 29),(.c (.str [44]))],oa 6 31 (.bin .add (.t 28) (.t 30)),om 7 2 31]) .ret)))))
def Mz:Fn:=⟨⟨1,32,1,true,[.tmp 2],bN⟩,[.agg [(.frz,.int .i64),(.frz,.sl (.one (.int .i64)))]],.one (.one .own (.str))⟩
def Dz:Int×List (Int)→List UInt8:=Mz.V
def Mv:Int×List (Int)→Prop:=Mz.O
def eg:DCode:=(.seq [0] (.region [oa 0 2 (.mv (.c (.str [])))]) (.seq [0] (.seq [8,0] (.region [om 0 3 0,oa 1 4 (.bin .lss (.t 3) (.c (.int .i64 1))),om 2 5 4,og 3 6 (.mv (.t 0)) 5 false,og 4 7 (.bin .gtr (.t 6) (.c (.int .i64 56))) 5 false,oa 5 8 (.pick (.t 5) (.c (.bool true)) (.t 7))]) (.cond (.t 8) (.seq [2] (.region [oa 0 2 (.mv (.c (.str [])))]) .ret) .skip)) (.seq [2] (.region [oc 0 9 IE K7 PJ [(.c (.str [97,32,98,32,99,32,100,32,101,32,102,32,103,32,104,32,105,32,106,32,107,32,108,32,109,32,110,32,111,32,112,32,113,32,114,32,115,32,116,32,117,32,118,32,119,32,120,32,121,32,122,32,49,32,50,32,51,32,52,32,53,32,54,32,55,32,56,32,57,32,48,32,101,110,116,101,114,32,101,115,99,32,98,97,99,107,32,116,97,98,32,115,112,97,99,101,32,109,105,110,117,115,32,101,113,117,97,108,32,108,101,102,116,32,114,105,103,104,116,32,117,112,32,100,111,119,110,32,102,49,32,102,50,32,102,51,32,102,52,32,102,53,32,102,54,32,102,55,32,102,56,32,102,57])),(.c (.str [32]))],om 1 10 0,oa 2 11 (.bin .sub (.t 10) (.c (.int .i64 1))),oa 3 12 (.indexA 1 (.t 9) (.t 11)),ob 4 13 (.loadH none (.t 12)),om 5 2 13]) .ret)))
def HH:Fn:=⟨⟨1,14,0,true,[.tmp 2],eg⟩,[.one .frz (.int .i64)],.one (.one .own (.str))⟩
theorem dC:HH.A:=CE ⟨Wz,trivial⟩
def MP:Int→List UInt8:=HH.V
def PD:Int→Prop:=HH.O
theorem dg:HH.B:=CO ⟨Wr,trivial⟩ (by kernel_rfl) (fun x=>by kernel_rfl)
def b5:DCode:=(.seq [0] (.region [oa 0 2 (.mv (.c (.str [])))]) (.seq [0] (.seq [11,0] (.region [om 0 6 0,oa 1 7 (.bin .lss (.t 6) (.c (.int .i64 1))),om 2 8 7,og 3 9 (.mv (.t 0)) 8 false,og 4 10 (.bin .gtr (.t 9) (.c (.int .i64 15))) 8 false,oa 5 11 (.pick (.t 8) (.c (.bool true)) (.t 10))]) (.cond (.t 11) (.seq [2] (.region [oa 0 2 (.mv (.c (.str [])))]) .ret) .skip)) (.seq [3,0] (.region [oa 0 3 (.mv (.c (.str [])))]) (.seq [3] (.seq [14,13,12,3,0] (.region [⟨0,some 12,.a false (.litSlice 1 4 [(.str []),(.str []),(.str []),(.str [])] [(0,1,(.c (.str [67]))),(1,1,(.c (.str [83]))),(2,1,(.c (.str [65]))),(3,1,(.c (.str [71])))]) (some (.one (.str))),none,[]⟩,oa 1 13 (.len (.t 12)),oi 2 14 0]) (.block 0 (.loop [0,3,12,13,14] 1 (.seq [15,14,13,12,3,0] (.region [oa 0 15 (.bin .lss (.t 14) (.t 13))]) (.seq [14,13,12,3,0] (.cond (.t 15) .skip (.exit 0)) (.seq [14,13,12,3,0] (.block 1 (.seq [14,13,12,5,4,3,0] (.region [om 0 16 14,oa 1 17 (.indexA 1 (.t 12) (.t 14)),oa 2 18 (.loadH none (.t 17)),om 3 4 16,om 4 5 18]) (.seq [22,14,13,12,5,3,0] (.region [om 0 19 0,om 1 20 4,oF 2 21 HV [(.t 19),(.t 20)],oa 3 22 (.bin .eql (.t 21) (.c (.int .i64 1)))]) (.cond (.t 22) (.region [om 0 23 3,om 1 24 5,oa 2 25 (.bin .add (.t 23) (.t 24)),om 3 3 25]) .skip)))) (.region [oa 0 26 (.bin .add (.t 14) (.c (.int .i64 1))),om 1 14 26]))))))) (.seq [2] (.region [om 0 27 3,om 1 2 27]) .ret)))))
def F0:Fn:=⟨⟨1,28,0,true,[.tmp 2],b5⟩,[.one .frz (.int .i64)],.one (.one .own (.str))⟩
theorem Wh:F0.A:=CE ⟨iM,trivial⟩
def Iz:Int→List UInt8:=F0.V
def KO:Int→Prop:=F0.O
theorem Wf:F0.B:=CO ⟨iT,trivial⟩ (by kernel_rfl) (fun x=>by kernel_rfl)
def eA:DCode:=(.seq [1,0] (.region [oa 0 4 (.mv (.c (.str [])))]) (.seq [4] (.region [on 0 5 0,om 1 6 1,oc 2 7 MQ MV WK [(.t 5),(.t 6)],om 3 4 7]) .ret))
def HK:Fn:=⟨⟨2,8,0,true,[.tmp 4],eA⟩,[.one .frz (.sl (.one (.str))),.one .frz (.str)],.one (.one .own (.str))⟩
theorem eI:HK.A:=CE ⟨eR,trivial⟩
def MM:List (List UInt8)×List UInt8→List UInt8:=HK.V
def Pt:List (List UInt8)×List UInt8→Prop:=HK.O
theorem dj:HK.B:=CO ⟨eQ,trivial⟩ (by kernel_rfl) (fun x=>by kernel_rfl)
def bO:DCode:=(.seq [1] (.region [oa 0 1 (.boxB 0 2 (.t 0)),oa 1 2 (.mv (.c (.str [])))]) (.seq [1] (.seq [8,1] (.region [oa 0 6 (.loadB 0 (some 2) (.t 1)),oF 1 7 CP [(.t 6)],oa 2 8 (.un .not (.t 7))]) (.cond (.t 8) (.seq [2] (.region [oa 0 2 (.mv (.c (.str [])))]) .ret) .skip)) (.seq [3,1] (.region [oa 0 3 (.mv (.c .nils))]) (.seq [3,1] (.seq [12,11,10,3,1] (.region [oa 0 9 (.fieldA 1 (.t 1)),oa 1 10 (.loadB 0 none (.t 9)),oa 2 11 (.len (.t 10)),oi 3 12 0]) (.block 0 (.loop [1,3,10,11,12] 1 (.seq [13,12,11,10,3,1] (.region [oa 0 13 (.bin .lss (.t 12) (.t 11))]) (.seq [12,11,10,3,1] (.cond (.t 13) .skip (.exit 0)) (.seq [12,11,10,3,1] (.block 1 (.seq [12,11,10,5,3,1] (.region [oa 0 14 (.indexA 1 (.t 10) (.t 12)),oa 1 15 (.loadH none (.t 14)),om 2 5 15]) (.region [om 0 16 3,om 1 17 5,oF 2 18 HH [(.t 17)],⟨3,some 19,.a false (.litSlice 1 1 [(.str [])] [(0,1,(.t 18))]) (some (.one (.str))),none,[]⟩,oa 4 20 (.app 1 (.t 16) (.t 19)),om 5 3 20]))) (.region [oa 0 21 (.bin .add (.t 12) (.c (.int .i64 1))),om 1 12 21]))))))) (.seq [2] (.region [oa 0 22 (.fieldA 0 (.t 1)),oa 1 23 (.loadB 0 none (.t 22)),oF 2 24 F0 [(.t 23)],oa 3 25 (.bin .add (.t 24) (.c (.str [58]))),on 4 26 3,oF 5 27 HK [(.t 26),(.c (.str [44]))],oa 6 28 (.bin .add (.t 25) (.t 27)),om 7 2 28]) .ret)))))
def ER:Fn:=⟨⟨1,29,1,true,[.tmp 2],bO⟩,[.agg [(.frz,.int .i64),(.frz,.sl (.one (.int .i64)))]],.one (.one .own (.str))⟩
theorem Wa:ER.A:=CE ⟨KX,dC,Wh,eI,trivial⟩
def Dy:Int×List (Int)→List UInt8:=ER.V
def KJ:Int×List (Int)→Prop:=ER.O
theorem Wb:ER.B:=CO ⟨KW,dg,Wf,dj,trivial⟩ (by kernel_rfl) (fun x=>by kernel_rfl)
end
section
set_option maxRecDepth 100000
def My(x:List UInt8×Int)(x0:((List (List UInt8))×(Int×Int))):Bool:=(iLe x0.2.2 (lLen x.1))
def O4(x:List UInt8×Int)(x0:((List (List UInt8))×(Int×Int))):((List (List UInt8))×(Int×Int)):=((bSel (bOr (iEq x0.2.2 (lLen x.1)) (iEq (sGet x.1 x0.2.2) x.2)) (lApp x0.1 [(lSub x.1 (iNat x0.2.1) (iNat x0.2.2))]) x0.1),(bSel (bOr (iEq x0.2.2 (lLen x.1)) (iEq (sGet x.1 x0.2.2) x.2)) (iAdd .i64 x0.2.2 1) x0.2.1),(iAdd .i64 x0.2.2 1))
def Sy(x:List UInt8×Int)(x0:((List (List UInt8))×(Int×Int))):Prop:=(((iLe x0.2.2 (lLen x.1))=true→((((iEq x0.2.2 (lLen x.1))=true→True)∧((iEq x0.2.2 (lLen x.1))=false→(((0:Int)≤x0.2.2)∧(x0.2.2<(((List.length x.1):Int))))))∧(((bOr (iEq x0.2.2 (lLen x.1)) (iEq (sGet x.1 x0.2.2) x.2))=true→(((((0:Int)≤x0.2.1)∧((0:Int)≤x0.2.2))∧(((iNat x0.2.1)≤(iNat x0.2.2))∧((iNat x0.2.2)≤(List.length x.1))))∧(Aw (((List.length x0.1)+(List.length [(lSub x.1 (iNat x0.2.1) (iNat x0.2.2))]))*1))))∧((bOr (iEq x0.2.2 (lLen x.1)) (iEq (sGet x.1 x0.2.2) x.2))=false→True))))∧((iLe x0.2.2 (lLen x.1))=false→True))
theorem cw (x):Bp x=(Ap (My x) (O4 x) ([],0,0)).1:=(JE.v x).trans (by kernel_rfl)
theorem cU (x):KR x=(LoopOk (My x) (O4 x) (Sy x) ([],0,0)):=(JE.o x).trans (by kernel_rfl)
theorem fj (x):K9 x=(Bp ([(97:UInt8),32,98,32,99,32,100,32,101,32,102,32,103,32,104,32,105,32,106,32,107,32,108,32,109,32,110,32,111,32,112,32,113,32,114,32,115,32,116,32,117,32,118,32,119,32,120,32,121,32,122,32,49,32,50,32,51,32,52,32,53,32,54,32,55,32,56,32,57,32,48,32,101,110,116,101,114,32,101,115,99,32,98,97,99,107,32,116,97,98,32,115,112,97,99,101,32,109,105,110,117,115,32,101,113,117,97,108,32,108,101,102,116,32,114,105,103,104,116,32,117,112,32,100,111,119,110,32,102,49,32,102,50,32,102,51,32,102,52,32,102,53,32,102,54,32,102,55,32,102,56,32,102,57],32)):=(MR.v x).trans (by kernel_rfl)
theorem eZ (x):PH x=(KR ([(97:UInt8),32,98,32,99,32,100,32,101,32,102,32,103,32,104,32,105,32,106,32,107,32,108,32,109,32,110,32,111,32,112,32,113,32,114,32,115,32,116,32,117,32,118,32,119,32,120,32,121,32,122,32,49,32,50,32,51,32,52,32,53,32,54,32,55,32,56,32,57,32,48,32,101,110,116,101,114,32,101,115,99,32,98,97,99,107,32,116,97,98,32,115,112,97,99,101,32,109,105,110,117,115,32,101,113,117,97,108,32,108,101,102,116,32,114,105,103,104,116,32,117,112,32,100,111,119,110,32,102,49,32,102,50,32,102,51,32,102,52,32,102,53,32,102,54,32,102,55,32,102,56,32,102,57],32)):=(MR.o x).trans (by kernel_rfl)
theorem SM (x):Bv x=(bSel (bNot (DU (x,1,56))) [] (lGet (K9 PUnit.unit) (iNat (iSub .i64 x 1)) [])):=(K5.v x).trans (by kernel_rfl)
theorem dU (x):MF x=((JL (x,1,56))∧(((bNot (DU (x,1,56)))=true→True)∧((bNot (DU (x,1,56)))=false→((PH PUnit.unit)∧((((0:Int)≤(iSub .i64 x 1))∧((iSub .i64 x 1)<(((List.length (K9 PUnit.unit)):Int))))∧((iNat (iSub .i64 x 1))<(List.length (K9 PUnit.unit)))))))):=(K5.o x).trans (by kernel_rfl)
def JA(x:Int)(x0:((List UInt8)×Int)):Bool:=(bAnd (iLt x0.2 4) (DU (x,1,15)))
def Mt(x:Int)(x0:((List UInt8)×Int)):((List UInt8)×Int):=((bSel (iEq (iAnd .i64 (iShr .i64 x x0.2) 1) 1) (sAdd x0.1 (lSub [(67:UInt8),83,65,71] (iNat x0.2) (iNat (iAdd .i64 x0.2 1)))) x0.1),(iAdd .i64 x0.2 1))
def KI(x:Int)(x0:((List UInt8)×Int)):Prop:=((((iLt x0.2 4)=true→(JL (x,1,15)))∧((iLt x0.2 4)=false→True))∧(((bAnd (iLt x0.2 4) (DU (x,1,15)))=true→(((0:Int)≤x0.2)∧(((iEq (iAnd .i64 (iShr .i64 x x0.2) 1) 1)=true→(((((0:Int)≤x0.2)∧((0:Int)≤(iAdd .i64 x0.2 1)))∧(((iNat x0.2)≤(iNat (iAdd .i64 x0.2 1)))∧((iNat (iAdd .i64 x0.2 1))≤(List.length [(67:UInt8),83,65,71]))))∧(((List.length x0.1)+(List.length (lSub [(67:UInt8),83,65,71] (iNat x0.2) (iNat (iAdd .i64 x0.2 1)))))≤9223372036854775807)))∧((iEq (iAnd .i64 (iShr .i64 x x0.2) 1) 1)=false→True))))∧((bAnd (iLt x0.2 4) (DU (x,1,15)))=false→True)))
theorem cj (x):CZ x=(Ap (JA x) (Mt x) ([],0)).1:=(KS.v x).trans (by kernel_rfl)
theorem cd (x):KM x=(LoopOk (JA x) (Mt x) (KI x) ([],0)):=(KS.o x).trans (by kernel_rfl)
def MB(x:List (List UInt8)×List UInt8)(x0:((List Int)×Int)):Bool:=(iLt x0.2 (lLen x.1))
def O8(x:List (List UInt8)×List UInt8)(x0:((List Int)×Int)):((List Int)×Int):=((lApp (bSel (iGt x0.2 0) (lApp x0.1 (sRow x.2)) x0.1) (sRow (lGet x.1 (iNat x0.2) []))),(iAdd .i64 x0.2 1))
def Pd(x:List (List UInt8)×List UInt8)(x0:((List Int)×Int)):Prop:=(((iLt x0.2 (lLen x.1))=true→((((iGt x0.2 0)=true→(Aw (((List.length x0.1)+(List.length (sRow x.2)))*1)))∧((iGt x0.2 0)=false→True))∧((((0:Int)≤x0.2)∧(x0.2<(((List.length x.1):Int))))∧(((iNat x0.2)<(List.length x.1))∧(Aw (((List.length (bSel (iGt x0.2 0) (lApp x0.1 (sRow x.2)) x0.1))+(List.length (sRow (lGet x.1 (iNat x0.2) []))))*1))))))∧((iLt x0.2 (lLen x.1))=false→True))
theorem eM (x):K0 x=(rowS (Ap (MB x) (O8 x) ([],0)).1):=(MO.v x).trans (by kernel_rfl)
theorem eH (x):MI x=(LoopOk (MB x) (O8 x) (Pd x) ([],0)):=(MO.o x).trans (by kernel_rfl)
def Jy(x:Int×List (Int))(x0:((List (List UInt8))×Int)):Bool:=(iLt x0.2 (lLen x.2))
def KH(x:Int×List (Int))(x0:((List (List UInt8))×Int)):((List (List UInt8))×Int):=((lApp x0.1 [(Bv (lGet x.2 (iNat x0.2) 0))]),(iAdd .i64 x0.2 1))
def OZ(x:Int×List (Int))(x0:((List (List UInt8))×Int)):Prop:=(((iLt x0.2 (lLen x.2))=true→((((0:Int)≤x0.2)∧(x0.2<(((List.length x.2):Int))))∧(((iNat x0.2)<(List.length x.2))∧((MF (lGet x.2 (iNat x0.2) 0))∧(Aw (((List.length x0.1)+(List.length [(Bv (lGet x.2 (iNat x0.2) 0))]))*1))))))∧((iLt x0.2 (lLen x.2))=false→True))
theorem Wc (x):Dz x=(bSel (bNot (BI x)) [] (sAdd (sAdd (CZ x.1) [(58:UInt8)]) (K0 ((Ap (Jy x) (KH x) ([],0)).1,[(44:UInt8)])))):=(Mz.v x).trans (by kernel_rfl)
theorem bL (x):Mv x=((HE x)∧(((bNot (BI x))=true→True)∧((bNot (BI x))=false→((LoopOk (Jy x) (KH x) (OZ x) ([],0))∧((KM x.1)∧((((List.length (CZ x.1))+(List.length [(58:UInt8)]))≤9223372036854775807)∧((MI ((Ap (Jy x) (KH x) ([],0)).1,[(44:UInt8)]))∧(((List.length (sAdd (CZ x.1) [(58:UInt8)]))+(List.length (K0 ((Ap (Jy x) (KH x) ([],0)).1,[(44:UInt8)]))))≤9223372036854775807)))))))):=(Mz.o x).trans (by kernel_rfl)
theorem dN (x):MP x=(bSel (bOr (iLt x 1) (iGt x 56)) [] (lGet (Ef ([(97:UInt8),32,98,32,99,32,100,32,101,32,102,32,103,32,104,32,105,32,106,32,107,32,108,32,109,32,110,32,111,32,112,32,113,32,114,32,115,32,116,32,117,32,118,32,119,32,120,32,121,32,122,32,49,32,50,32,51,32,52,32,53,32,54,32,55,32,56,32,57,32,48,32,101,110,116,101,114,32,101,115,99,32,98,97,99,107,32,116,97,98,32,115,112,97,99,101,32,109,105,110,117,115,32,101,113,117,97,108,32,108,101,102,116,32,114,105,103,104,116,32,117,112,32,100,111,119,110,32,102,49,32,102,50,32,102,51,32,102,52,32,102,53,32,102,54,32,102,55,32,102,56,32,102,57],[(32:UInt8)])) (iNat (iSub .i64 x 1)) [])):=(HH.v x).trans (by kernel_rfl)
theorem eu (x):PD x=(((bOr (iLt x 1) (iGt x 56))=true→True)∧((bOr (iLt x 1) (iGt x 56))=false→((ID ([(97:UInt8),32,98,32,99,32,100,32,101,32,102,32,103,32,104,32,105,32,106,32,107,32,108,32,109,32,110,32,111,32,112,32,113,32,114,32,115,32,116,32,117,32,118,32,119,32,120,32,121,32,122,32,49,32,50,32,51,32,52,32,53,32,54,32,55,32,56,32,57,32,48,32,101,110,116,101,114,32,101,115,99,32,98,97,99,107,32,116,97,98,32,115,112,97,99,101,32,109,105,110,117,115,32,101,113,117,97,108,32,108,101,102,116,32,114,105,103,104,116,32,117,112,32,100,111,119,110,32,102,49,32,102,50,32,102,51,32,102,52,32,102,53,32,102,54,32,102,55,32,102,56,32,102,57],[(32:UInt8)]))∧((((0:Int)≤(iSub .i64 x 1))∧((iSub .i64 x 1)<(((List.length (Ef ([(97:UInt8),32,98,32,99,32,100,32,101,32,102,32,103,32,104,32,105,32,106,32,107,32,108,32,109,32,110,32,111,32,112,32,113,32,114,32,115,32,116,32,117,32,118,32,119,32,120,32,121,32,122,32,49,32,50,32,51,32,52,32,53,32,54,32,55,32,56,32,57,32,48,32,101,110,116,101,114,32,101,115,99,32,98,97,99,107,32,116,97,98,32,115,112,97,99,101,32,109,105,110,117,115,32,101,113,117,97,108,32,108,101,102,116,32,114,105,103,104,116,32,117,112,32,100,111,119,110,32,102,49,32,102,50,32,102,51,32,102,52,32,102,53,32,102,54,32,102,55,32,102,56,32,102,57],[(32:UInt8)]))):Int))))∧((iNat (iSub .i64 x 1))<(List.length (Ef ([(97:UInt8),32,98,32,99,32,100,32,101,32,102,32,103,32,104,32,105,32,106,32,107,32,108,32,109,32,110,32,111,32,112,32,113,32,114,32,115,32,116,32,117,32,118,32,119,32,120,32,121,32,122,32,49,32,50,32,51,32,52,32,53,32,54,32,55,32,56,32,57,32,48,32,101,110,116,101,114,32,101,115,99,32,98,97,99,107,32,116,97,98,32,115,112,97,99,101,32,109,105,110,117,115,32,101,113,117,97,108,32,108,101,102,116,32,114,105,103,104,116,32,117,112,32,100,111,119,110,32,102,49,32,102,50,32,102,51,32,102,52,32,102,53,32,102,54,32,102,55,32,102,56,32,102,57],[(32:UInt8)])))))))):=(HH.o x).trans (by kernel_rfl)
def Mu(x0:((List UInt8)×Int)):Bool:=(iLt x0.2 (lLen [[(67:UInt8)],[(83:UInt8)],[(65:UInt8)],[(71:UInt8)]]))
def O1(x:Int)(x0:((List UInt8)×Int)):((List UInt8)×Int):=((bSel (iEq (Nd (x,x0.2)) 1) (sAdd x0.1 (lGet [[(67:UInt8)],[(83:UInt8)],[(65:UInt8)],[(71:UInt8)]] (iNat x0.2) [])) x0.1),(iAdd .i64 x0.2 1))
def O2(x:Int)(x0:((List UInt8)×Int)):Prop:=(((iLt x0.2 (lLen [[(67:UInt8)],[(83:UInt8)],[(65:UInt8)],[(71:UInt8)]]))=true→((((0:Int)≤x0.2)∧(x0.2<(((List.length [[(67:UInt8)],[(83:UInt8)],[(65:UInt8)],[(71:UInt8)]]):Int))))∧(((iNat x0.2)<(List.length [[(67:UInt8)],[(83:UInt8)],[(65:UInt8)],[(71:UInt8)]]))∧((S7 (x,x0.2))∧(((iEq (Nd (x,x0.2)) 1)=true→(((List.length x0.1)+(List.length (lGet [[(67:UInt8)],[(83:UInt8)],[(65:UInt8)],[(71:UInt8)]] (iNat x0.2) [])))≤9223372036854775807))∧((iEq (Nd (x,x0.2)) 1)=false→True))))))∧((iLt x0.2 (lLen [[(67:UInt8)],[(83:UInt8)],[(65:UInt8)],[(71:UInt8)]]))=false→True))
theorem bZ (x):Iz x=(bSel (bOr (iLt x 1) (iGt x 15)) [] (Ap Mu (O1 x) ([],0)).1):=(F0.v x).trans (by kernel_rfl)
theorem b8 (x):KO x=(((bOr (iLt x 1) (iGt x 15))=true→True)∧((bOr (iLt x 1) (iGt x 15))=false→(LoopOk Mu (O1 x) (O2 x) ([],0)))):=(F0.o x).trans (by kernel_rfl)
theorem ez (x):MM x=(La x):=(HK.v x).trans (by kernel_rfl)
theorem eG (x):Pt x=(K3 x):=(HK.o x).trans (by kernel_rfl)
def Jz(x:Int×List (Int))(x0:((List (List UInt8))×Int)):Bool:=(iLt x0.2 (lLen x.2))
def KG(x:Int×List (Int))(x0:((List (List UInt8))×Int)):((List (List UInt8))×Int):=((lApp x0.1 [(MP (lGet x.2 (iNat x0.2) 0))]),(iAdd .i64 x0.2 1))
def O0(x:Int×List (Int))(x0:((List (List UInt8))×Int)):Prop:=(((iLt x0.2 (lLen x.2))=true→((((0:Int)≤x0.2)∧(x0.2<(((List.length x.2):Int))))∧(((iNat x0.2)<(List.length x.2))∧((PD (lGet x.2 (iNat x0.2) 0))∧(Aw (((List.length x0.1)+(List.length [(MP (lGet x.2 (iNat x0.2) 0))]))*1))))))∧((iLt x0.2 (lLen x.2))=false→True))
theorem bM (x):Dy x=(bSel (bNot (Cz x)) [] (sAdd (sAdd (Iz x.1) [(58:UInt8)]) (MM ((Ap (Jz x) (KG x) ([],0)).1,[(44:UInt8)])))):=(ER.v x).trans (by kernel_rfl)
theorem bK (x):KJ x=((GN x)∧(((bNot (Cz x))=true→True)∧((bNot (Cz x))=false→((LoopOk (Jz x) (KG x) (O0 x) ([],0))∧((KO x.1)∧((((List.length (Iz x.1))+(List.length [(58:UInt8)]))≤9223372036854775807)∧((Pt ((Ap (Jz x) (KG x) ([],0)).1,[(44:UInt8)]))∧(((List.length (sAdd (Iz x.1) [(58:UInt8)]))+(List.length (MM ((Ap (Jz x) (KG x) ([],0)).1,[(44:UInt8)]))))≤9223372036854775807)))))))):=(ER.o x).trans (by kernel_rfl)
attribute [irreducible] Bp KR K9 PH Bv MF CZ KM K0 MI Dz Mv MP PD Iz KO MM Pt Dy KJ
end
end
end Go.Ag
