/- Part 5 of what FnExactMacroReports needs. No conditions. -/
import Derived.WalkKit
import Derived.ProofKit
import Derived.OpenShut
import Derived.Carry
import Derived.ChangeSame
import Derived.Attr
import Derived.Sort.Row
import Derived.Sort.Grow
import Derived.KernelRfl
import Derived.Test.YthljgcjmaabnoaaLibD
namespace Go.Ag
set_option linter.unusedSimpArgs false
set_option linter.unusedVariables false
noncomputable section
def Zbp(p:ZfF)(D:ZhA):Prop:=∀ (args:List DV) (g:PX) (v:DV) (Q:PV→List (List PV)→Prop),D args=some (g,v)→g.den→(∀ H,Q v.enc H)→p (DV.encL args) [] Q
def ZzN(p:ZfF)(D:ZvC):Prop:=∀ (args:List DV) (b:List (List DV)) (g:PX) (v:DV) (H:List (List DV)) (Q:PV→List (List PV)→Prop),D args b=some (g,v,H)→g.den→Q v.enc (Zoo (Ztr b H))→p (DV.encL args) (Zoo b) Q
inductive ObD where
 |nv (p:ZfF) (D:ZhA)
 |wp (p:ZfF) (D:ZvC)
def ObD.sound:ObD→Prop
 |.nv p D=>Zbp p D
 |.wp p D=>ZzN p D
def DOp.obs:DOp→List ObD
 |.a _ _ _=>[]
 |.aw _ _ _ _=>[]
 |.call _ _ p D _=>[.nv p D]
 |.mark _ _ _ _=>[]
 |.callp _ _ p D _=>[.wp p D]
def ZsX:List DOper→List ObD
 |[]=>[]
 |o::r=>o.op.obs++ZsX r
def DCode.obs:DCode→List ObD
 |.skip=>[]
 |.region ops=>ZsX ops
 |.regionU ops=>ZsX ops
 |.seq _ a b=>a.obs++b.obs
 |.cond _ a b=>a.obs++b.obs
 |.block _ a=>a.obs
 |.loop _ _ a=>a.obs
 |.exit _=>[]
 |.ret=>[]
def AllD:List ObD→Prop
 |[]=>True
 |o::r=>o.sound∧AllD r
theorem AllD.app:∀ {a b:List ObD},AllD (a++b)→AllD a∧AllD b
 |[],_,h=>⟨trivial,h⟩
 |_::_,_,⟨h1,h2⟩=>⟨⟨h1,(AllD.app h2).1⟩,(AllD.app h2).2⟩
theorem ZBv{d:DS}{s:PS}(hs:ES d s):∀ (args:List Opnd),ZiU (ZxZ d.sl args)=true→args.map (·.pev s.sl)=DV.encL (ZxZ d.sl args)
 |[],_=>rfl
 | x::r,h=>by
   simp only[ZxZ,ZiU,Bool.and_eq_true] at h
   simp only[List.map_cons,ZxZ,DV.encL,ZBv hs r h.2]
   rw[(x.dev_ev hs).of (by intro e;rw[e] at h;cases h.1)]
theorem ZjG:∀ (l:List PV),l.any PV.hasPtr=PV.hasPtrL l
 |[]=>rfl
 |v::r=>by simp only[List.any_cons,PV.hasPtrL,ZjG r]
theorem Zwf:∀ (l:List PV),l.map PV.fz=PV.fzL l
 |[]=>rfl
 |v::r=>by simp only[List.map_cons,PV.fzL,Zwf r]
theorem Zsy:∀ (l:List PV),(l.all fun v=>!v.hold)=!PV.holdL l
 |[]=>rfl
 |v::r=>by simp only[List.all_cons,PV.holdL,Zsy r,Bool.not_or]
mutual
theorem Zxk:∀ (v:DV),v.deep=true→v.enc.deep=true
 |.undef,_|.bool _,_|.int _ _,_|.str _,_|.ifc _,_|.ptr _ _,_=>rfl
 |.nil q,h=>by cases q<;>first|rfl|cases h
 |.sl q r l,h=>by cases q<;>first|(cases h;done)|exact ZsW r l
 |.agg cs,h=>ZqY cs h
 |.tup cs,h=>ZqY cs h
theorem ZqY:∀ (l:List DV),DV.deepL l=true→PV.deepL (DV.encL l)=true
 |[],_=>rfl
 | v::r,h=>by
   simp only[DV.deepL,Bool.and_eq_true] at h
   simp only[DV.encL,PV.deepL,Zxk v h.1,ZqY r h.2,Bool.and_self]
end
theorem Zvb(v:DV):v.enc.retc=v.retc:=by
 cases v<;>first|rfl|skip
 case nil q=>cases q<;>rfl
 case sl q r l=>cases q<;>rfl
theorem ZAT:∀ (l:List DV),ZuX (DV.encL l)=Zrz l
 |[]=>rfl
 |v::r=>by simp only[DV.encL,ZuX,Zrz,Zvb v,ZAT r]
theorem ZC1(v:DV):v.enc.retok=v.retok:=by
 cases v<;>first|rfl|skip
 case nil q=>exact Zvb (.nil q)
 case sl q r l=>exact Zvb (.sl q r l)
 case agg cs=>exact ZAT cs
theorem ZCm{d:DS}{s:PS}(x:Opnd)(h:ES d s)(hk:∀ n,x= .t n→Zip d.sl n≠.any):ES (Zqn x d).2 (fzOut x s).2:=by
 cases x with
 |c v=>exact h
 | t n =>
   simp only[Zqn,ZHh,fzOut,fzS]
   have hg:=(h.sl.get n).of (hk n rfl)
   rw[hg,ZjU,ZC1]
   by_cases ho:(Zip d.sl n).own=true
   · simp only[ho,if_true]
     by_cases hr:(Zip d.sl n).retok=true
     · rw[if_pos hr,if_pos hr,← ZDM]
       exact⟨(h.sl.put n (.inr rfl)).clr _,h.bx,h.hp⟩
     · rw[if_neg hr,if_neg hr];exact h
   · simp only[ho];exact h
theorem ZnV(v:DV):∀ (l:List DC) (k n:Nat),Zip l n= .any→k≠n→Zip (ZqZ l k v) n= .any
 |[],_,_,_,_=>rfl
 |_::_,0,0,_,hn=>absurd rfl hn
 |_::_,0,_+1,h,_=>h
 |_::_,_+1,0,h,_=>h
 |_::r,k+1,n+1,h,hn=>ZnV v r k n h (by simpa using hn)
theorem ZnX(hd:Hd):∀ (l:List DC) (n:Nat),Zip l n= .any→Zip (Zq1 hd l) n= .any
 |[],_,_=>rfl
 | c::_,0,h=>by
   have h:c.v= .any:=h
   simp only[Zq1,h,DV.bor,Bool.false_eq_true,if_false,Zip]
 |_::r,n+1,h=>ZnX hd r n h
theorem Zv6(x:Opnd)(d:DS)(n:Nat)(h:Zip d.sl n= .any):Zip (Zqn x d).2.sl n= .any:=by
 cases x with
 |c v=>exact h
 | t k =>
   simp only[Zqn,ZHh]
   split
   · rename_i ho
     split
     · refine ZnX _ _ _ (ZnV _ _ _ _ h ?_)
       rintro rfl;rw[h] at ho;cases ho
     · exact h
   · exact h
theorem ZnQ:∀ (args:List Opnd) (d:DS) (n:Nat),Zip d.sl n= .any→Zip (ZgM args d).sl n= .any
 |[],_,_,h=>h
 |x::r,d,n,h=>ZnQ r _ n (Zv6 x d n h)
theorem ZsQ:∀ (args:List Opnd) {d:DS} {s:PS},ES d s→(∀ x∈args,x.dev (ZgM args d).sl≠.any)→ES (ZgM args d) (fzArgs args s)
 |[],_,_,h,_=>h
 | x::r,d,s,h,hk=>by
   refine ZsQ r (ZCm x h fun n hx hn=>?_) fun y hy=>hk y (List.mem_cons_of_mem _ hy)
   subst hx
   exact hk (.t n) (List.mem_cons_self ..) (ZnQ (.t n::r) d n hn)
theorem Znd{sl:List DC}:∀ {args:List Opnd},ZiU (ZxZ sl args)=true→∀ x∈args,x.dev sl≠.any
 |[],_,_,hx=>by cases hx
 | a::r,h,x,hx=>by
   simp only[ZxZ,ZiU,Bool.and_eq_true] at h
   rcases List.mem_cons.mp hx with rfl|hx
   · intro e;rw[e] at h;cases h.1
   · exact Znd h.2 x hx
theorem DS.fzArgs_chg:∀ (args:List Opnd) (d:DS),ChgS d (ZgM args d)
 |[],d=>ChgS.refl d
 |x::r,d=>(ChgS.fzOut x d).trans (DS.fzArgs_chg r _)
section
variable {E:AExit} {D':DS}
def ZGc(E:AExit)(D':DS)(K:DS→DT)(k:PS→Prop):Prop:=∀ d s,ES d s→(K d).ok.den→(K d).lf=some (E,D')→k s
theorem ZD5{D:ZhA}{p:ZfF}(hp:Zbp p D){args:List Opnd}{d d1:DS}{s:PS}{g:PX}{v:DV}{dst:Option Nat}{k:PS→Prop}(hs:ES d s)(h:Zvi D args d=some (g,v,d1))(hg:g.den)(hk:∀ s',ES (d1.put dst v) s'→k s'):ZBm p args dst k s:=by
 unfold Zvi at h
 simp only at h
 split at h
 · rename_i hc
   simp only[Bool.and_eq_true,Bool.not_eq_true'] at hc
   obtain⟨h1,h2⟩:=hc
   split at h
   · rename_i g1 v1 hD
     split at h
     · rename_i hr
       simp only[Bool.and_eq_true,Bool.not_eq_true',Bool.or_eq_true] at hr
       obtain⟨⟨hok,hnp⟩,hdp⟩:=hr
       simp only[Option.some.injEq,Prod.mk.injEq] at h
       obtain⟨rfl,rfl,rfl⟩:=h
       have e:=ZBv hs args h1
       refine⟨by rw[e,ZjG,ZfE,h2],by rw[e];exact Zlk _ h1,?_⟩
       rw[e,ZjG,ZfE,h2]
       simp only[Bool.false_eq_true,if_false]
       rw[Zwf,← ZnJ]
       refine hp _ _ _ _ hD hg fun H=>⟨?_,?_⟩
       · rw[Zla,hnp,Zsy,ZkR]
         rcases hdp with h|h
         · simp[Zxk _ h]
         · simp[h]
       · rw[Zla,hnp]
         simp only[Bool.false_eq_true,if_false]
         exact hk _ (hs.put dst v1)
     · cases h
   · cases h
 · cases h
theorem ZwR{D:ZhA}{args:List Opnd}{d d1:DS}{g:PX}{v:DV}(h:Zvi D args d=some (g,v,d1)):d1=d∧ZiU (ZxZ d.sl args)=true:=by
 unfold Zvi at h
 simp only at h
 split at h
 · rename_i hc
   simp only[Bool.and_eq_true] at hc
   split at h
   · split at h
     · simp only[Option.some.injEq,Prod.mk.injEq] at h
       exact⟨h.2.2.symm,hc.1⟩
     · cases h
   · cases h
 · cases h
theorem ZHm(q:Ql):∀ es,(PV.sl q es).isH=q.isH'∧∀ j o,(PV.ep q es j o).isH=q.isH':=by
 intro es
 cases q with
 |bor hd p t=>cases hd<;>exact⟨rfl,fun _ _=>rfl⟩
 |pre hd p=>cases hd<;>exact⟨rfl,fun _ _=>rfl⟩
 |_=>exact⟨rfl,fun _ _=>rfl⟩
mutual
theorem ZyI:∀ (v:DV),v.enc.isH=v.isH
 |.nil q=>(ZHm q []).1
 |.sl q r l=>(ZHm q _).1
 |.ep q r l j o=>(ZHm q _).2 j o
 |.agg cs=>Ztx cs
 |.tup vs=>Ztx vs
 |.any|.undef|.bool _|.int _ _|.str _|.ifc _|.box _ _|.ptr _ _=>rfl
theorem Ztx:∀ (l:List DV),PV.isHL (DV.encL l)=DV.isHL l
 |[]=>rfl
 |v::r=>by simp only[DV.encL,PV.isHL,DV.isHL,ZyI v,Ztx r]
end
theorem EL.clrH:∀ {a:List DC} {b:List PV},EL a b→EL (Zz6 a) (Go.Ag.clrH b)
 |[],[],_=>trivial
 | c :: a,p::b,h=>by
   refine⟨?_,EL.clrH h.2⟩
   by_cases hc:c.v.isH=true
   · rw[if_pos hc];exact .inl rfl
   · rw[if_neg hc]
     rcases h.1 with h1|h1
     · exact .inl h1
     · rw[h1,ZyI,if_neg hc];exact .inr rfl
theorem EL.all:∀ {a:List DC} {b:List PV},EL a b→DV.okL (Zkr a)=true→b=DV.encL (Zkr a)
 |[],[],_,_=>rfl
 | c::a,p::b,h,hk=>by
   simp only[Zkr,DV.okL,Bool.and_eq_true] at hk
   rcases h.1 with h1|h1
   · rw[h1] at hk;cases hk.1
   · simp only[Zkr,DV.encL];rw[h1,EL.all h.2 hk.2]
theorem EB.all:∀ {a:List (List DC)} {b:List (List PV)},EB a b→okB (Zod a)=true→b=Zoo (Zod a)
 |[],[],_,_=>rfl
 | c::a,p::b,h,hk=>by
   simp only[Zod,okB,Bool.and_eq_true] at hk
   have hl:0<c.length:=by rw[← Zo1];exact Nat.le_of_ble_eq_true hk.1.1
   simp only[Zod,Zoo]
   rw[(h.1.to hl).all hk.1.2,EB.all h.2 hk.2]
theorem EL.mix:∀ (a:List DC) (vs:List DV),EL (ZED a vs) (DV.encL (ZFO (Zkr a) vs))
 |[],vs=>by simp only[ZED,Zkr,ZFO];exact EL.news vs
 | c :: a,[]=>by
   have:∀ (a:List DC),EL a (DV.encL (Zkr a)):=by
    intro a
    induction a with
    |nil=>exact trivial
    |cons x r ih=>exact⟨.inr rfl,ih⟩
   exact this (c::a)
 | c::a,v::vs=>by
   simp only[ZED,Zkr,ZFO]
   refine⟨?_,EL.mix a vs⟩
   by_cases h:v.isAny=true
   · rw[if_pos h,if_pos h];exact .inr rfl
   · rw[if_neg h,if_neg h];exact .inr rfl
theorem EB.newsB:∀ (vs:List (List DV)),EB (Go.Ag.newsB vs) (Zoo vs)
 |[]=>trivial
 |v::r=>⟨.inr (EL.news v),EB.newsB r⟩
theorem EB.mix:∀ (a:List (List DC)) (vs:List (List DV)),EB (ZET a vs) (Zoo (Ztr (Zod a) vs))
 |[],vs=>by simp only[ZET,Zod,Ztr];exact EB.newsB vs
 | c :: a,[]=>by
   have h0:∀ (a:List DC),ZED a []=a:=by intro a;cases a<;>rfl
   have h1:∀ (a:List DC),ZFO (Zkr a) []=Zkr a:=by intro a;cases a<;>rfl
   have:∀ (a:List (List DC)),EB a (Zoo (Zod a)):=by
    intro a
    induction a with
    |nil=>exact trivial
    | cons x r ih=>
      refine⟨.inr ?_,ih⟩
      have:=EL.mix x []
      rw[h0,h1] at this;exact this
   exact this (c::a)
 | c::a,v::vs=>by
   simp only[ZET,Zod,Ztr]
   exact⟨.inr (EL.mix c v),EB.mix a vs⟩
theorem ZqX:∀ (a:List (List DV)),(Zoo a).length=a.length
 |[]=>rfl
 |_::r=>by simp only[Zoo,List.length_cons,ZqX r]
theorem ZtY:∀ (a vs:List (List DV)),a.length≤(Ztr a vs).length
 |[],_=>Nat.zero_le _
 |_::_,[]=>Nat.le_refl _
 |_::a,_::vs=>by simp only[Ztr,List.length_cons];exact Nat.succ_le_succ (ZtY a vs)
theorem ZC4{D:ZvC}{p:ZfF}(hp:ZzN p D){args:List Opnd}{d d1:DS}{s:PS}{g:PX}{v:DV}{dst:Option Nat}{k:PS→Prop}(hs:ES d s)(h:ZqW D args d=some (g,v,d1))(hg:g.den)(hk:∀ s',ES (d1.put dst v) s'→k s'):ZCw p args dst k s:=by
 unfold ZqW at h
 simp only at h
 split at h
 · rename_i hc
   simp only[Bool.and_eq_true,Bool.not_eq_true'] at hc
   obtain⟨⟨h1,h2⟩,h3⟩:=hc
   have e:=ZBv hs args h1
   have eh:=hs.hp.all h3
   have hun:((DV.encL (ZxZ d.sl args)).all fun v=>!v.hold)=true:=by rw[Zsy,ZkR,h2];rfl
   split at h
   · rename_i hpt
     split at h
     · rename_i g1 v1 H hD
       split at h
       · rename_i hr
         simp only[Bool.and_eq_true,Bool.not_eq_true'] at hr
         simp only[Option.some.injEq,Prod.mk.injEq] at h
         obtain⟨rfl,rfl,rfl⟩:=h
         refine⟨by rw[e];exact Zlk _ h1,?_⟩
         rw[e,ZjG,ZfE,hpt]
         simp only[if_true]
         refine⟨hun,?_⟩
         rw[Zwf,← ZnJ,eh]
         have hE:ES { d with sl:=Zz6 d.sl,hp:=ZET d.hp H } { s with sl:=Go.Ag.clrH s.sl,hp:=Zoo (Ztr (Zod d.hp) H) }:=⟨hs.sl.clrH,hs.bx,EB.mix d.hp H⟩
         refine hp _ _ _ _ _ _ hD hg ⟨?_,by rw[Zla];exact hr.2,hk _ (hE.put dst v1)⟩
         rw[ZqX,ZqX];exact ZtY _ _
       · cases h
     · cases h
   · rename_i hpt
     split at h
     · rename_i hl
       have hl:d.hp=[]:=List.eq_nil_of_length_eq_zero (by simpa using hl)
       split at h
       · rename_i g1 v1 H hD
         split at h
         · rename_i hr
           simp only[Option.some.injEq,Prod.mk.injEq] at h
           obtain⟨rfl,rfl,rfl⟩:=h
           have hv:v1= .ptr 0 0:=by
            unfold DV.isP0 at hr
            split at hr
            · rfl
            · cases hr
           subst hv
           have hsl:s.hp=[]:=by rw[eh,hl];rfl
           refine⟨by rw[e];exact Zlk _ h1,?_⟩
           rw[e,ZjG,ZfE]
           rw[if_neg (by simpa using hpt)]
           rw[Zwf,← ZnJ]
           have:=hp _ [] _ _ _ (fun r H=>(((!r.hasPtr&&r.deep)||(DV.encL (ZxZ d.sl args)).all fun v=>!v.hold)=true)∧k (PS.put { s with hp:=if r.hasPtr then s.hp++H else s.hp } dst (if r.hasPtr then r.shift s.hp.length else r))) hD hg ⟨by rw[hun];simp,by
            have hE:ES { d with hp:=newsB H } { s with hp:=Zoo H }:=⟨hs.sl,hs.bx,EB.newsB H⟩
            have:=hk _ (hE.put dst (.ptr 0 0))
            simpa [hsl,DV.enc,PV.hasPtr,PV.shift,Ztr] using this⟩
           exact this
         · cases h
       · cases h
     · cases h
 · cases h
theorem Zt5{D:ZvC}{args:List Opnd}{d d1:DS}{g:PX}{v:DV}(h:ZqW D args d=some (g,v,d1)):ChgS d d1∧ZiU (ZxZ d.sl args)=true:=by
 have cH:∀ (l:List DC),Chg l (Zz6 l):=by
  intro l
  induction l with
  |nil=>trivial
  | cons c r ih=>
    refine⟨?_,ih⟩
    by_cases hc:c.v.isH=true
    · rw[if_pos hc];exact .inl rfl
    · rw[if_neg hc];exact .inr rfl
 have cN:∀ (x:List DC) (vs:List DV),Chg x (news vs):=by
  intro x vs
  induction vs generalizing x with
  |nil=>cases x<;>trivial
  | cons v r ih=>cases x with
    |nil=>exact⟨rfl,ih []⟩
    |cons c x=>exact⟨.inl rfl,ih x⟩
 have cM:∀ (a:List DC) (vs:List DV),Chg a (ZED a vs):=by
  intro a
  induction a with
  |nil=>intro vs;exact cN [] vs
  | cons c r ih=>
    intro vs
    cases vs with
    |nil=>exact Chg.refl _
    | cons v vs=>
      refine⟨?_,ih vs⟩
      by_cases h:v.isAny=true
      · rw[if_pos h];exact .inr rfl
      · rw[if_neg h];exact .inl rfl
 have cNB:∀ (x:List (List DC)) (vs:List (List DV)),ChgB x (newsB vs):=by
  intro x vs
  induction vs generalizing x with
  |nil=>cases x<;>trivial
  | cons v r ih=>cases x with
    |nil=>exact⟨cN _ _,ih []⟩
    |cons c x=>exact⟨cN _ _,ih x⟩
 have cMB:∀ (a:List (List DC)) (vs:List (List DV)),ChgB a (ZET a vs):=by
  intro a
  induction a with
  |nil=>intro vs;exact cNB [] vs
  | cons c r ih=>
    intro vs
    cases vs with
    |nil=>exact ChgB.refl _
    |cons v vs=>exact⟨cM c v,ih vs⟩
 unfold ZqW at h
 simp only at h
 split at h
 · rename_i hc
   simp only[Bool.and_eq_true] at hc
   refine⟨?_,hc.1.1⟩
   split at h
   · split at h
     · split at h
       · simp only[Option.some.injEq,Prod.mk.injEq] at h
         obtain⟨_,_,rfl⟩:=h
         exact⟨cH _,ChgB.refl _,cMB _ _⟩
       · cases h
     · cases h
   · split at h
     · split at h
       · split at h
         · simp only[Option.some.injEq,Prod.mk.injEq] at h
           obtain⟨_,_,rfl⟩:=h
           exact⟨Chg.refl _,ChgB.refl _,cNB _ _⟩
         · cases h
       · cases h
     · cases h
 · cases h
theorem ZBe{d:DS}{s:PS}(x:Opnd)(hs:ES d s)(hk:x.dev d.sl≠.any)(ho:(x.dev d.sl).own=false):mvOut x s=((x.dev d.sl).enc,s):=by
 cases x with
 |c v=>simp only[mvOut,Opnd.dev];rw[ZoR v hk]
 | t n=>
   have:=(hs.sl.get n).of hk
   simp only[mvOut,mvS,this,ZjU,Opnd.dev] at ho ⊢
   rw[if_neg (by simp[ho])]
theorem ZwE{o:DOp}(ho:AllD o.obs){dst:Option Nat}{K:DS→DT}{k:PS→Prop}(hK:ZGc E D' K k):ZGc E D' (Zq0 o dst K) (fun s=>pop o.er dst k s):=by
 intro d s hs hok hl
 cases o with
 | call m f p D args=>
   simp only[Zq0] at hok hl
   simp only[DOp.er,pop]
   cases hc:Zvi D args (if m=true then ZgM args d else d) with
   |none=>rw[hc] at hok;exact hok.elim
   | some r=>
     obtain⟨g,v,d1⟩:=r
     rw[hc] at hok hl
     simp only[DT.chk_ok,DT.chk_lf] at hok hl
     obtain⟨e1,e2⟩:=ZwR hc
     have hs':ES (if m=true then ZgM args d else d) (if m=true then fzArgs args s else s):=by
      cases m with
      |false=>exact hs
      |true=>exact ZsQ args hs (Znd e2)
     exact ZD5 ho.1 hs' hc hok.1 fun s' hs'=>hK _ _ hs' hok.2 hl
 | aw ws m o ty=>
   simp only[Zq0] at hok hl
   simp only[DOp.er,pop]
   cases hst:Zqd ws m o ty d with
   |none=>rw[hst] at hok;exact hok.elim
   | some r=>
     obtain⟨g,v,d1⟩:=r
     rw[hst] at hok hl
     simp only[DT.chk_ok,DT.chk_lf] at hok hl
     obtain⟨s',v0,e1,e2,e3⟩:=Zui hs hst hok.1
     simp only[e1,e2]
     exact hK _ _ (e3.put dst v) hok.2 hl
 | mark f M x y=>
   simp only[Zq0] at hok hl
   simp only[DOp.er,pop]
   cases hst:Zu2 M x y d with
   |none=>rw[hst] at hok;exact hok.elim
   | some r=>
     obtain⟨g,v,d1⟩:=r
     rw[hst] at hok hl
     simp only[DT.chk_ok,DT.chk_lf] at hok hl
     exact ZEy hs hst hok.1 fun s' hs'=>hK _ _ (hs'.put dst v) hok.2 hl
 | callp m f p D args=>
   simp only[Zq0] at hok hl
   simp only[DOp.er,pop]
   cases hc:ZqW D args (if m=true then ZgM args d else d) with
   |none=>rw[hc] at hok;exact hok.elim
   | some r=>
     obtain⟨g,v,d1⟩:=r
     rw[hc] at hok hl
     simp only[DT.chk_ok,DT.chk_lf] at hok hl
     obtain⟨e1,e2⟩:=Zt5 hc
     have hs':ES (if m=true then ZgM args d else d) (if m=true then fzArgs args s else s):=by
      cases m with
      |false=>exact hs
      |true=>exact ZsQ args hs (Znd e2)
     exact ZC4 ho.1 hs' hc hok.1 fun s' hs'=>hK _ _ hs' hok.2 hl
 | a m o ty=>
   have gen:(match ZdA m o ty d with|some (g,v,st)=>DT.chk' g (K (st.put dst v))|none=>DT.bad).ok.den→(match ZdA m o ty d with|some (g,v,st)=>DT.chk' g (K (st.put dst v))|none=>DT.bad).lf=some (E,D')→pop (DOp.a m o ty).er dst k s:=by
    intro hok hl
    cases hst:ZdA m o ty d with
    |none=>rw[hst] at hok;exact hok.elim
    | some r=>
      obtain⟨g,v,d1⟩:=r
      rw[hst] at hok hl
      simp only[DT.chk_ok,DT.chk_lf] at hok hl
      obtain⟨s',e1,e2⟩:=Zp6 hs hst hok.1
      simp only[DOp.er,pop,e1]
      exact hK _ _ (e2.put dst v) hok.2 hl
   cases o<;>first|exact gen hok hl|skip
   case pick c a b=>
    clear gen
    simp only[Zq0] at hok hl
    have hc:=c.dev_ev hs
    have one:∀ (x:Opnd),(match Za8 x d with|(v,st)=>if v.ok=true then K (st.put dst v) else DT.bad).ok.den→(match Za8 x d with|(v,st)=>if v.ok=true then K (st.put dst v) else DT.bad).lf=some (E,D')→k ((mvOut x s).2.put dst (mvOut x s).1):=by
     intro x hok hl
     by_cases hv:(Za8 x d).1.ok=true
     · simp only[if_pos hv] at hok hl
       obtain⟨m1,m2⟩:=Zbv x hs hv
       rw[m1]
       exact hK _ _ (m2.put dst _) hok hl
     · simp only[if_neg hv] at hok
       exact hok.elim
    cases hcv:c.dev d.sl with
    | bool t=>
      rw[hcv] at hc
      have hp:=hc.of (by simp)
      simp only[DOp.er,pop,Zdg,hp,DV.enc]
      cases t with
      | lit t=>
        rw[hcv] at hok hl
        cases t with
        |true=>exact one a hok hl
        |false=>exact one b hok hl
      | dyn t=>
        rw[hcv] at hok hl
        simp only at hok hl
        split at hok
        · rename_i h
          rw[if_pos h] at hl
          have hok:=(PX.if_den _ _ _).mp hok
          cases t with
          |true=>exact one a (hok.1 rfl) hl
          |false=>exact one b (hok.2 rfl) hl
        · rename_i h
          rw[if_neg h] at hl
          simp only[Bool.not_eq_true,Bool.or_eq_false_iff,Bool.not_eq_false'] at h
          obtain⟨⟨h1,h2⟩,h3⟩:=h
          have ka:a.dev d.sl≠.any:=by
           intro e;rw[e] at h3;cases hb:b.dev d.sl<;>rw[hb] at h3<;>cases h3
          have kb:b.dev d.sl≠.any:=by
           intro e;rw[e] at h3;cases hb:a.dev d.sl<;>rw[hb] at h3<;>cases h3
          have hm:Zpz t (a.dev d.sl) (b.dev d.sl)≠.any:=by intro e;rw[e] at h3;cases h3
          have he:=(Zw0 t (a.dev d.sl) (b.dev d.sl)).resolve_left hm
          have:=hK _ _ (hs.put dst (Zpz t (a.dev d.sl) (b.dev d.sl))) hok hl
          rw[he] at this
          simp only[BX.b]
          cases t with
          |true=>simp only[if_true,ZBe a hs ka h1];exact this
          |false=>simp only[Bool.false_eq_true,if_false,ZBe b hs kb h2];exact this
    |_=>rw[hcv] at hok;exact hok.elim
theorem ZAO{d:DS}{s:PS}{g:Nat}{b:Bool}(hs:ES d s)(h:Zag s.sl g= .fl (.bool b)):ES (ZFc d g b) s:=by
 refine⟨?_,hs.bx,hs.hp⟩
 have:∀ {a:List DC} {l:List PV} (n:Nat),EL a l→Zag l n= .fl (.bool b)→EL (ZqZ a n (.bool (.lit b))) l:=by
  intro a
  induction a with
  |nil=>intro l n h _;exact h
  | cons c a ih=>
    intro l n h hg
    cases l with
    |nil=>exact h.elim
    | cons p l=>
      cases n with
      |zero=>exact⟨.inr hg,h.2⟩
      |succ n=>exact⟨h.1,ih n h.2 hg⟩
 exact this g hs.sl h
theorem ZEO{o:DOper}(ho:AllD o.op.obs){K:DS→DT}{k:PS→Prop}(hK:ZGc E D' K k):ZGc E D' (Zxu o K) (fun s=>Zn7 o.er k s):=by
 intro d s hs hok hl
 have skip:∀ {d s},ES d s→(K (d.put o.dst (.tup []))).ok.den→(K (d.put o.dst (.tup []))).lf=some (E,D')→k (s.put o.dst (.tup [])):=fun hs hok hl=>hK _ _ (hs.put o.dst (.tup [])) hok hl
 unfold Zxu at hok hl
 unfold Zn7
 simp only[DOper.er]
 cases hg:o.guard with
 |none=>rw[hg] at hok hl;exact ZwE ho hK d s hs hok hl
 | some g=>
   obtain⟨g,want⟩:=g
   rw[hg] at hok hl
   simp only at hok hl ⊢
   have hv:=hs.sl.get g
   cases hgv:Zip d.sl g with
   | bool t=>
     rw[hgv] at hok hl hv
     have hp:=hv.of (by simp)
     simp only[DV.enc] at hp
     rw[hp]
     simp only
     cases t with
     | lit t=>
       simp only at hok hl
       by_cases hw:t=want
       · rw[if_pos (by simpa using hw)] at hok hl
         rw[if_pos (show (BX.lit t).b=want from hw)]
         exact ZwE ho hK d s hs hok hl
       · rw[if_neg (by simpa using hw)] at hok hl
         rw[if_neg (show ¬ (BX.lit t).b=want from hw)]
         exact skip hs hok hl
     | dyn t=>
       simp only[BX.b] at hp ⊢
       have hok:=(PX.if_den _ _ _).mp hok
       have hs2:=ZAO hs hp
       cases t with
       | true=>
         have hok:=hok.1 rfl
         simp only[DT.lf] at hl
         cases want with
         |true=>exact ZwE ho hK _ s hs2 hok hl
         |false=>exact skip hs2 hok hl
       | false=>
         have hok:=hok.2 rfl
         simp only[DT.lf] at hl
         cases want with
         |true=>exact skip hs2 hok hl
         |false=>exact ZwE ho hK _ s hs2 hok hl
   | tup vs=>
     cases vs with
     | nil=>
       rw[hgv] at hok hl hv
       have hp:=hv.of (by simp)
       simp only[DV.enc,DV.encL] at hp
       rw[hp]
       exact skip hs hok hl
     |cons v r=>rw[hgv] at hok;exact hok.elim
   |_=>rw[hgv] at hok;exact hok.elim
theorem ZBF:∀ (ops:List DOper),AllD (ZsX ops)→∀ {k:PS→Prop},E= .normal→(∀ s,ES D' s→k s)→ZGc E D' (ZBH ops) (fun s=>ZBI (ops.map fun o=>o.er) k s)
 | [],_,k,hE,hk=>by
   intro d s hs hok hl
   simp only[ZBH,DT.lf,Option.some.injEq,Prod.mk.injEq] at hl
   obtain⟨_,rfl⟩:=hl
   exact hk s hs
 | o::r,ho,k,hE,hk=>by
   obtain⟨h1,h2⟩:=ho.app
   exact ZEO h1 (ZBF r h2 hE hk)
end
theorem ZB3{o:DOp}{dst:Option Nat}{K:DS→DT}{b:DS}(hK:∀ d,ChgS b d→(K d).All (ChgS b)):∀ d,ChgS b d→(Zq0 o dst K d).All (ChgS b):=by
 intro d hd
 cases o with
 | call m f p D args=>
   simp only[Zq0]
   cases hc:Zvi D args (if m=true then ZgM args d else d) with
   |none=>trivial
   | some r=>
     obtain⟨g,v,d1⟩:=r
     obtain⟨rfl,_⟩:=ZwR hc
     refine DT.chk_all _ (hK _ ((hd.trans ?_).trans (ChgS.put _ _ _)))
     cases m with
     |true=>exact DS.fzArgs_chg args d
     |false=>exact ChgS.refl d
 | aw ws m o ty=>
   simp only[Zq0]
   cases hst:Zqd ws m o ty d with
   |none=>trivial
   | some r=>
     obtain⟨g,v,d1⟩:=r
     exact DT.chk_all _ (hK _ ((hd.trans (Zyi hst)).trans (ChgS.put _ _ _)))
 | mark f M x y=>
   simp only[Zq0]
   cases hst:Zu2 M x y d with
   |none=>trivial
   | some r=>
     obtain⟨g,v,d1⟩:=r
     exact DT.chk_all _ (hK _ ((hd.trans (Zza hst)).trans (ChgS.put _ _ _)))
 | callp m f p D args=>
   simp only[Zq0]
   cases hc:ZqW D args (if m=true then ZgM args d else d) with
   |none=>trivial
   | some r=>
     obtain⟨g,v,d1⟩:=r
     obtain⟨h1,_⟩:=Zt5 hc
     refine DT.chk_all _ (hK _ (((hd.trans ?_).trans h1).trans (ChgS.put _ _ _)))
     cases m with
     |true=>exact DS.fzArgs_chg args d
     |false=>exact ChgS.refl d
 | a m o ty=>
   have gen:(match ZdA m o ty d with|some (g,v,st)=>DT.chk' g (K (st.put dst v))|none=>DT.bad).All (ChgS b):=by
    cases hst:ZdA m o ty d with
    |none=>trivial
    | some r=>
      obtain⟨g,v,d1⟩:=r
      exact DT.chk_all _ (hK _ ((hd.trans (Zuu hst)).trans (ChgS.put _ _ _)))
   cases o<;>first|exact gen|skip
   case pick c x y=>
    simp only[Zq0]
    have one:∀ (x:Opnd),(match Za8 x d with|(v,st)=>if v.ok=true then K (st.put dst v) else DT.bad).All (ChgS b):=by
     intro x
     simp only
     split
     · exact hK _ ((hd.trans (ChgS.mvOut x d)).trans (ChgS.put _ _ _))
     · trivial
    cases hcv:c.dev d.sl with
    | bool t=>
      cases t with
      |lit t=>cases t<;>exact one _
      | dyn t=>
        simp only
        split
        · exact⟨one x,one y⟩
        · exact hK _ (hd.trans (ChgS.put _ _ _))
    |_=>trivial
theorem ZtD(d:DS)(g:Nat)(t:Bool):ChgS d (ZFc d g t):=⟨Chg.put _ _ _,ChgB.refl _,ChgB.refl _⟩
theorem Zz1{o:DOper}{K:DS→DT}{b:DS}(hK:∀ d,ChgS b d→(K d).All (ChgS b)):∀ d,ChgS b d→(Zxu o K d).All (ChgS b):=by
 intro d hd
 unfold Zxu
 have hp:=ZB3 (o:=o.op) (dst:=o.dst) hK
 cases hg:o.guard with
 |none=>exact hp d hd
 | some g=>
   obtain⟨g,want⟩:=g
   simp only
   cases hgv:Zip d.sl g with
   | bool t=>
     cases t with
     | lit t=>
       simp only
       split
       · exact hp d hd
       · exact hK _ (hd.trans (ChgS.put _ _ _))
     | dyn t=>
       have h1:=hd.trans (ZtD d g true)
       have h2:=hd.trans (ZtD d g false)
       cases want with
       |true=>exact⟨hp _ h1,hK _ (h2.trans (ChgS.put _ _ _))⟩
       |false=>exact⟨hK _ (h1.trans (ChgS.put _ _ _)),hp _ h2⟩
   | tup vs=>
     cases vs with
     |nil=>exact hK _ (hd.trans (ChgS.put _ _ _))
     |cons v r=>trivial
   |_=>trivial
theorem Zs7{b:DS}:∀ (ops:List DOper) (d:DS),ChgS b d→(ZBH ops d).All (ChgS b)
 |[],_,h=>h
 |_::r,d,h=>Zz1 (Zs7 r) d h
theorem ZDI:∀ (ops:List DOper) {d d':DS} {e:AExit},(ZBH ops d).lf=some (e,d')→e= .normal:=by
 intro ops
 have pick : ∀ {K:DS→DT} {e:AExit} {d':DS},(∀ d,(K d).lf=some (e,d')→e= .normal)→∀ (o:DOp) (dst:Option Nat) (d:DS),(Zq0 o dst K d).lf=some (e,d')→e= .normal:=by
  intro K e d' hK o dst d hl
  cases o with
  | call m f p D args=>
    simp only[Zq0] at hl
    split at hl
    · rw[DT.chk_lf] at hl;exact hK _ hl
    · cases hl
  | aw ws m o ty=>
    simp only[Zq0] at hl
    split at hl
    · rw[DT.chk_lf] at hl;exact hK _ hl
    · cases hl
  | mark f M x y=>
    simp only[Zq0] at hl
    split at hl
    · rw[DT.chk_lf] at hl;exact hK _ hl
    · cases hl
  | callp m f p D args=>
    simp only[Zq0] at hl
    split at hl
    · rw[DT.chk_lf] at hl;exact hK _ hl
    · cases hl
  | a m o ty=>
    have gen:(match ZdA m o ty d with|some (g,v,st)=>DT.chk' g (K (st.put dst v))|none=>DT.bad).lf=some (e,d')→e= .normal:=by
     intro hl
     split at hl
     · rw[DT.chk_lf] at hl;exact hK _ hl
     · cases hl
    cases o<;>first|exact gen hl|skip
    case pick c x y=>
     simp only[Zq0] at hl
     have one:∀ (x:Opnd),(match Za8 x d with|(v,st)=>if v.ok=true then K (st.put dst v) else DT.bad).lf=some (e,d')→e= .normal:=by
      intro x hl
      simp only at hl
      split at hl
      · exact hK _ hl
      · cases hl
     cases hcv:c.dev d.sl with
     | bool t=>
       rw[hcv] at hl
       cases t with
       |lit t=>cases t<;>exact one _ hl
       | dyn t=>
         simp only at hl
         split at hl
         · cases t<;>exact one _ hl
         · exact hK _ hl
     |_=>rw[hcv] at hl;cases hl
 induction ops with
 | nil=>
   intro d d' e hl
   simp only[ZBH,DT.lf,Option.some.injEq,Prod.mk.injEq] at hl
   exact hl.1.symm
 | cons o r ih=>
   intro d d' e hl
   have hr:∀ d,(ZBH r d).lf=some (e,d')→e= .normal:=fun d h=>ih h
   simp only[ZBH] at hl
   unfold Zxu at hl
   cases hg:o.guard with
   |none=>rw[hg] at hl;exact pick hr _ _ _ hl
   | some g=>
     obtain⟨g,want⟩:=g
     rw[hg] at hl
     simp only at hl
     cases hgv:Zip d.sl g with
     | bool t=>
       rw[hgv] at hl
       cases t with
       | lit t=>
         simp only at hl
         split at hl
         · exact pick hr _ _ _ hl
         · exact hr _ hl
       | dyn t=>
         cases t<;>cases want<;>first|exact pick hr _ _ _ hl|exact hr _ hl
     | tup vs=>
       rw[hgv] at hl
       cases vs with
       |nil=>exact hr _ hl
       |cons v r=>cases hl
     |_=>rw[hgv] at hl;cases hl
theorem EL.put1{v:DV}:∀ {a:List DC} {b:List PV} (n:Nat),EL a b→EV v (Zag b n)→EL (ZqZ a n v) b
 |[],_,_,h,_=>h
 |_::_,[],_,h,_=>h.elim
 |_::_,_::_,0,h,hv=>⟨hv,h.2⟩
 |_::_,_::_,n+1,h,hv=>⟨h.1,EL.put1 n h.2 hv⟩
theorem EBx.put1{v:DV}{a:List DC}{b:List PV}(n:Nat)(h:EBx a b)(hv:EV v (Zag b n)):EBx (ZqZ a n v) b:=by
 rcases h with rfl|h
 · exact .inl rfl
 · exact .inr (h.put1 n hv)
theorem EB.put1{v:List DC}:∀ {a:List (List DC)} {b:List (List PV)} (n:Nat),EB a b→EBx v (Zaq b n)→EB (Zml a n v) b
 |[],_,_,h,_=>h
 |_::_,[],_,h,_=>h.elim
 |_::_,_::_,0,h,hv=>⟨hv,h.2⟩
 |_::_,_::_,n+1,h,hv=>⟨h.1,EB.put1 n h.2 hv⟩
def PS.at(s:PS):Pl→PV
 |.s i=>Zag s.sl i
 |.b i c=>Zag (Zaq s.bx i) c
 |.h i c=>Zag (Zaq s.hp i) c
theorem EBx.get{a:List DC}{b:List PV}(n:Nat)(h:EBx a b):EV (Zip a n) (Zag b n):=by
 rcases h with rfl|h
 · exact .inl rfl
 · exact h.get n
theorem ES.at{d:DS}{s:PS}(h:ES d s)(pl:Pl):EV (d.at pl) (s.at pl):=by
 cases pl with
 |s i=>exact h.sl.get i
 |b i c=>exact(h.bx.get i).get c
 |h i c=>exact(h.hp.get i).get c
theorem ES.wr{d:DS}{s:PS}(h:ES d s)(pl:Pl){v:DV}(hv:EV v (s.at pl)):ES (d.wr v pl) s:=by
 cases pl with
 |s i=>exact⟨h.sl.put1 i hv,h.bx,h.hp⟩
 |b i c=>exact⟨h.sl,h.bx.put1 i ((h.bx.get i).put1 c hv),h.hp⟩
 |h i c=>exact⟨h.sl,h.bx,h.hp.put1 i ((h.hp.get i).put1 c hv)⟩
theorem ZyV{q:Ql}{t:CT}{v:DV}{x:t.D}(h:t.ofQ q v=some x):(t.dv q x).enc=v.enc∧v≠.any:=by
 cases t with
 | int k=>
   cases v<;>try (cases h;done)
   rename_i k' n
   have h':(if IntKind.same k k'=true then some n else none)=some x:=h
   clear h
   split at h'
   · rename_i hk;have:=ZsA hk;subst this
     have h':=Option.some.inj h'
     subst h'
     exact⟨rfl,by simp⟩
   · cases h'
 | bool=>
   cases v<;>try (cases h;done)
   have h:=Option.some.inj h
   subst h;exact⟨rfl,by simp⟩
 | str=>
   cases v<;>try (cases h;done)
   have h:=Option.some.inj h
   subst h;exact⟨rfl,by simp⟩
 | ifc=>
   cases v<;>try (cases h;done)
   have h:=Option.some.inj h
   subst h;exact⟨rfl,by simp⟩
 | sl r=>
   cases v<;>try (cases h;done)
   case nil q'=>
    have h':(if qeq q q'=true then some ([]:List r.D) else none)=some x:=h
    clear h
    split at h'
    · rename_i hq;have:=Zpq hq;subst this
      have h':=Option.some.inj h'
      subst h';exact⟨rfl,by simp⟩
    · cases h'
   case sl q' r' l=>
    have h':(if qeq q q'=true then ZvT (r':=r') (r:=r) l else none)=some x:=h
    clear h
    split at h'
    · rename_i hq;have:=Zpq hq;subst this
      refine⟨?_,by simp⟩
      show PV.sl q _=PV.sl q _
      rw[(ZoS h').2]
    · cases h'
theorem ZGv:∀ {l:List (Ql×CT)} {vs:List DV} {x:AgX l},ZD2 l vs=some x→DV.encL (ZFI l x)=DV.encL vs
 |[],[],_,_=>rfl
 | [a],[v],x,h=>by
   show [(a.2.dv a.1 x).enc]=[v.enc]
   rw[(ZyV (q:=a.1) (t:=a.2) h).1]
 | a :: b::r,v::vs,x,h=>by
   have h':(match a.2.ofQ a.1 v,ZD2 (b::r) vs with|some x,some y=>some (x,y)|_,_=>none)=some x:=h
   clear h
   cases h1:a.2.ofQ a.1 v with
   |none=>rw[h1] at h';cases h'
   | some p=>
     cases h2:ZD2 (b::r) vs with
     |none=>rw[h1,h2] at h';cases h'
     | some q=>
       rw[h1,h2] at h'
       have h':=Option.some.inj h'
       subst h'
       show (a.2.dv a.1 p).enc::DV.encL (ZFI (b::r) q)=v.enc::DV.encL vs
       rw[(ZyV h1).1,ZGv h2]
theorem ZyT{t:HT}{v:DV}{x:t.D}(h:t.of v=some x):(t.dv x).enc=v.enc∧v≠.any:=by
 cases t with
 |one q t=>exact ZyV (q:=q) (t:=t) h
 | agg l=>
   cases v<;>try (cases h;done)
   rename_i cs
   refine⟨?_,by simp⟩
   show PV.agg _=PV.agg _
   rw[ZGv (l:=l) h]
theorem ZFq{A:DS}{s:PS}(hA:ES A s):∀ (H:List ZxN) {K:DS} {x:HoX H},ES K s→rdX A H=some x→ES (wrX K H x) s
 |[],K,x,hK,_=>hK
 | [a],K,x,hK,h=>by
   have h:a.t.of (A.at a.pl)=some x:=h
   obtain⟨h1,h2⟩:=ZyT h
   refine hK.wr a.pl (.inr ?_)
   rw[h1,(hA.at a.pl).of h2]
 | a :: b::r,K,x,hK,h=>by
   have h':(match a.t.of (A.at a.pl),rdX A (b::r) with|some x,some y=>some (x,y)|_,_=>none)=some x:=h
   clear h
   cases h1:a.t.of (A.at a.pl) with
   |none=>rw[h1] at h';cases h'
   | some p=>
     cases h2:rdX A (b::r) with
     |none=>rw[h1,h2] at h';cases h'
     | some q=>
       rw[h1,h2] at h'
       have h':=Option.some.inj h'
       subst h'
       obtain⟨h3,h4⟩:=ZyT h1
       refine ZFq hA (b::r) (x:=q) (hK.wr a.pl (.inr ?_)) h2
       rw[h3,(hA.at a.pl).of h4]
theorem ZDE(d:DS)(v:DV)(pl:Pl):ChgS d (d.wr v pl):=by
 cases pl with
 |s i=>exact⟨Chg.put _ _ _,ChgB.refl _,ChgB.refl _⟩
 |b i c=>exact⟨Chg.refl _,ChgB.put _ _ (Chg.put _ _ _),ChgB.refl _⟩
 |h i c=>exact⟨Chg.refl _,ChgB.refl _,ChgB.put _ _ (Chg.put _ _ _)⟩
theorem Zy4:∀ (H:List ZxN) (d:DS) (x:HoX H),ChgS d (wrX d H x)
 |[],d,_=>ChgS.refl d
 |[a],d,_=>ZDE d _ _
 |a::b::r,d,x=>(ZDE d _ _).trans (Zy4 (b::r) _ _)
def LeC:List DC→List DC→Prop
 |[],[]=>True
 |k::a,b::r=>(k.v= .any∨k.v=b.v)∧LeC a r
 |_,_=>False
def LeB:List (List DC)→List (List DC)→Prop
 |[],[]=>True
 |k::a,b::r=>(k=[]∨LeC k b)∧LeB a r
 |_,_=>False
structure LeS (k b:DS):Prop where
 sl:LeC k.sl b.sl
 bx:LeB k.bx b.bx
 hp:LeB k.hp b.hp
theorem LeC.refl:∀ (k:List DC),LeC k k
 |[]=>trivial
 |_::r=>⟨.inr rfl,LeC.refl r⟩
theorem LeB.refl:∀ (k:List (List DC)),LeB k k
 |[]=>trivial
 |k::r=>⟨.inr (LeC.refl k),LeB.refl r⟩
theorem LeC.put{v:DV}:∀ {k b:List DC} (n:Nat),LeC k b→Zip k n= .any→LeC k (ZqZ b n v)
 |[],[],_,h,_=>h
 |[],_::_,_,h,_=>h.elim
 |_::_,[],_,h,_=>h.elim
 |_::_,_::_,0,h,ha=>⟨.inl ha,h.2⟩
 |_::_,_::_,n+1,h,ha=>⟨h.1,LeC.put n h.2 ha⟩
theorem LeB.put{v:DV}:∀ {k b:List (List DC)} (i c:Nat),LeB k b→Zip (ZdU k i) c= .any→LeB k (Zml b i (ZqZ (ZdU b i) c v))
 |[],[],_,_,h,_=>h
 |[],_::_,_,_,h,_=>h.elim
 |_::_,[],_,_,h,_=>h.elim
 |_::_,_::_,0,c,h,ha=>⟨h.1.imp id fun h=>h.put c ha,h.2⟩
 |_::_,_::_,n+1,c,h,ha=>⟨h.1,LeB.put n c h.2 ha⟩
theorem ZwF{v:DV}(h:v.isAny=true):v= .any:=by cases v<;>first|rfl|cases h
theorem LeS.wr{k b:DS}{v:DV}{pl:Pl}(h:LeS k b)(ha:(k.at pl).isAny=true):LeS k (b.wr v pl):=by
 have ha:=ZwF ha
 cases pl with
 |s i=>exact⟨h.sl.put i ha,h.bx,h.hp⟩
 |b i c=>exact⟨h.sl,h.bx.put i c ha,h.hp⟩
 |h i c=>exact⟨h.sl,h.bx,h.hp.put i c ha⟩
theorem LeS.wrX{k:DS}:∀ (H:List ZxN) {b:DS} (x:HoX H),LeS k b→Zlt k H=true→LeS k (Go.Ag.wrX b H x)
 |[],_,_,h,_=>h
 | [a],_,_,h,ha=>by
   simp only[Zlt,Bool.and_eq_true] at ha
   exact h.wr ha.1
 | a :: b::r,_,x,h,ha=>by
   have ha':(k.at a.pl).isAny=true∧Zlt k (b::r)=true:=by
    have:((k.at a.pl).isAny&&Zlt k (b::r))=true:=ha
    simpa [Bool.and_eq_true] using this
   exact LeS.wrX (b::r) _ (h.wr ha'.1) ha'.2
theorem ZCb{a b:DV}(h:a.same b=true):a.enc=b.enc∧b≠.any:=by
 cases a<;>cases b<;>first|(cases h;done)|skip
 case undef.undef=>exact⟨rfl,by simp⟩
 case nil.nil q q'=>have:=Zpq h;subst this;exact⟨rfl,by simp⟩
 case box.box=>simp only[DV.same,Bool.and_eq_true,beq_iff_eq] at h;obtain⟨rfl,rfl⟩:=h;exact⟨rfl,by simp⟩
 case ptr.ptr=>simp only[DV.same,Bool.and_eq_true,beq_iff_eq] at h;obtain⟨rfl,rfl⟩:=h;exact⟨rfl,by simp⟩
theorem ZBw:∀ {k b y:List DC} {p:List PV},ZGz k y=true→LeC k b→Chg (Go.Ag.clean b) y→EL y p→EL k p
 |[],_,[],p,_,_,_,h=>h
 |[],_,_::_,_,h,_,_,_=>by cases h
 |_::_,_,[],_,h,_,_,_=>by cases h
 |_::_,[],_::_,_,_,h,_,_=>h.elim
 |_::_,_::_,_::_,[],_,_,_,h=>h.elim
 | k :: a,b::r,y::l,q::p,h,hl,hc,he=>by
   simp only[ZGz,Bool.and_eq_true,Bool.or_eq_true] at h
   refine⟨?_,ZBw h.2 hl.2 hc.2 he.2⟩
   rcases h.1 with(h1|h1)|h1
   · exact .inl (ZwF h1)
   · rcases hl.1 with h2|h2
     · exact .inl h2
     · rcases hc.1 with h3|h3
       · simp[h3] at h1
       · have:y.v=k.v:=by rw[h3,h2]
         rcases he.1 with h4|h4
         · exact .inl (by rw[← this];exact h4)
         · exact .inr (by rw[← this];exact h4)
   · obtain⟨h2,h3⟩:=ZCb h1
     rcases he.1 with h4|h4
     · exact absurd h4 h3
     · exact .inr (by rw[h2];exact h4)
theorem ZAq:∀ {k b y:List (List DC)} {p:List (List PV)},ZFQ k y=true→LeB k b→ChgB (Zsq b) y→EB y p→EB k p
 |[],_,[],p,_,_,_,h=>h
 |[],_,_::_,_,h,_,_,_=>by cases h
 |_::_,_,[],_,h,_,_,_=>by cases h
 |_::_,[],_::_,_,_,h,_,_=>h.elim
 |_::_,_::_,_::_,[],_,_,_,h=>h.elim
 | k :: a,b::r,y::l,q::p,h,hl,hc,he=>by
   simp only[ZFQ,Bool.and_eq_true,Bool.or_eq_true,beq_iff_eq] at h
   refine⟨?_,ZAq h.2 hl.2 hc.2 he.2⟩
   rcases h.1 with h1|h1
   · exact .inl (List.eq_nil_of_length_eq_zero h1)
   · rcases hl.1 with h2|h2
     · exact .inl h2
     · rcases he.1 with h3|h3
       · subst h3
         cases k with
         |nil=>exact .inl rfl
         |cons=>cases h1
       · exact .inr (ZBw h1 h2 hc.1 h3)
theorem ZF2{k b y:DS}{s:PS}(h:ZHG k y=true)(hl:LeS k b)(hc:ChgS b.clean y)(he:ES y s):ES k s:=by
 simp only[ZHG,Bool.and_eq_true] at h
 exact⟨ZBw h.1.1 hl.sl hc.sl he.sl,ZAq h.1.2 hl.bx hc.bx he.bx,ZAq h.2 hl.hp hc.hp he.hp⟩
theorem ZAA(pl:Nat→Pl):∀ (n:Nat) (x y:List DC),Chg x (ZB4 pl n x y).2∧∀ p,EL x p→EL (ZB4 pl n x y).2 p
 |_,[],_=>⟨trivial,fun _ h=>h⟩
 |_,_::_,[]=>⟨Chg.refl _,fun _ h=>h⟩
 | n,x::a,y::b=>by
   obtain⟨h1,h2⟩:=ZAA pl (n+1) a b
   simp only[ZB4]
   cases hr:ZB4 pl (n+1) a b with
   | mk H l=>
     rw[hr] at h1 h2
     cases cls x.v y with
     |left=>exact⟨⟨.inr rfl,h1⟩,fun p h=>by cases p with|nil=>exact h|cons q p=>exact⟨h.1,h2 p h.2⟩⟩
     |hole t=>exact⟨⟨.inl rfl,h1⟩,fun p h=>by cases p with|nil=>exact h|cons q p=>exact⟨.inl rfl,h2 p h.2⟩⟩
     |kill=>exact⟨⟨.inl rfl,h1⟩,fun p h=>by cases p with|nil=>exact h|cons q p=>exact⟨.inl rfl,h2 p h.2⟩⟩
theorem ZAG(pl:Nat→Nat→Pl):∀ (n:Nat) (x y:List (List DC)),ChgB x (ZEa pl n x y).2∧∀ p,EB x p→EB (ZEa pl n x y).2 p
 |_,[],_=>⟨trivial,fun _ h=>h⟩
 |_,_::_,[]=>⟨ChgB.refl _,fun _ h=>h⟩
 | n, x :: a,y::b=>by
   obtain⟨h1,h2⟩:=ZAG pl (n+1) a b
   simp only[ZEa]
   cases hr:ZEa pl (n+1) a b with
   | mk H l=>
     rw[hr] at h1 h2
     simp only
     split
     · obtain⟨h3,h4⟩:=ZAA (pl n) 0 x y
       cases hc:ZB4 (pl n) 0 x y with
       | mk H' x'=>
         rw[hc] at h3 h4
         exact⟨⟨h3,h1⟩,fun p h=>by
          cases p with
          |nil=>exact h
          |cons q p=>exact⟨h.1.elim (fun e=>by subst e;cases y<;>(simp only[ZB4] at hc;simp only[Prod.mk.injEq] at hc;exact .inl hc.2.symm)) fun h=>.inr (h4 q h),h2 p h.2⟩⟩
     · exact⟨⟨by cases x<;>trivial,h1⟩,fun p h=>by cases p with|nil=>exact h|cons q p=>exact⟨.inl rfl,h2 p h.2⟩⟩
theorem ZDs(x y:DS):ChgS x (ZGj x y).2∧∀ s,ES x s→ES (ZGj x y).2 s:=by
 obtain⟨h1,h2⟩:=ZAA .s 0 x.sl y.sl
 obtain⟨h3,h4⟩:=ZAG .b 0 x.bx y.bx
 obtain⟨h5,h6⟩:=ZAG .h 0 x.hp y.hp
 exact⟨⟨h1,h3,h5⟩,fun s h=>⟨h2 _ h.sl,h4 _ h.bx,h6 _ h.hp⟩⟩
theorem Zvh{live:List Nat}{body:DS→DT}{A:DS}:∀ {n:Nat} {cur:DS} {H:List ZxN} {K:DS},ZzY live body A n cur=some (H,K)→∃ Y,ZGj A Y=(H,K)
 | 0,cur,H,K,h=>by
   simp only[ZzY] at h
   split at h
   · rename_i m _
     exact⟨_,Option.some.inj h⟩
   · cases h
 | n + 1,cur,H,K,h=>by
   simp only[ZzY] at h
   split at h
   · split at h
     · exact Zvh h
     · cases h
   · cases h
theorem Zqo(live:List Nat)(d:DS):ChgS d (ZjL live d):=⟨Chg.keep _ _ _,ChgB.refl _,ChgB.refl _⟩
theorem ZAj(live:List Nat)(d:DS):ChgS d (ZCt live d):=⟨Chg.trim _ _ _,ChgB.refl _,ChgB.refl _⟩
theorem ZFz {live:List Nat} {n:Nat} {body:DS→DT} {pb:Zmn→PS→Prop} (hall:∀ d,(body d).All (ChgS d.clean))
 (hb:∀ d s e d' (k:Zmn),ES d s→(body d).ok.den→(body d).lf=some (e,d')→(∀ s',ES d' s'→k e s')→pb k s)
 {d d':DS} {s:PS} {e:AExit} {k:Zmn} (hs:ES d s) (hok:(Zx4 live n body d).ok.den) (hl:(Zx4 live n body d).lf=some (e,d')) (hk:∀ s',ES d' s'→k e s'):∃ n,ZAC pb live k n s:=by
 have hA:ES (ZjL live d) { s with sl:=ZkI live 0 s.sl }:=hs.keep live
 unfold Zx4 at hok hl
 split at hok
 · rename_i hn
   rw[if_pos hn] at hl
   rw[DT.map_ok] at hok
   rw[DT.map_lf] at hl
   obtain⟨e0,d0,h0⟩:=DT.ok_lf hok
   rw[h0] at hl
   simp only[Option.map_some,Option.some.injEq,Prod.mk.injEq] at hl
   obtain⟨rfl,rfl⟩:=hl
   have hn:(body (ZjL live d)).norm= .none:=by cases h:(body (ZjL live d)).norm<;>rw[h] at hn<;>first|rfl|cases hn
   have he:=DT.norm_none hn h0
   refine⟨1,hb _ _ _ _ _ hA hok h0 fun s' hs'=>?_⟩
   cases e0<;>first|(cases he;done)|exact hk _ hs'.rem
 · rename_i hn
   rw[if_neg hn] at hl
   split at hok
   · exact hok.elim
   · rename_i H K hd
     rw[hd] at hl
     simp only at hl
     obtain⟨Y,hY⟩:=Zvh hd
     split at hok
     · exact hok.elim
     · rename_i x0 hx0
       rw[hx0] at hl
       simp only at hl
       split at hok
       · rename_i hh
         rw[if_pos hh] at hl
         simp only[DT.ok,PX.land_den,PX.den] at hok
         obtain⟨hlo,_⟩:=hok
         simp only[DT.lf] at hl
         have hK:ES K { s with sl:=ZkI live 0 s.sl }:=by
          have:=(ZDs (ZjL live d) Y).2 _ hA
          rw[hY] at this;exact this
         have h0:ES (wrX K H x0) { s with sl:=ZkI live 0 s.sl }:=ZFq hA H hK hx0
         have hto:=hlo.to
         have hle:∀ x,LeS K (wrX K H x):=fun x=>LeS.wrX H x ⟨LeC.refl _,LeB.refl _,LeB.refl _⟩ hh
         have main:∀ {x y:HoX H},LoopTo (Zyz body K H) (Zx9 live body K H) (fun x=>(ZGm live body K H x).den) x y →
          ((lT body K H y).drop.map (ZDJ (wrX K H y))).lf=some (e,d') →
          ∃ n,∀ s:PS,ES (wrX K H x) { s with sl:=ZkI live 0 s.sl }→ZAC pb live k n s:=by
          intro x y h
          induction h with
          | stop hg hc=>
            rename_i x
            intro hl
            have hg:=((PX.land_den _ _).mp hg).1
            obtain⟨e0,d0,h0⟩:=DT.ok_lf hg
            have he:e0.isN=false:=by
             unfold Zyz at hc
             cases hcc:(lT body K H x).cont with
             |none=>rw[DT.cont_none hcc] at h0;cases h0
             |some b=>rw[hcc] at hc;rw[← DT.cont_s hcc h0];exact hc
            rw[DT.map_lf,DT.drop_lf h0 he] at hl
            simp only[Option.map_some,Option.some.injEq,Prod.mk.injEq] at hl
            obtain⟨rfl,rfl⟩:=hl
            refine⟨1,fun s hs=>hb _ _ _ _ _ hs hg h0 fun s' hs'=>?_⟩
            cases e0<;>first|(cases he;done)|exact hk _ hs'.rem
          | go hg hc h3 ih=>
            rename_i x y'
            intro hl
            obtain⟨n,ih⟩:=ih hl
            have hg2:=(PX.land_den _ _).mp hg
            obtain⟨e0,d0,h0⟩:=DT.ok_lf hg2.1
            have he:e0= .normal:=by
             unfold Zyz at hc
             cases hcc:(lT body K H x).cont with
             |none=>rw[DT.cont_none hcc] at h0;cases h0
             | some b=>
               rw[hcc] at hc
               have:=DT.cont_s hcc h0
               rw[show b.b=true from hc] at this
               cases e0<;>first|rfl|cases this
            subst he
            refine⟨n+1,fun s hs=>hb _ _ _ _ _ hs hg2.1 h0 fun s' hs'=>?_⟩
            refine ih s' ?_
            have hg3:=hg2.2
            cases hnm:(lT body K H x).norm with
            |none=>have:=DT.norm_none hnm h0;cases this
            |fail=>rw[hnm] at hg3;exact hg3.elim
            | some m=>
              rw[hnm] at hg3
              simp only at hg3
              split at hg3
              · rename_i hf
                simp only[Bool.and_eq_true] at hf
                obtain⟨hf1,hf2⟩:=hf
                have hm:ES m s':=DT.norm_s (hall _) hnm h0 hs'
                have hm2:=hm.keep live
                have hch:ChgS (wrX K H x).clean (ZjL live m):=(DT.norm_chg (hall _) hnm).trans (Zqo live m)
                have hK':=ZF2 hf1 (hle x) hch hm2
                obtain⟨y2,hy2⟩:=Option.isSome_iff_exists.mp hf2
                have hnx:Zx9 live body K H x=y2:=by unfold Zx9;rw[hnm];simp only[hy2]
                rw[hnx]
                exact ZFq hm2 H hK' hy2
              · exact hg3.elim
         obtain⟨n,hn⟩:=main hto hl
         exact⟨n,hn s h0⟩
       · exact hok.elim
theorem ZAB{live:List Nat}{n:Nat}{body:DS→DT}(hall:∀ d,(body d).All (ChgS d.clean))(d:DS):(Zx4 live n body d).All (ChgS d):=by
 unfold Zx4
 split
 · exact DT.map_all (fun st h=>(Zqo live d).trans h.rem) (hall _)
 · split
   · trivial
   · rename_i H K hd
     obtain⟨Y,hY⟩:=Zvh hd
     split
     · trivial
     · split
       · have hK:ChgS d K:=by
          have:=(ZDs (ZjL live d) Y).1
          rw[hY] at this;exact(Zqo live d).trans this
         exact DT.map_all (fun st h=>(hK.trans (Zy4 H K _)).trans h.rem) (DT.drop_all (hall _))
       · trivial
theorem ZwN(d:DS)(c:Opnd)(t:Bool):ChgS d (setc d c t):=by
 cases c with
 |t g=>exact ZtD d g t
 |c v=>exact ChgS.refl d
theorem Zy3{d:DS}{s:PS}{c:Opnd}{b:Bool}(hs:ES d s)(h:c.pev s.sl= .fl (.bool b)):ES (setc d c b) s:=by
 cases c with
 |t g=>exact ZAO hs h
 |c v=>exact hs
theorem Zjm:∀ (c:DCode) (d:DS),(dev c d).All (ChgS d)
 |.skip,d=>ChgS.refl d
 |.region ops,d=>Zs7 ops d (ChgS.refl d)
 | .regionU ops,d=>by
   simp only[dev]
   split
   · exact Zs7 ops d (ChgS.refl d)
   · trivial
 | .seq l a b,d=>by
   refine DT.then_all (Zjm a d.clean) (fun st h=>?_) (fun st h=>h.rem)
   have h1:ChgS d (ZDJ d (ZCt l st)):=(h.trans (ZAj l st)).rem
   exact DT.All.imp (fun _ h2=>h1.trans h2) (Zjm b _)
 | .cond c a b,d=>by
   simp only[dev]
   cases hc:c.dev d.sl with
   | bool t=>
     cases t with
     |lit t=>cases t<;>first|exact Zjm a d|exact Zjm b d
     |dyn t=>exact⟨DT.All.imp (fun _ h=>(ZwN d c true).trans h) (Zjm a _),DT.All.imp (fun _ h=>(ZwN d c false).trans h) (Zjm b _)⟩
   |_=>trivial
 |.block i a,d=>DT.unexit_all i (Zjm a d)
 |.loop live n a,d=>ZAB (fun d=>Zjm a d.clean) d
 |.exit i,d=>ChgS.refl d
 |.ret,d=>ChgS.refl d
theorem ZqV:∀ (c:DCode),AllD c.obs→∀ {d d':DS} {s:PS} {e:AExit} {k:Zmn},ES d s→(dev c d).ok.den→(dev c d).lf=some (e,d')→(∀ s',ES d' s'→k e s')→pwp c.er k s
 | .skip,_,d,d',s,e,k,hs,hok,hl,hk=>by
   simp only[dev,DT.lf,Option.some.injEq,Prod.mk.injEq] at hl
   obtain⟨rfl,rfl⟩:=hl
   exact hk s hs
 | .region ops,ho,d,d',s,e,k,hs,hok,hl,hk=>by
   have he:=ZDI ops hl
   subst he
   exact ZBF ops ho rfl hk d s hs hok hl
 | .regionU ops,ho,d,d',s,e,k,hs,hok,hl,hk=>by
   simp only[dev] at hok hl
   split at hok
   · rename_i hp
     rw[if_pos hp] at hl
     have he:=ZDI ops hl
     subst he
     exact⟨hp,ZBF ops ho rfl hk d s hs hok hl⟩
   · exact hok.elim
 | .seq l a b,ho,d,d',s,e,k,hs,hok,hl,hk=>by
   obtain⟨h1,h2⟩:=ho.app
   obtain⟨hoa,hc⟩:=DT.then_s (Zjm a d.clean) hok hl
   simp only[DCode.er,pwp]
   rcases hc with⟨st0,m,hla,hm,hch,hob,hlb⟩|⟨he,st0,hla,rfl⟩
   · refine ZqV a h1 hs.clean hoa hla fun s' hs'=>?_
     exact ZqV b h2 (((hm s' hs').trim l).rem) hob hlb hk
   · refine ZqV a h1 hs.clean hoa hla fun s' hs'=>?_
     cases e<;>first|(cases he;done)|exact hk s' hs'.rem
 | .cond c a b,ho,d,d',s,e,k,hs,hok,hl,hk=>by
   obtain⟨h1,h2⟩:=ho.app
   have hv:=c.dev_ev hs
   simp only[dev] at hok hl
   simp only[DCode.er,pwp]
   cases hc:c.dev d.sl with
   | bool t=>
     rw[hc] at hok hl hv
     have hp:=hv.of (by simp)
     simp only[DV.enc] at hp
     rw[hp]
     simp only
     cases t with
     | lit t=>
       cases t with
       |true=>exact ZqV a h1 hs hok hl hk
       |false=>exact ZqV b h2 hs hok hl hk
     | dyn t=>
       have hok:=(PX.if_den _ _ _).mp hok
       cases t with
       |true=>exact ZqV a h1 (Zy3 hs hp) (hok.1 rfl) hl hk
       |false=>exact ZqV b h2 (Zy3 hs hp) (hok.2 rfl) hl hk
   |_=>rw[hc] at hok;exact hok.elim
 | .block i a,ho,d,d',s,e,k,hs,hok,hl,hk=>by
   simp only[dev,DT.unexit_ok,DT.unexit_lf] at hok hl
   obtain⟨e0,d0,h0⟩:=DT.ok_lf hok
   rw[h0] at hl
   simp only[Option.map_some,Option.some.injEq,Prod.mk.injEq] at hl
   obtain⟨rfl,rfl⟩:=hl
   refine ZqV a ho hs hok h0 fun s' hs'=>?_
   have:=hk s' hs'
   cases e0 with
   |normal=>exact this
   |ret=>exact this
   | exit j=>
     simp only[Zvq]
     simp only[AExit.un] at this
     split
     · rename_i hj;rw[if_pos hj] at this;exact this
     · rename_i hj;rw[if_neg hj] at this;exact this
 | .loop live n a,ho,d,d',s,e,k,hs,hok,hl,hk=>by
   simp only[dev] at hok hl
   exact ZFz (fun d=>Zjm a d.clean) (fun d s e d' k hs hok hl hk=>ZqV a ho hs.clean hok hl hk) hs hok hl hk
 | .exit i,_,d,d',s,e,k,hs,hok,hl,hk=>by
   simp only[dev,DT.lf,Option.some.injEq,Prod.mk.injEq] at hl
   obtain⟨rfl,rfl⟩:=hl
   exact hk s hs
 | .ret,_,d,d',s,e,k,hs,hok,hl,hk=>by
   simp only[dev,DT.lf,Option.some.injEq,Prod.mk.injEq] at hl
   obtain⟨rfl,rfl⟩:=hl
   exact hk s hs
mutual
def DV.flt:DV→Bool
 |.bool _|.int _ _|.str _|.ifc _=>true
 |.agg cs=>DV.fltL cs
 |.tup vs=>DV.fltL vs
 |_=>false
def DV.fltL:List DV→Bool
 |[]=>true
 |v::r=>v.flt&&DV.fltL r
end
mutual
theorem ZvH:∀ (v:DV),v.flt=true→v.enc.flt=true
 |.bool _,_|.int _ _,_|.str _,_|.ifc _,_=>rfl
 |.agg cs,h=>ZsJ cs h
 |.tup cs,h=>ZsJ cs h
theorem ZsJ:∀ (l:List DV),DV.fltL l=true→PV.fltL (DV.encL l)=true
 |[],_=>rfl
 | v::r,h=>by
   simp only[DV.fltL,Bool.and_eq_true] at h
   simp only[DV.encL,PV.fltL,ZvH v h.1,ZsJ r h.2,Bool.and_self]
end
theorem Zs8:∀ (l:List DV),Zrz l=true→DV.okL l=true
 |[],_=>rfl
 | v::r,h=>by
   simp only[Zrz,Bool.and_eq_true] at h
   have:v.ok=true:=by cases v<;>first|rfl|(have:=h.1;cases this)
   simp only[DV.okL,this,Zs8 r h.2,Bool.and_self]
theorem EBx.segm2{a:List DC}{b:List PV}{o n:Nat}(h:EBx a b)(hl:o+n≤a.length)(hk:DV.okL (Zes (Zkr a) o n)=true):Go.Ag.segm b o n=DV.encL (Zes (Zkr a) o n)∧o+n≤b.length:=by
 rcases h with rfl|h
 · simp only[List.length_nil,Nat.le_zero_eq,Nat.add_eq_zero_iff] at hl
   obtain⟨rfl,rfl⟩:=hl
   refine⟨?_,Nat.zero_le _⟩
   cases b<;>rfl
 · exact⟨h.segm o n hk,by rw[← h.len];exact hl⟩
theorem Zwd{st st':DS}{s:PS}{r:Zki}{v:DV}(hs:ES st s)(h:Zux st r=some (v,st'))(hv:v.ok=true):∃ s',ZlO s r=some (v.enc,s')∧ES st' s':=by
 cases r with
 | tmp t=>
   simp only[Zux] at h
   split at h
   · rename_i hc
     simp only[Bool.and_eq_true] at hc
     simp only[Option.some.injEq] at h
     have hk:(Za8 (.t t) st).1.ok=true:=by
      have:(Za8 (.t t) st).1=v:=by simp only[Za8,h]
      rw[this];exact hv
     obtain⟨m1,m2⟩:=Zbv (.t t) hs hk
     have hne:Zip st.sl t≠.any:=by intro e;rw[e] at hc;cases hc.2
     have hp:=(hs.sl.get t).of hne
     simp only[Za8,h,mvOut] at m1 m2
     refine⟨(mvS (Zag s.sl t) t s).2,?_,m2⟩
     simp only[ZlO]
     rw[if_pos (by rw[hp];exact ZBp _ hc.1),← m1]
   · cases h
 | cell t n=>
   simp only[Zux] at h
   have hp:=hs.sl.get t
   cases hv:Zip st.sl t with
   | box i o=>
     rw[hv] at h hp
     have hp:=hp.of (by simp)
     simp only at h
     split at h
     · rename_i hc
       simp only[Bool.and_eq_true] at hc
       simp only[Option.map_eq_some_iff] at h
       obtain⟨⟨g,r⟩,h1,h2⟩:=h
       simp only at h2
       subst h2
       obtain⟨e1,e2⟩:=(hs.bx.get i).segm2 (Nat.le_of_ble_eq_true hc.1) (Zs8 _ hc.2)
       have hg:g= .tt:=by
        unfold Zp4 at h1
        simp only[if_true] at h1
        split at h1
        · simp only[Option.map_eq_some_iff,Prod.mk.injEq] at h1
          obtain⟨_,_,rfl,_⟩:=h1;rfl
        · cases h1
       subst hg
       obtain⟨s',e3,e4⟩:=Zn2 (p:=.box i o) hs (.inr rfl) h1
       refine⟨s',?_,e4⟩
       simp only[ZlO,hp,DV.enc]
       rw[if_pos ⟨e2,by rw[e1];exact Zo5 _ hc.2⟩]
       exact e3
     · cases h
   | ptr i o=>
     rw[hv] at h hp
     have hp:=hp.of (by simp)
     simp only at h
     split at h
     · rename_i hc
       simp only[Bool.and_eq_true] at hc
       simp only[Option.map_eq_some_iff] at h
       obtain⟨⟨g,r⟩,h1,h2⟩:=h
       simp only at h2
       subst h2
       obtain⟨e1,e2⟩:=(hs.hp.get i).segm2 (Nat.le_of_ble_eq_true hc.1) (Zs8 _ hc.2)
       have hg:g= .tt∧i<st.hp.length:=by
        unfold ZnL at h1
        simp only[if_true] at h1
        split at h1
        · rename_i hb
          simp only[Bool.and_eq_true] at hb
          simp only[Option.map_eq_some_iff,Prod.mk.injEq] at h1
          obtain⟨_,_,rfl,_⟩:=h1
          exact⟨rfl,Nat.le_of_ble_eq_true hb.1.1⟩
        · cases h1
       obtain⟨rfl,hi⟩:=hg
       obtain⟨s',e3,e4⟩:=ZnZ (p:=.ptr i o) hs (.inr rfl) h1 trivial
       refine⟨s',?_,e4⟩
       simp only[ZlO,hp,DV.enc]
       rw[if_pos ⟨by rw[← hs.hp.len];exact hi,e2,by rw[e1];exact Zo5 _ hc.2⟩]
       exact e3
     · cases h
   |_=>rw[hv] at h;cases h
theorem ZuK:∀ {res:List Zki} {st st':DS} {s:PS} {vs:List DV},ES st s→ZnG st res=some (vs,st')→DV.okL vs=true→∃ s',Zji s res=some (DV.encL vs,s')∧ES st' s'
 | [],st,st',s,vs,hs,h,_=>by
   simp only[ZnG,Option.some.injEq,Prod.mk.injEq] at h
   obtain⟨rfl,rfl⟩:=h
   exact⟨s,rfl,hs⟩
 | r :: rs,st,st',s,vs,hs,h,hk=>by
   simp only[ZnG] at h
   split at h
   · rename_i v st1 h1
     split at h
     · rename_i vs1 st2 h2
       simp only[Option.some.injEq,Prod.mk.injEq] at h
       obtain⟨rfl,rfl⟩:=h
       simp only[DV.okL,Bool.and_eq_true] at hk
       obtain⟨s1,e1,e2⟩:=Zwd hs h1 hk.1
       obtain⟨s2,e3,e4⟩:=ZuK e2 h2 hk.2
       exact⟨s2,by simp only[Zji,e1,e3,DV.encL],e4⟩
     · cases h
   · cases h
theorem Zzf:∀ {res:List Zki} {st:DS} {s:PS} {v:DV},ES st s→Znf st res=some v→v.ok=true→∃ s',Zvl s res=some (v.enc,s'):=by
 have gen:∀ {res:List Zki} {st:DS} {s:PS} {v:DV},ES st s→v.ok=true→(ZnG st res).map (fun x=>DV.tup x.1)=some v→∃ s',(Zji s res).map (fun(vs,st)=>(PV.tup vs,st))=some (v.enc,s'):=fun hs hv h=>by
  simp only[Option.map_eq_some_iff] at h
  obtain⟨⟨vs,st'⟩,h1,rfl⟩:=h
  obtain⟨s',e1,_⟩:=ZuK hs h1 hv
  exact⟨s',by rw[e1];rfl⟩
 intro res st s v hs h hv
 cases res with
 |nil=>exact gen (res:=[]) hs hv h
 | cons r rs=>
   cases rs with
   | nil=>
     simp only[Znf,Option.map_eq_some_iff] at h
     obtain⟨⟨v',st'⟩,h1,rfl⟩:=h
     obtain⟨s',e1,_⟩:=Zwd hs h1 hv
     exact⟨s',e1⟩
   |cons r2 rs=>exact gen (res:=r::r2::rs) hs hv h
theorem Zxw {res:List Zki}:∀ {t:DT} {g:PX} {v:DV},t.val res=(g,some v)→v≠.any→g.den →
 t.ok.den∧∃ e st v0,t.lf=some (e,st)∧(∀ i,e≠.exit i)∧Znf st res=some v0∧v0.ok=true∧v.enc=v0.enc
 | .leaf e st,g,v,h,hv,hg=>by
   have gen:(match Znf st res with|some v=>if (v.ok&&!v.hasPtr)=true then (PX.tt,some v) else (PX.ff,none)|none=>(PX.ff,none))=(g,some v)→Znf st res=some v∧v.ok=true:=fun h=>by
    split at h
    · split at h
      · rename_i h1 h2
        simp only[Prod.mk.injEq,Option.some.injEq] at h
        obtain⟨_,rfl⟩:=h
        simp only[Bool.and_eq_true] at h2
        exact⟨h1,h2.1⟩
      · simp at h
    · simp at h
   cases e with
   |exit i=>simp[DT.val] at h
   |normal=>obtain⟨h1,h2⟩:=gen h;exact⟨trivial,.normal,st,v,rfl,by simp,h1,h2,rfl⟩
   |ret=>obtain⟨h1,h2⟩:=gen h;exact⟨trivial,.ret,st,v,rfl,by simp,h1,h2,rfl⟩
 | .node c a b,g,v,h,hv,hg=>by
   simp only[DT.val] at h
   have hno:∀ {t:DT} {g:PX},t.val res=(g,none)→¬ g.den:=by
    intro t
    induction t with
    | leaf e st=>
      intro g h
      cases e<;>simp only[DT.val] at h<;>(repeat' split at h)<;>simp only[Prod.mk.injEq,reduceCtorEq,and_false,and_true] at h<;>subst h<;>exact id
    | node c x y ih1 ih2=>
      intro g h hg
      simp only[DT.val] at h
      cases h1:x.val res with
      | mk g1 v1=>
        cases h2:y.val res with
        | mk g2 v2=>
          rw[h1,h2] at h
          cases v1 with
          | none=>
            simp only[Prod.mk.injEq] at h
            obtain⟨rfl,rfl⟩:=h
            have:=(PX.if_den _ _ _).mp hg
            cases c with
            |true=>exact ih1 h1 (this.1 rfl)
            |false=>exact ih2 h2 (this.2 rfl)
          |some v1=>cases v2<;>simp at h
    | chk g0 t ih=>
      intro g h hg
      simp only[DT.val] at h
      cases h1:t.val res with
      | mk g1 v1=>
        rw[h1] at h
        simp only[Prod.mk.injEq] at h
        obtain⟨rfl,rfl⟩:=h
        exact ih h1 ((PX.land_den _ _).mp hg).2
    | bad=>
      intro g h
      simp only[DT.val,Prod.mk.injEq,and_true] at h
      subst h;exact id
   cases h1:a.val res with
   | mk g1 v1=>
     cases h2:b.val res with
     | mk g2 v2=>
       rw[h1,h2] at h
       have fin:∀ (v1 v2:DV),g=PX.if' c g1 g2→a.val res=(g1,some v1)→b.val res=(g2,some v2)→v=Zpz c v1 v2→(DT.node c a b).ok.den∧∃ e st v0,(DT.node c a b).lf=some (e,st)∧(∀ i,e≠.exit i)∧Znf st res=some v0∧v0.ok=true∧v.enc=v0.enc:=by
        intro v1 v2 hgg h1 h2 hvv
        subst hgg
        have hg:=(PX.if_den _ _ _).mp hg
        have he:=(Zw0 c v1 v2).resolve_left (by rw[← hvv];exact hv)
        rw[← hvv] at he
        have n1:v1≠.any:=by rintro rfl;apply hv;rw[hvv];cases v2<;>rfl
        have n2:v2≠.any:=by rintro rfl;apply hv;rw[hvv];cases v1<;>rfl
        show (PX.if' c a.ok b.ok).den∧∃ e st v0,(DT.node c a b).lf=some (e,st)∧(∀ i,e≠.exit i)∧Znf st res=some v0∧v0.ok=true∧v.enc=v0.enc
        rw[PX.if_den]
        cases c with
        | true=>
          obtain⟨k1,e,st,v0,k2,k3,k4,k5,k6⟩:=Zxw h1 n1 (hg.1 rfl)
          exact⟨⟨fun _=>k1,fun h=>by cases h⟩,e,st,v0,k2,k3,k4,k5,by rw[he];exact k6⟩
        | false=>
          obtain⟨k1,e,st,v0,k2,k3,k4,k5,k6⟩:=Zxw h2 n2 (hg.2 rfl)
          exact⟨⟨fun h=>(by cases h),fun _=>k1⟩,e,st,v0,k2,k3,k4,k5,by rw[he];exact k6⟩
       cases v1 with
       | none=>
         simp only[Prod.mk.injEq] at h
         obtain⟨rfl,rfl⟩:=h
         have hg:=(PX.if_den _ _ _).mp hg
         show (PX.if' c a.ok b.ok).den∧_
         rw[PX.if_den]
         cases c with
         |true=>exact absurd (hg.1 rfl) (hno h1)
         | false=>
           obtain⟨k1,e,st,v0,k2,k3,k4,k5,k6⟩:=Zxw h2 hv (hg.2 rfl)
           exact⟨⟨fun h=>(by cases h),fun _=>k1⟩,e,st,v0,k2,k3,k4,k5,k6⟩
       | some v1=>
         cases v2 with
         | none=>
           simp only[Prod.mk.injEq,Option.some.injEq] at h
           obtain⟨rfl,rfl⟩:=h
           have hg:=(PX.if_den _ _ _).mp hg
           show (PX.if' c a.ok b.ok).den∧_
           rw[PX.if_den]
           cases c with
           |false=>exact absurd (hg.2 rfl) (hno h2)
           | true=>
             obtain⟨k1,e,st,v0,k2,k3,k4,k5,k6⟩:=Zxw h1 hv (hg.1 rfl)
             exact⟨⟨fun _=>k1,fun h=>by cases h⟩,e,st,v0,k2,k3,k4,k5,k6⟩
         | some v2=>
           simp only[Prod.mk.injEq,Option.some.injEq] at h
           exact fin v1 v2 h.1.symm h1 h2 h.2.symm
 | .chk g0 t,g,v,h,hv,hg=>by
   simp only[DT.val] at h
   cases h1:t.val res with
   | mk g1 v1=>
     rw[h1] at h
     simp only[Prod.mk.injEq] at h
     obtain⟨rfl,rfl⟩:=h
     have hg:=(PX.land_den _ _).mp hg
     obtain⟨k1,k2⟩:=Zxw h1 hv hg.2
     exact⟨(PX.land_den _ _).mpr ⟨hg.1,k1⟩,k2⟩
 |.bad,g,v,h,hv,hg=>by simp[DT.val] at h
theorem EL.append:∀ {a:List DC} {b:List PV} {c:List DC} {d:List PV},EL a b→EL c d→EL (a++c) (b++d)
 |[],[],_,_,_,h=>h
 |_::_,_::_,_,_,h,h'=>⟨h.1,EL.append h.2 h'⟩
theorem ZsZ:∀ (n:Nat),EL (Zp8 n) (ZrC n)
 |0=>trivial
 |n+1=>⟨.inl rfl,ZsZ n⟩
theorem ZsO:∀ (n:Nat),EB (ZqQ n) (Zt3 n)
 |0=>trivial
 |n+1=>⟨.inl rfl,ZsO n⟩
theorem ZxE {f:DFun} (ho:AllD f.body.obs) {args:List DV} {g:PX} {v:DV} (h:ZFV f args=(g,some v)) (hg:g.den) (hv:v≠.any) (hl:args.length=f.nparams) (hp:f.pure=true→v.flt=true)
 {Q:PV→List (List PV)→Prop} (hQ:∀ H,Q v.enc H):ZaQ f.er (DV.encL args) [] Q:=by
 unfold ZFV at h
 obtain⟨hok,e,st,v0,h1,h2,h3,h4,h5⟩:=Zxw h hv hg
 refine⟨by rw[Zez];exact hl,fun _=>rfl,?_⟩
 refine ZqV f.body ho (d:=⟨news args++Zp8 (f.nslots-f.nparams),ZqQ f.nbox,[]⟩) ⟨(EL.news args).append (ZsZ _),ZsO _,trivial⟩ hok h1 fun s' hs'=>?_
 obtain⟨s2,e2⟩:=Zzf hs' h3 h4
 rw[← h5] at e2
 have fin:(match Zvl s' f.res with|some (v,st)=>if f.pure=true then v.flt=true∧Q v [] else Q v st.hp|none=>False):=by
  rw[e2]
  simp only
  split
  · rename_i hpu
    exact⟨ZvH v (hp hpu),hQ _⟩
  · exact hQ _
 cases e with
 |normal=>exact fin
 |ret=>exact fin
 |exit i=>exact absurd rfl (h2 i)
def TuX:List HT→Type
 |[]=>Unit
 |[a]=>a.D
 |a::r=>a.D×TuX r
def ZBJ:(l:List HT)→List DV→Option (TuX l)
 |[],[]=>some ()
 |[a],[v]=>a.of v
 | a::b::r,v::vs=>(match a.of v,ZBJ (b::r) vs with
   |some x,some y=>some (x,y)
   |_,_=>none)
 |_,_=>none
def ZvM:(l:List HT)→TuX l→List DV
 |[],_=>[]
 |[a],x=>[a.dv x]
 |a::b::r,x=>a.dv x.1::ZvM (b::r) x.2
inductive QT where
 |one (h:HT)|tup (l:List HT)
def QT.D:QT→Type
 |.one h=>h.D
 |.tup l=>TuX l
def QT.of:(q:QT)→DV→Option q.D
 |.one h,v=>h.of v
 |.tup l,.tup vs=>ZBJ l vs
 |.tup _,_=>none
def QT.dv:(q:QT)→q.D→DV
 |.one h,x=>h.dv x
 |.tup l,x=>.tup (ZvM l x)
def QT.ofO(q:QT):Option DV→Option q.D
 |some v=>q.of v
 |none=>none
def ZDA:(l:List (Ql×CT))→AgX l
 |[]=>()
 |[a]=>a.2.dflt
 |a::b::r=>(a.2.dflt,ZDA (b::r))
def HT.dflt:(h:HT)→h.D
 |.one _ t=>t.dflt
 |.agg l=>ZDA l
def ZD0:(l:List HT)→TuX l
 |[]=>()
 |[a]=>a.dflt
 |a::b::r=>(a.dflt,ZD0 (b::r))
def QT.dflt:(q:QT)→q.D
 |.one h=>h.dflt
 |.tup l=>ZD0 l
def HT.flt:HT→Bool
 |.one _ t=>t.flat
 |.agg l=>l.all fun a=>a.2.flat
def QT.flt:QT→Bool
 |.one h=>h.flt
 |.tup l=>l.all HT.flt
theorem ZFF:∀ {l:List HT} {vs:List DV} {x:TuX l},ZBJ l vs=some x→DV.encL (ZvM l x)=DV.encL vs
 |[],[],_,_=>rfl
 | [a],[v],x,h=>by
   show [(a.dv x).enc]=[v.enc]
   rw[(ZyT (t:=a) h).1]
 | a :: b::r,v::vs,x,h=>by
   have h':(match a.of v,ZBJ (b::r) vs with|some x,some y=>some (x,y)|_,_=>none)=some x:=h
   clear h
   cases h1:a.of v with
   |none=>rw[h1] at h';cases h'
   | some p=>
     cases h2:ZBJ (b::r) vs with
     |none=>rw[h1,h2] at h';cases h'
     | some q=>
       rw[h1,h2] at h'
       have h':=Option.some.inj h'
       subst h'
       show (a.dv p).enc::DV.encL (ZvM (b::r) q)=v.enc::DV.encL vs
       rw[(ZyT h1).1,ZFF h2]
theorem ZF3{q:QT}{v:DV}{x:q.D}(h:q.of v=some x):(q.dv x).enc=v.enc∧v≠.any:=by
 cases q with
 |one t=>exact ZyT (t:=t) h
 | tup l=>
   cases v<;>try (cases h;done)
   rename_i cs
   refine⟨?_,by simp⟩
   show PV.tup _=PV.tup _
   rw[ZFF (l:=l) h]
theorem Zpd:∀ (l:List HT) (x:TuX l),(ZvM l x).length=l.length
 |[],_=>rfl
 |[_],_=>rfl
 | a::b::r,x=>by
   show (ZvM (b::r) x.2).length+1=(b::r).length+1
   rw[Zpd (b::r) x.2]
theorem ZzO{q:Ql}{t:CT}{v:DV}{x:t.D}(hf:t.flat=true)(h:t.ofQ q v=some x):v.flt=true:=by
 cases t<;>first|(cases hf;done)|skip
 all_goals (cases v<;>first|rfl|(cases h;done))
theorem ZDX:∀ {l:List (Ql×CT)} {vs:List DV} {x:AgX l},l.all (fun a=>a.2.flat)=true→ZD2 l vs=some x→DV.fltL vs=true
 |[],[],_,_,_=>rfl
 | [a],[v],x,hf,h=>by
   simp only[List.all_cons,List.all_nil,Bool.and_true] at hf
   simp only[DV.fltL,ZzO (q:=a.1) hf h,Bool.and_self]
 | a :: b::r,v::vs,x,hf,h=>by
   have h':(match a.2.ofQ a.1 v,ZD2 (b::r) vs with|some x,some y=>some (x,y)|_,_=>none)=some x:=h
   clear h
   rw[List.all_cons,Bool.and_eq_true] at hf
   cases h1:a.2.ofQ a.1 v with
   |none=>rw[h1] at h';cases h'
   | some p=>
     cases h2:ZD2 (b::r) vs with
     |none=>rw[h1,h2] at h';cases h'
     |some q=>simp only[DV.fltL,ZzO hf.1 h1,ZDX hf.2 h2,Bool.and_self]
theorem Zy7{t:HT}{v:DV}{x:t.D}(hf:t.flt=true)(h:t.of v=some x):v.flt=true:=by
 cases t with
 |one q t=>exact ZzO (q:=q) (t:=t) hf h
 | agg l=>
   cases v<;>try (cases h;done)
   exact ZDX (l:=l) hf h
theorem ZDU:∀ {l:List HT} {vs:List DV} {x:TuX l},l.all HT.flt=true→ZBJ l vs=some x→DV.fltL vs=true
 |[],[],_,_,_=>rfl
 | [a],[v],x,hf,h=>by
   simp only[List.all_cons,List.all_nil,Bool.and_true] at hf
   simp only[DV.fltL,Zy7 (t:=a) hf h,Bool.and_self]
 | a :: b::r,v::vs,x,hf,h=>by
   have h':(match a.of v,ZBJ (b::r) vs with|some x,some y=>some (x,y)|_,_=>none)=some x:=h
   clear h
   rw[List.all_cons,Bool.and_eq_true] at hf
   cases h1:a.of v with
   |none=>rw[h1] at h';cases h'
   | some p=>
     cases h2:ZBJ (b::r) vs with
     |none=>rw[h1,h2] at h';cases h'
     |some q=>simp only[DV.fltL,Zy7 hf.1 h1,ZDU hf.2 h2,Bool.and_self]
theorem ZDC{q:QT}{v:DV}{x:q.D}(hf:q.flt=true)(h:q.of v=some x):v.flt=true:=by
 cases q with
 |one t=>exact Zy7 (t:=t) hf h
 | tup l=>
   cases v<;>try (cases h;done)
   exact ZDU (l:=l) hf h
def ZbC(hs:List HT)(q:QT)(ok:TuX hs→Prop)(v:TuX hs→q.D):ZhA:=fun args=>match ZBJ hs args with
 |some x=>some (.p (ok x),q.dv (v x))
 |none=>none
def DT.valQ(q:QT)(res:List Zki):DT→PX×Option q.D
 |.leaf (.exit _) _=>(.ff,none)
 | .leaf _ st=>(match Znf st res with
   | some v=>if v.ok&&!v.hasPtr then (match q.of v with
     |some y=>(.tt,some y)
     |none=>(.ff,none)) else (.ff,none)
   |none=>(.ff,none))
 | .node c a b=>(match a.valQ q res,b.valQ q res with
   |(g,none),(g',y)=>(PX.if' c g g',y)
   |(g,x),(g',none)=>(PX.if' c g g',x)
   |(g,some x),(g',some y)=>(PX.if' c g g',some (bSel c x y)))
 | .chk g t=>(match t.valQ q res with
   |(g',v)=>(g.land g',v))
 |.bad=>(.ff,none)
theorem Zk5{q:QT}{res:List Zki}:∀ {t:DT} {g:PX},t.valQ q res=(g,none)→¬ g.den
 | .leaf e st,g,h=>by
   cases e<;>simp only[DT.valQ] at h<;>(repeat' split at h)<;>simp only[Prod.mk.injEq,reduceCtorEq,and_false,and_true] at h<;>subst h<;>exact id
 | .node c x y,g,h=>by
   intro hg
   simp only[DT.valQ] at h
   cases h1:x.valQ q res with
   | mk g1 v1=>
     cases h2:y.valQ q res with
     | mk g2 v2=>
       rw[h1,h2] at h
       cases v1 with
       | none=>
         simp only[Prod.mk.injEq] at h
         obtain⟨rfl,rfl⟩:=h
         have:=(PX.if_den _ _ _).mp hg
         cases c with
         |true=>exact Zk5 h1 (this.1 rfl)
         |false=>exact Zk5 h2 (this.2 rfl)
       |some v1=>cases v2<;>simp at h
 | .chk g0 t,g,h=>by
   intro hg
   simp only[DT.valQ] at h
   cases h1:t.valQ q res with
   | mk g1 v1=>
     rw[h1] at h
     simp only[Prod.mk.injEq] at h
     obtain⟨rfl,rfl⟩:=h
     exact Zk5 h1 ((PX.land_den _ _).mp hg).2
 | .bad,g,h=>by
   simp only[DT.valQ,Prod.mk.injEq,and_true] at h
   subst h;exact id
theorem ZwV{q:QT}{res:List Zki}:∀ {t:DT} {g:PX} {y:q.D},t.valQ q res=(g,some y)→g.den →
 t.ok.den∧∃ e st v0,t.lf=some (e,st)∧(∀ i,e≠.exit i)∧Znf st res=some v0∧v0.ok=true∧q.of v0=some y
 | .leaf e st,g,y,h,hg=>by
   have gen:(match Znf st res with|some v=>if (v.ok&&!v.hasPtr)=true then (match q.of v with|some y=>(PX.tt,some y)|none=>(PX.ff,none)) else (PX.ff,none)|none=>(PX.ff,none))=(g,some y)→∃ v,Znf st res=some v∧v.ok=true∧q.of v=some y:=fun h=>by
    split at h
    · rename_i v hv
      split at h
      · rename_i hc
        simp only[Bool.and_eq_true] at hc
        split at h
        · rename_i y' hy
          simp only[Prod.mk.injEq,Option.some.injEq] at h
          obtain⟨_,rfl⟩:=h
          exact⟨v,hv,hc.1,hy⟩
        · simp at h
      · simp at h
    · simp at h
   cases e with
   |exit i=>simp[DT.valQ] at h
   |normal=>obtain⟨v,h1,h2,h3⟩:=gen h;exact⟨trivial,.normal,st,v,rfl,by simp,h1,h2,h3⟩
   |ret=>obtain⟨v,h1,h2,h3⟩:=gen h;exact⟨trivial,.ret,st,v,rfl,by simp,h1,h2,h3⟩
 | .node c a b,g,y,h,hg=>by
   simp only[DT.valQ] at h
   show (PX.if' c a.ok b.ok).den∧∃ e st v0,(DT.node c a b).lf=some (e,st)∧(∀ i,e≠.exit i)∧Znf st res=some v0∧v0.ok=true∧q.of v0=some y
   rw[PX.if_den]
   cases h1:a.valQ q res with
   | mk g1 v1=>
     cases h2:b.valQ q res with
     | mk g2 v2=>
       rw[h1,h2] at h
       have hgg:g=PX.if' c g1 g2:=by
        cases v1<;>cases v2<;>simp only[Prod.mk.injEq] at h<;>exact h.1.symm
       subst hgg
       have hg:=(PX.if_den _ _ _).mp hg
       cases c with
       | true=>
         have:v1=some y:=by
          cases v1 with
          |none=>exact absurd (hg.1 rfl) (Zk5 h1)
          |some v1=>cases v2<;>simp only[Prod.mk.injEq,Zjx] at h<;>exact h.2
         subst this
         obtain⟨k1,k2⟩:=ZwV h1 (hg.1 rfl)
         exact⟨⟨fun _=>k1,fun h=>by cases h⟩,k2⟩
       | false=>
         have:v2=some y:=by
          cases v2 with
          |none=>exact absurd (hg.2 rfl) (Zk5 h2)
          |some v2=>cases v1<;>simp only[Prod.mk.injEq,Zj9] at h<;>exact h.2
         subst this
         obtain⟨k1,k2⟩:=ZwV h2 (hg.2 rfl)
         exact⟨⟨fun h=>(by cases h),fun _=>k1⟩,k2⟩
 | .chk g0 t,g,y,h,hg=>by
   simp only[DT.valQ] at h
   cases h1:t.valQ q res with
   | mk g1 v1=>
     rw[h1] at h
     simp only[Prod.mk.injEq] at h
     obtain⟨rfl,rfl⟩:=h
     have hg:=(PX.land_den _ _).mp hg
     obtain⟨k1,k2⟩:=ZwV h1 hg.2
     exact⟨(PX.land_den _ _).mpr ⟨hg.1,k1⟩,k2⟩
 |.bad,g,y,h,hg=>by simp[DT.valQ] at h
def QT.isB:QT→Bool
 |.one (.one _ .bool)=>true
 |_=>false
def fnR(f:DFun)(hs:List HT)(q:QT)(x:TuX hs):PX×Option q.D:=
 if q.isB then ((ZFV f (ZvM hs x)).1,q.ofO (ZFV f (ZvM hs x)).2)
 else (dev f.body ⟨news (ZvM hs x)++Zp8 (f.nslots-f.nparams),ZqQ f.nbox,[]⟩).valQ q f.res
def fnV(f:DFun)(hs:List HT)(q:QT)(x:TuX hs):q.D:=(fnR f hs q x).2.getD q.dflt
def ZhR(f:DFun)(hs:List HT)(q:QT)(x:TuX hs):Prop:=(fnR f hs q x).1.den
def Zzj(f:DFun)(hs:List HT)(q:QT)(x:TuX hs):Bool:=(fnR f hs q x).2.isSome
def ZGx(f:DFun)(hs:List HT)(q:QT):Bool:=hs.length == f.nparams&&(!f.pure||q.flt)
theorem Zxf {f:DFun} {hs:List HT} {q:QT} (ho:AllD f.body.obs) (hst:ZGx f hs q=true) (x:TuX hs) (hc:Zzj f hs q x=true) (hok:ZhR f hs q x)
 {Q:PV→List (List PV)→Prop} (hQ:∀ H,Q (q.dv (fnV f hs q x)).enc H):ZaQ f.er (DV.encL (ZvM hs x)) [] Q:=by
 simp only[ZGx,Bool.and_eq_true,beq_iff_eq,Bool.or_eq_true,Bool.not_eq_true'] at hst
 unfold Zzj at hc
 unfold fnV at hQ
 unfold ZhR at hok
 unfold fnR at hc hQ hok
 by_cases hb:q.isB=true
 · rw[if_pos hb] at hc hQ hok
   cases hd:ZFV f (ZvM hs x) with
   | mk g o=>
     rw[hd] at hc hQ hok
     cases o with
     |none=>cases hc
     | some w=>
       obtain⟨y,hy⟩:=Option.isSome_iff_exists.mp hc
       rw[hy] at hQ
       have hy:q.of w=some y:=hy
       obtain⟨h1,h2⟩:=ZF3 hy
       refine ZxE ho hd hok h2 (by rw[Zpd];exact hst.1) (fun hp=>ZDC (by simpa [hp] using hst.2) hy) fun H=>?_
       have:=hQ H
       rw[Option.getD_some,h1] at this
       exact this
 · rw[if_neg hb] at hc hQ hok
   cases hd:(dev f.body ⟨news (ZvM hs x)++Zp8 (f.nslots-f.nparams),ZqQ f.nbox,[]⟩).valQ q f.res with
   | mk g o=>
     rw[hd] at hc hQ hok
     cases o with
     |none=>cases hc
     | some y=>
       simp only[Option.getD_some] at hQ
       obtain⟨k1,e,st,v0,k2,k3,k4,k5,k6⟩:=ZwV hd hok
       obtain⟨h1,h2⟩:=ZF3 k6
       refine⟨by rw[Zez,Zpd];exact hst.1,fun _=>rfl,?_⟩
       refine ZqV f.body ho (d:=⟨news (ZvM hs x)++Zp8 (f.nslots-f.nparams),ZqQ f.nbox,[]⟩) ⟨(EL.news _).append (ZsZ _),ZsO _,trivial⟩ k1 k2 fun s' hs'=>?_
       obtain⟨s2,e2⟩:=Zzf hs' k4 k5
       rw[← h1] at e2
       have fin:(match Zvl s' f.res with|some (v,st)=>if f.pure=true then v.flt=true∧Q v [] else Q v st.hp|none=>False):=by
        rw[e2]
        simp only
        split
        · rename_i hpu
          exact⟨by rw[h1];exact ZvH _ (ZDC (by simpa [hpu] using hst.2) k6),hQ _⟩
        · exact hQ _
       cases e with
       |normal=>exact fin
       |ret=>exact fin
       |exit i=>exact absurd rfl (k3 i)
theorem Zaz{f:DFun}{hs:List HT}{q:QT}(ho:AllD f.body.obs)(hst:ZGx f hs q=true)(hc:∀ x,Zzj f hs q x=true){ok:TuX hs→Prop}{v:TuX hs→q.D}(hok:∀ x,ok x→ZhR f hs q x)(hv:∀ x,fnV f hs q x=v x) :
 Zbp (ZaQ f.er) (ZbC hs q ok v):=by
 intro args g w Q h hg hQ
 unfold ZbC at h
 cases hx:ZBJ hs args with
 |none=>rw[hx] at h;cases h
 | some x=>
   rw[hx] at h
   simp only[Option.some.injEq,Prod.mk.injEq] at h
   obtain⟨rfl,rfl⟩:=h
   rw[← ZFF hx]
   exact Zxf ho hst x (hc x) (hok x hg) fun H=>by rw[hv];exact hQ H
attribute [irreducible] fnR fnV ZhR Zzj ZGx
def olds:List DV→List DC
 |[]=>[]
 |v::r=>⟨false,v⟩::olds r
open Go.RowKit Go.WideShapes Go.ChangeShapes
inductive Ty where
 |int (k:IntKind)
 |bool
 |str
 |sl (t:Ty)
 |unit
 |pair (a b:Ty)
def Ty.w:Ty→Nat
 |.int _|.bool|.str|.sl _=>1
 |.unit=>0
 |.pair a b=>a.w+b.w
def ZGA(P:Program)(f:TypeId→Option Ty):List Field→Nat→Option Ty
 |[],_=>some .unit
 | g::r,off=>
   match f g.type with
   |some a=>if g.offset=off∧a.w=P.cellsOf g.type then (match ZGA P f r (off+a.w) with|some b=>some (.pair a b)|none=>none) else none
   |none=>none
def ZBN(P:Program):Nat→TypeId→Option Ty
 |0,_=>none
 | d+1,t=>
   match P.underlying t with
   |some (.int k)=>some (.int k)
   |some .bool=>some .bool
   |some .string=>some .str
   |some (.slice e)=>(match ZBN P d e with|some te=>if te.w=P.cellsOf e∧0<te.w then some (.sl te) else none|none=>none)
   |some (.struct fs)=>(match ZGA P (ZBN P d) fs.toList 0 with|some ty=>if ty.w=P.cellsOf t then some ty else none|none=>none)
   |_=>none
def Sh(σ:Zax):Ty→List V→Prop
 |.int k,cs=>∃ n,cs=[.int k n]∧(Lit.int k n).wf=true
 |.bool,cs=>∃ b,cs=[.bool b]
 |.str,cs=>∃ s,cs=[.str s]∧s.length≤maxLen
 |.sl t,cs=>cs=[.nils]∨∃ (l n:Nat) (bs:List V),cs=[.slice l 0 n]∧σ[l]?=some ⟨.ro,t.w,bs⟩∧bs.length=n*t.w∧n≤maxLen∧∀ i,i<n→Sh σ t ((bs.drop (i*t.w)).take t.w)
 |.unit,cs=>cs=[]
 |.pair a b,cs=>∃ xs ys,cs=xs++ys∧Sh σ a xs∧Sh σ b ys
theorem Sh.len{σ:Zax}:∀ {ty:Ty} {cs:List V},Sh σ ty cs→cs.length=ty.w
 |.int _,_,⟨_,h,_⟩=>by rw[h];rfl
 |.bool,_,⟨_,h⟩=>by rw[h];rfl
 |.str,_,⟨_,h,_⟩=>by rw[h];rfl
 |.sl _,_,h=>by rcases h with h|⟨_,_,_,h,_⟩<;>rw[h]<;>rfl
 |.unit,_,h=>by rw[h];rfl
 |.pair a b,_,⟨xs,ys,h,h1,h2⟩=>by rw[h,List.length_append,h1.len,h2.len];rfl
theorem Sh.mono{σ e:Zax}:∀ {ty:Ty} {cs:List V},Sh σ ty cs→Sh (σ++e) ty cs
 |.int _,_,h=>h
 |.bool,_,h=>h
 |.str,_,h=>h
 | .sl _,_,h=>by
   rcases h with h|⟨l,n,bs,h,h1,h2,h3,h4⟩
   · exact .inl h
   · exact .inr ⟨l,n,bs,h,by rw[List.getElem?_append_left (Zbc h1)];exact h1,h2,h3,fun i hi=>(h4 i hi).mono⟩
 |.unit,_,h=>h
 |.pair _ _,_,⟨xs,ys,h,h1,h2⟩=>⟨xs,ys,h,h1.mono,h2.mono⟩
def Zkq(σ:Zax):Prop:=∀ (l:Nat) (b:Blk),σ[l]?=some b→b.k= .ro
def ZAg(ι:Inj)(σ:Zax)(W:World)(ty:Ty)(cs:List Value):Prop:=
 ∃ ι' e vs,HRel ι' (σ++e) W∧Keeps ι σ ι' (σ++e)∧Zkq (σ++e)∧Sh (σ++e) ty vs∧vs.length=cs.length∧∀ (i:Nat) v x,vs[i]?=some v→cs[i]?=some x→v.cell=true∧∀ β,Rel ι' (σ++e) β v x
theorem HRel.lay{ι:Inj}{σ:Zax}{W:World}(h:HRel ι σ W)(hro:Zkq σ){b off c:Nat}{wd:Nat}{bs:List V}(hb:b<W.heap.size)(hc:∀ (i:Nat) v,bs[i]?=some v→v.cell=true∧∃ x,W.cell? ⟨b,off+i,none⟩=some x∧∀ β,Rel ι σ β v x) :
 HRel (upd ι σ.length ⟨b,off,c⟩) (σ++[⟨.ro,wd,bs⟩]) W∧Zkq (σ++[⟨.ro,wd,bs⟩]):=by
 have K:=Zjz ι σ ⟨b,off,c⟩ ⟨.ro,wd,bs⟩
 have hall:Zkq (σ++[⟨.ro,wd,bs⟩]):=by
  intro l blk hl
  rcases Zev hl with⟨_,hl⟩|⟨_,rfl⟩
  · exact hro l blk hl
  · rfl
 refine⟨⟨fun l blk hl hk i v hv=>?_,fun l blk hl hk=>?_,fun l l' blk blk' hne hl hl' hk hk'=>?_,fun l blk hl hk=>?_⟩,hall⟩
 · rcases Zev hl with⟨hlt,hl⟩|⟨rfl,rfl⟩
   · rw[Zbs _ _ _ _ (by omega)]
     obtain⟨a,x,b',c⟩:=h.cells l blk hl hk i v hv
     exact⟨a,x,b',fun β=>(c β).cellMono K a⟩
   · rw[Za3]
     obtain⟨a,x,b',c⟩:=hc i v hv
     exact⟨a,x,b',fun β=>(c β).cellMono K a⟩
 · have:=hall l blk hl;rw[hk] at this;cases this
 · have:=hall l blk hl;rw[hk] at this;cases this
 · rcases Zev hl with⟨hlt,hl⟩|⟨rfl,rfl⟩
   · rw[Zbs _ _ _ _ (by omega)];exact h.there l blk hl hk
   · rw[Za3];exact hb
theorem Ztd{w:World}{a:Addr}{v:Value}(h:w.cell? a=some v):a.block<w.heap.size:=by
 unfold World.cell? at h
 rcases Nat.lt_or_ge a.block w.heap.size with h1|h1
 · exact h1
 · rw[Array.getElem?_eq_none h1] at h;cases h
theorem ZwL{α:Type}{l:List α}{i:Nat}{v:α}(h:l[i]?=some v):i<l.length:=by
 rcases Nat.lt_or_ge i l.length with h1|h1
 · exact h1
 · rw[List.getElem?_eq_none h1] at h;cases h
section
variable {H:Type} {enc:TypeId×Value→H} {P:Program} {W:World}
theorem ZnS(d:Nat)(ih:∀ (t:TypeId)(ty:Ty),ZBN P d t=some ty→∀ (fuel:Nat)(cs:List Value) x,DataW.trod enc P W 0 (fun _=>true) true fuel t cs=some x→∀ (ι:Inj)(σ:Zax),HRel ι σ W→Zkq σ→ZAg ι σ W ty cs) :
 ∀ (fs:List Field) (off:Nat) (ty:Ty),ZGA P (ZBN P d) fs off=some ty→∀ (fuel:Nat) (cs:List Value),(∀ g∈fs,∃ x,DataW.trod enc P W 0 (fun _=>true) true fuel g.type ((cs.drop g.offset).take (P.cellsOf g.type))=some x) →
   off+ty.w=cs.length→∀ (ι:Inj) (σ:Zax),HRel ι σ W→Zkq σ→ZAg ι σ W ty (cs.drop off)
 | [],off,ty,h,fuel,cs,_,hl,ι,σ,H,hro=>by
   simp only[ZGA,Option.some.injEq] at h
   subst h
   simp only[Ty.w,Nat.add_zero] at hl
   have:cs.drop off=[]:=by rw[hl];simp
   rw[this]
   exact⟨ι,[],[],by simpa using H,by simpa using Keeps.refl ι σ,by simpa using hro,rfl,rfl,by simp⟩
 | g :: r, off,ty,h,fuel,cs,hg,hl,ι,σ,H,hro=>by
   simp only[ZGA] at h
   split at h
   · rename_i a ha
     split at h
     · rename_i hc
       obtain⟨h1,h2⟩:=hc
       split at h
       · rename_i b hb
         cases h
         simp only[Ty.w] at hl
         obtain⟨x,hx⟩:=hg g (by simp)
         rw[h1] at hx
         obtain⟨ι1,e1,vs1,H1,K1,R1,S1,L1,C1⟩:=ih g.type a ha fuel _ x hx ι σ H hro
         obtain⟨ι2,e2,vs2,H2,K2,R2,S2,L2,C2⟩:=ZnS d ih r (off+a.w) b hb fuel cs (fun g' hg'=>hg g' (by simp[hg'])) (by omega) ι1 (σ++e1) H1 R1
         refine⟨ι2,e1++e2,vs1++vs2,by rw[← List.append_assoc];exact H2,by rw[← List.append_assoc];exact K1.trans K2,by rw[← List.append_assoc];exact R2,⟨vs1,vs2,rfl,by rw[← List.append_assoc];exact S1.mono,by rw[← List.append_assoc];exact S2⟩,?_,fun i v y hv hy=>?_⟩
         · rw[List.length_append,L1,L2]
           simp;omega
         · have hl1:vs1.length=a.w:=S1.len
           by_cases hi:i<vs1.length
           · rw[List.getElem?_append_left hi] at hv
             have hy':((cs.drop off).take (P.cellsOf g.type))[i]?=some y:=by
              rw[List.getElem?_take,if_pos (by omega)];exact hy
             obtain⟨q1,q2⟩:=C1 i v y hv hy'
             exact⟨q1,fun β=>by rw[← List.append_assoc];exact(q2 β).cellMono K2 q1⟩
           · rw[List.getElem?_append_right (by omega)] at hv
             have hy':(cs.drop (off+a.w))[i-vs1.length]?=some y:=by
              rw[List.getElem?_drop] at hy ⊢
              have:off+a.w+(i-vs1.length)=off+i:=by omega
              rw[this];exact hy
             obtain⟨q1,q2⟩:=C2 _ v y hv hy'
             exact⟨q1,fun β=>by rw[← List.append_assoc];exact q2 β⟩
       · cases h
     · cases h
   · cases h
theorem Zz3{b o:Nat}(n:Nat):Addr.add ⟨b,o,none⟩ n=⟨b,o+n,none⟩:=by
 unfold Addr.add
 split
 · rename_i h;subst h;rfl
 · rfl
theorem ZqN {d:Nat} (ih:∀ (t:TypeId) (ty:Ty),ZBN P d t=some ty→∀ (fuel:Nat) (cs:List Value) x,DataW.trod enc P W 0 (fun _=>true) true fuel t cs=some x→∀ (ι:Inj) (σ:Zax),HRel ι σ W→Zkq σ→ZAg ι σ W ty cs)
 {e:TypeId} {te:Ty} (hte:ZBN P d e=some te) (hw:te.w=P.cellsOf e) {fuel b o:Nat} :
 ∀ (n:Nat),(∀ i,i<n→∃ cs x,W.cells? 0 ⟨b,o+i*te.w,none⟩ te.w=some cs∧DataW.trod enc P W 0 (fun _=>true) true fuel e cs=some x)→∀ (ι:Inj) (σ:Zax),HRel ι σ W→Zkq σ →
   ∃ (ι':Inj) (ext:Zax) (bs:List V),HRel ι' (σ++ext) W∧Keeps ι σ ι' (σ++ext)∧Zkq (σ++ext)∧bs.length=n*te.w∧(∀ i,i<n→Sh (σ++ext) te ((bs.drop (i*te.w)).take te.w)) ∧
     ∀ (j:Nat) v,bs[j]?=some v→v.cell=true∧∃ x,W.cell? ⟨b,o+j,none⟩=some x∧∀ β,Rel ι' (σ++ext) β v x
 |0,_,ι,σ,H0,hro=>⟨ι,[],[],by simpa using H0,by simpa using Keeps.refl ι σ,by simpa using hro,by simp,fun i hi=>absurd hi (Nat.not_lt_zero i),by simp⟩
 | n + 1,hn,ι,σ,H0,hro=>by
   obtain⟨ι1,e1,bs,H1,K1,R1,L1,S1,C1⟩:=ZqN ih hte hw n (fun i hi=>hn i (Nat.lt_succ_of_lt hi)) ι σ H0 hro
   obtain⟨cs,x,hc,hx⟩:=hn n (Nat.lt_succ_self n)
   obtain⟨ι2,e2,vs,H2,K2,R2,S2,L2,C2⟩:=ih e te hte fuel cs x hx ι1 (σ++e1) H1 R1
   obtain⟨_,hcl,hcg⟩:=World.cells?_some hc
   refine⟨ι2,e1++e2,bs++vs,by rw[← List.append_assoc];exact H2,by rw[← List.append_assoc];exact K1.trans K2,by rw[← List.append_assoc];exact R2,?_,fun i hi=>?_,fun j v hv=>?_⟩
   · rw[List.length_append,L1,L2,hcl,Nat.succ_mul]
   · rw[← List.append_assoc]
     by_cases h:i<n
     · have h1:(i+1)*te.w≤n*te.w:=Nat.mul_le_mul_right _ h
       rw[Nat.succ_mul] at h1
       have:((bs++vs).drop (i*te.w)).take te.w=(bs.drop (i*te.w)).take te.w:=by
        rw[List.drop_append_of_le_length (by omega),List.take_append_of_le_length (by rw[List.length_drop];omega)]
       rw[this]
       exact(S1 i h).mono
     · have:i=n:=by omega
       subst this
       have:((bs++vs).drop (i*te.w)).take te.w=vs:=by
        rw[← L1,List.drop_left,List.take_of_length_le (by omega)]
       rw[this]
       exact S2
   · by_cases h:j<bs.length
     · rw[List.getElem?_append_left h] at hv
       obtain⟨q1,y,q2,q3⟩:=C1 j v hv
       exact⟨q1,y,q2,fun β=>by rw[← List.append_assoc];exact(q3 β).cellMono K2 q1⟩
     · rw[List.getElem?_append_right (by omega)] at hv
       have hlt:=ZwL hv
       have hlt':j-bs.length<te.w:=by rw[← hcl,← L2];exact hlt
       have hg:=hcg (j-bs.length) hlt'
       rw[Zz3] at hg
       have e0:o+n*te.w+(j-bs.length)=o+j:=by omega
       rw[e0] at hg
       obtain⟨y,hy⟩:∃ y,cs[j-bs.length]?=some y:=⟨_,List.getElem?_eq_getElem (by omega)⟩
       obtain⟨q1,q2⟩:=C2 _ v y hv hy
       exact⟨q1,y,hg.trans hy,fun β=>by rw[← List.append_assoc];exact q2 β⟩
theorem ZjW:∀ (d:Nat) (t:TypeId) (ty:Ty),ZBN P d t=some ty→∀ (fuel:Nat) (cs:List Value) x,DataW.trod enc P W 0 (fun _=>true) true fuel t cs=some x→∀ (ι:Inj) (σ:Zax),HRel ι σ W→Zkq σ→ZAg ι σ W ty cs
 |0,_,_,h=>by simp[ZBN] at h
 | d + 1, t, ty,h=>by
   intro fuel cs x hx ι σ H0 hro
   have one:∀ (v:V) (y:Value),cs=[y]→v.cell=true→(∀ β,Rel ι σ β v y)→Sh σ ty [v]→ZAg ι σ W ty cs:=by
    intro v y hc hv hr hs
    refine⟨ι,[],[v],by simpa using H0,by simpa using Keeps.refl ι σ,by simpa using hro,by simpa using hs,by rw[hc];rfl,fun i u z hu hz=>?_⟩
    rw[hc] at hz
    cases i with
    |zero=>simp at hu hz;subst hu;subst hz;exact⟨hv,by simpa using hr⟩
    |succ i=>simp at hu
   unfold ZBN at h
   split at h
   · rename_i k hu
     cases h
     obtain⟨n,hc,_,hwf⟩:=DataW.trod_int hu hx
     exact one (.int k n) _ hc rfl (fun β=>.int k n) ⟨n,rfl,hwf⟩
   · rename_i hu
     cases h
     obtain⟨b,hc,_⟩:=DataW.trod_bool hu hx
     exact one (.bool b) _ hc rfl (fun β=>.bool b) ⟨b,rfl⟩
   · rename_i hu
     cases h
     obtain⟨s,hc,_,hwf⟩:=DataW.trod_string hu hx
     exact one (.str s.data.toList) _ hc rfl (fun β=>by have:=Rel.str (ι:=ι) (σ:=σ) (β:=β) s.data.toList;simpa using this) ⟨s.data.toList,rfl,by simpa using hwf⟩
   · rename_i e hu
     split at h
     · rename_i te hte
       split at h
       · rename_i hw
         obtain⟨hw,hpos⟩:=hw
         cases h
         rcases DataW.trod_slice hu hx with⟨hc,_⟩|⟨a,len,cap,elems,rest,n,_,hc,_,_,hle,hcap,hel,hE,hR,_⟩
         · exact one .nils _ hc rfl (fun β=>.nils none) (.inl rfl)
         · obtain⟨hrl,hR⟩:=hR rfl
           have hcell:∀ i,i<cap→∃ cs' y,W.cells? 0 (a.add (i*P.cellsOf e)) (P.cellsOf e)=some cs'∧DataW.trod enc P W 0 (fun _=>true) true n e cs'=some y:=by
            intro i hi
            by_cases h:i<len
            · have h1:=hE i h
              obtain⟨y,hy⟩:∃ y,elems[i]?=some y:=⟨_,List.getElem?_eq_getElem (by omega)⟩
              rw[hy,Option.bind_eq_some_iff] at h1
              obtain⟨cs',h1,h2⟩:=h1
              exact⟨cs',y,h1,h2⟩
            · have h1:=hR (i-len) (by omega)
              obtain⟨y,hy⟩:∃ y,rest[i-len]?=some y:=⟨_,List.getElem?_eq_getElem (by omega)⟩
              rw[hy,Option.bind_eq_some_iff] at h1
              obtain⟨cs',h1,h2⟩:=h1
              rw[show len+(i-len)=i by omega] at h1
              exact⟨cs',y,h1,h2⟩
           by_cases hc0:cap=0
           · subst hc0
             have:len=0:=by omega
             subst this
             exact one .nils _ hc rfl (fun β=>.nils (some a)) (.inl rfl)
           · have hsp:a.spot=none∧a.block<W.heap.size:=by
              obtain⟨cs',y,h1,_⟩:=hcell 0 (by omega)
              obtain⟨_,h2,h3⟩:=World.cells?_some h1
              have h4:=h3 0 (by omega)
              obtain⟨z,hz⟩:∃ z,cs'[0]?=some z:=⟨_,List.getElem?_eq_getElem (by omega)⟩
              rw[hz] at h4
              have h5:W.cell? a=some z:=by simpa [Addr.add] using h4
              exact⟨World.cell?_spot h5,Ztd h5⟩
             obtain⟨ab,ao,asp⟩:=a
             obtain⟨hsp,hlt⟩:=hsp
             simp only at hsp hlt
             subst hsp
             have hcell':∀ i,i<len→∃ cs' y,W.cells? 0 ⟨ab,ao+i*te.w,none⟩ te.w=some cs'∧DataW.trod enc P W 0 (fun _=>true) true n e cs'=some y:=by
              intro i hi
              have:=hcell i (by omega)
              rw[Zz3,← hw] at this
              exact this
             obtain⟨ι1,e1,bs,H1,K1,R1,L1,S1,C1⟩:=ZqN (ZjW d) hte hw len hcell' ι σ H0 hro
             obtain⟨H2,R2⟩:=H1.lay R1 (c:=cap*te.w) (wd:=te.w) hlt C1
             have K2:=Zjz ι1 (σ++e1) ⟨ab,ao,cap*te.w⟩ ⟨.ro,te.w,bs⟩
             have hg:((σ++e1)++[(⟨.ro,te.w,bs⟩:Blk)])[(σ++e1).length]?=some ⟨.ro,te.w,bs⟩:=by simp
             refine⟨_,e1++[⟨.ro,te.w,bs⟩],[.slice (σ++e1).length 0 len],by rw[← List.append_assoc];exact H2,by rw[← List.append_assoc];exact K1.trans K2,by rw[← List.append_assoc];exact R2,.inr ⟨_,len,bs,rfl,by rw[← List.append_assoc];exact hg,L1,by omega,fun i hi=>by rw[← List.append_assoc];exact(S1 i hi).mono⟩,by rw[hc];rfl,fun i u z hu hz=>?_⟩
             rw[hc] at hz
             cases i with
             | zero=>
               simp at hu hz;subst hu;subst hz
               refine⟨rfl,fun β=>?_⟩
               have:=Rel.slice (ι:=upd ι1 (σ++e1).length ⟨ab,ao,cap*te.w⟩) (σ:=(σ++e1)++[⟨.ro,te.w,bs⟩]) (β:=β) (σ++e1).length 0 len cap ⟨.ro,te.w,bs⟩ hg hle (by rw[Za3];simp) (by first|assumption|(simp only;omega))
               rw[Za3] at this
               simpa using this
             |succ i=>simp at hu
       · cases h
     · cases h
   · rename_i fs hu
     split at h
     · rename_i ty' hty
       split at h
       · rename_i hw
         cases h
         obtain⟨xs,n,_,_,hl,hxl,hf⟩:=DataW.trod_struct hu hx
         have:=ZnS (enc:=enc) d (ZjW d) fs.toList 0 _ hty n cs (fun g hg=>by
          obtain⟨i,hi⟩:=List.getElem?_of_mem hg
          have h1:=hf i g (by simpa using hi)
          have:i<xs.length:=by rw[hxl];have:=ZwL hi;simpa using this
          exact⟨_,h1.trans (List.getElem?_eq_getElem this)⟩) (by omega) ι σ H0 hro
         simpa using this
       · cases h
     · cases h
   · cases h
end
open Go.RowKit Go.WideShapes Go.ChangeShapes
def ZFC(P:Program)(d:Nat)(t:TypeId):Option (Ty×Bool):=
 match ZBN P d t with
 | some ty=>(match P.underlying t with
   |some (.struct _)=>some (ty,true)
   |some (.int _)|some .bool|some .string|some (.slice _)=>some (ty,false)
   |_=>none)
 |none=>none
def Zst(P:Program)(d:Nat):List TypeId→Option (List (Ty×Bool))
 |[]=>some []
 | t::r=>match ZFC P d t,Zst P d r with
   |some a,some b=>some (a::b)
   |_,_=>none
def ArgOk(σ:Zax):Ty×Bool→V→Prop
 |(ty,true),v=>∃ cs,v= .agg cs∧Sh σ ty cs∧cs.all V.cell=true
 |(ty,false),v=>Sh σ ty [v]∧v.cell=true
def Zsp(σ:Zax):List (Ty×Bool)→List V→Prop
 |[],[]=>True
 |a::r,v::s=>ArgOk σ a v∧Zsp σ r s
 |_,_=>False
theorem ArgOk.mono{σ e:Zax}{a:Ty×Bool}{v:V}(h:ArgOk σ a v):ArgOk (σ++e) a v:=by
 obtain⟨ty,b⟩:=a
 cases b with
 |true=>obtain⟨cs,h1,h2,h3⟩:=h;exact⟨cs,h1,h2.mono,h3⟩
 |false=>exact⟨h.1.mono,h.2⟩
theorem ArgOk.noBox{σ:Zax}{a:Ty×Bool}{v:V}(h:ArgOk σ a v):∀ i o,v≠.box i o:=by
 obtain⟨ty,b⟩:=a
 intro i o e
 subst e
 cases b with
 |true=>obtain⟨cs,h1,_⟩:=h;cases h1
 |false=>have:=h.2;cases this
section
variable {H:Type} {enc:TypeId×Value→H} {P:Program} {W:World} {r:Reach} {base:Nat}
theorem Zzu {d:Nat} {t:TypeId} {a:Ty×Bool} (ha:ZFC P d t=some a) {v:Value} {dd:DataW H} {ps:List MemPlace} (h:DataW.Trod enc P W 0 (fun _=>true) true t v dd ps) (hok:Value.okWide P W r base t v)
 (ι:Inj) (σ:Zax) (H0:HRel ι σ W) (hro:Zkq σ) :
 ∃ ι' e u,HRel ι' (σ++e) W∧Keeps ι σ ι' (σ++e)∧Zkq (σ++e)∧ArgOk (σ++e) a u∧∀ β,Rel ι' (σ++e) β u v:=by
 unfold ZFC at ha
 split at ha
 · rename_i ty hty
   obtain⟨fuel,hx⟩:=h
   obtain⟨ι',e,vs,h1,h2,h3,h4,h5,h6⟩:=ZjW d t ty hty fuel _ _ hx ι σ H0 hro
   have one:∀ (hc:v.cells=#[v]),a=(ty,false)→∃ ι' e u,HRel ι' (σ++e) W∧Keeps ι σ ι' (σ++e)∧Zkq (σ++e)∧ArgOk (σ++e) a u∧∀ β,Rel ι' (σ++e) β u v:=by
    intro hc ea
    rw[hc] at h5 h6
    match vs,h5,h4,h6 with
    | [u],_,h4,h6=>
      obtain⟨c1,c2⟩:=h6 0 u v rfl rfl
      exact⟨ι',e,u,h1,h2,h3,by rw[ea];exact⟨h4,c1⟩,c2⟩
   split at ha
   · rename_i fs hu
     cases ha
     obtain⟨cs,rfl,_⟩:=okWide_struct hu hok
     replace h5:vs.length=cs.toList.length:=h5
     refine⟨ι',e,.agg vs,h1,h2,h3,⟨vs,rfl,h4,?_⟩,fun β=>?_⟩
     · rw[List.all_eq_true]
       intro u hu'
       obtain⟨i,hi⟩:=List.getElem?_of_mem hu'
       have:i<cs.toList.length:=by rw[← h5];exact ZwL hi
       exact(h6 i u _ hi (List.getElem?_eq_getElem this)).1
     · have:=Rel.agg (ι:=ι') (σ:=σ++e) (β:=β) vs cs.toList h5 (fun u hu'=>by
        obtain⟨i,hi⟩:=List.getElem?_of_mem hu'
        have:i<cs.toList.length:=by rw[← h5];exact ZwL hi
        exact(h6 i u _ hi (List.getElem?_eq_getElem this)).1) (fun i u w hi hw=>(h6 i u w hi hw).2 β)
       simpa using this
   · rename_i k hu
     cases ha
     obtain⟨n,rfl⟩:=okWide_int hu hok
     exact one rfl rfl
   · rename_i hu
     cases ha
     obtain⟨n,rfl⟩:=okWide_bool hu hok
     exact one rfl rfl
   · rename_i hu
     cases ha
     obtain⟨n,rfl⟩:=okWide_string hu hok
     exact one rfl rfl
   · rename_i el hu
     cases ha
     obtain⟨x,y,z,rfl⟩:=okWide_slice hu hok
     exact one rfl rfl
   · cases ha
 · cases ha
theorem Zr6{d:Nat}:∀ {ts:List TypeId} {tys:List (Ty×Bool)},Zst P d ts=some tys→∀ {vs:List Value} {ds:List (DataW H)} {ps:List MemPlace},DataW.TrodAll enc P W 0 (fun _=>true) true ts vs ds ps →
 (∀ (j:Nat) t v,ts[j]?=some t→vs[j]?=some v→Value.okWide P W r base t v)→∀ (ι:Inj) (σ:Zax),HRel ι σ W→Zkq σ →
 ∃ ι' e us,HRel ι' (σ++e) W∧Keeps ι σ ι' (σ++e)∧Zkq (σ++e)∧Zsp (σ++e) tys us∧us.length=vs.length∧∀ (i:Nat) u v,us[i]?=some u→vs[i]?=some v→(∀ j o,u≠.box j o)∧∀ β,Rel ι' (σ++e) β u v
 | [],tys,h,vs,ds,ps,hd,_,ι,σ,H0,hro=>by
   obtain⟨rfl,_,_⟩:=trodAll_nil hd
   cases h
   exact⟨ι,[],[],by simpa using H0,by simpa using Keeps.refl ι σ,by simpa using hro,trivial,rfl,by simp⟩
 | t :: ts,tys,h,vs,ds,ps,hd,hok,ι,σ,H0,hro=>by
   obtain⟨v,vs',x,ds',p,q,rfl,rfl,rfl,h1,h2⟩:=trodAll_cons hd
   unfold Zst at h
   split at h
   · rename_i a b ha hb
     cases h
     obtain⟨ι1,e1,u,H1,K1,R1,A1,C1⟩:=Zzu ha h1 (hok 0 t v rfl rfl) ι σ H0 hro
     obtain⟨ι2,e2,us,H2,K2,R2,A2,L2,C2⟩:=Zr6 hb h2 (fun j t' v' hj hv=>hok (j+1) t' v' hj hv) ι1 (σ++e1) H1 R1
     refine⟨ι2,e1++e2,u::us,by rw[← List.append_assoc];exact H2,by rw[← List.append_assoc];exact K1.trans K2,by rw[← List.append_assoc];exact R2,by rw[← List.append_assoc];exact⟨A1.mono,A2⟩,by simp[L2],fun i u' v' hu hv=>?_⟩
     rw[← List.append_assoc]
     cases i with
     | zero=>
       simp at hu hv;subst hu;subst hv
       exact⟨A1.noBox,fun β=>(C1 β).mono K2 (fun j o e=>absurd e (A1.noBox j o))⟩
     |succ i=>exact C2 i u' v' (by simpa using hu) (by simpa using hv)
   · cases h
end
def ZAd(P:Program)(ts:List TypeId):Bool:=ts.all fun t=>P.readableRec t&&decide (t<P.types.size)
theorem ZmI{H:Type}{enc:TypeId×Value→H}{P:Program}(hl:laidOutB P=true){W W':World}{sp':Nat→Bool}:∀ {ts:List TypeId} {vs:List Value} {ds:List (DataW H)} {ps:List MemPlace},ZAd P ts=true →
 DataW.TrodAll enc P W 0 (fun _=>true) true ts vs ds ps→(∀ p∈ps,W.sameAt W' p)→(∀ p∈ps,sp' p.block=true)→DataW.TrodAll enc P W' 0 sp' true ts vs ds ps
 | [],vs,ds,ps,_,h,_,_=>by
   obtain⟨rfl,rfl,rfl⟩:=trodAll_nil h
   rfl
 | t::ts,vs,ds,ps,hr,h,h1,h2=>by
   obtain⟨v,vs',x,ds',p,q,rfl,rfl,rfl,g1,g2⟩:=trodAll_cons h
   unfold ZAd at hr
   rw[List.all_cons,Bool.and_eq_true,Bool.and_eq_true,decide_eq_true_eq] at hr
   exact⟨p,q,WideElems.Trod_stays hl hr.1.1 hr.1.2 g1 (fun y hy=>h1 y (by simp[hy])) (fun y hy=>h2 y (by simp[hy])),ZmI hl hr.2 g2 (fun y hy=>h1 y (by simp[hy])) (fun y hy=>h2 y (by simp[hy])),rfl⟩
theorem ZsN {H:Type} {enc:TypeId×Value→H} {P:Program} {f:Func} {s:ChangeSpec} {apart fresh handsOn again:Bool} {W W':World} {args:Array Value} {v:Value} {ds gs:List (DataW H)} {before pa pv:List MemPlace}
 (hW:DataW.Whole enc P f.params.toList s.vars apart W args.toList ds gs before)
 (hres:∀ (b:Nat) (sp:Nat→Bool) (hd:Bool),DataW.TrodAll enc P W' b sp hd f.resultTypes.toList (v.resultList f.resultTypes.size) (s.fn H (ds++gs)).results [])
 (hargs:∀ sp:Nat→Bool,(∀ p∈before,sp p.block=true)→DataW.TrodAll enc P W' 0 sp true f.params.toList args.toList (s.fn H (ds++gs)).args pa)
 (hvars:∀ sp:Nat→Bool,(∀ p∈before,sp p.block=true)→DataW.TrodVars enc P W' sp s.vars (s.fn H (ds++gs)).vars pv)
 (hps:before=pa++pv) (hb:Below W.heap.size W W')
 (hok:∀ (j:Nat) (t:TypeId) (r:Value),f.resultTypes[j]?=some t→(v.resultList f.resultTypes.size)[j]?=some r→Value.okWide P W' .any 0 t r) :
 s.post enc P f apart fresh handsOn again W args v W':=by
 have hlt:∀ p∈before,p.block<W.heap.size:=fun p hp=>hW.lt p hp
 have hold:∀ p∈before,(fun b=>decide (b<W.heap.size)) p.block=true:=fun p hp=>by simpa using hlt p hp
 refine⟨ds,gs,before,[],pa,pv,hW,hres _ _ _,hargs _ hold,hvars _ hold,World.keptBut_mono (fun p hp=>⟨hp,?_⟩) (hb.frame (·∈before)),fun _=>?_⟩
 · rw[hps,List.mem_append] at hp
   exact Or.inr hp
 · obtain⟨_,_,_,_,_,hz,hn⟩:=hW
   refine⟨hok,_,_,([]++pa)++pv,⟨[]++pa,pv,trodAll_append (hargs _ (fun _ _=>rfl)) (hres _ _ _),hvars _ (fun _ _=>rfl),rfl,?_,?_⟩,?_⟩
   · intro b off hp
     have hin:MemPlace.cell b off∈before:=by rw[hps];simpa using hp
     rw[hb.frozen (hlt _ hin)]
     exact hz b off hin
   · intro ha
     have:=hn ha
     rw[hps] at this
     simpa using this
   · intro p hp _
     rw[hps]
     simpa using hp
theorem Zut {H:Type} {enc:TypeId×Value→H} {P:Program} {f:FuncId} {fn:Func} {s:ChangeSpec} {apart fresh handsOn again:Bool} {sem:Zar} {tys:List (Ty×Bool)} {d:Nat} {tb:TypeId}
 (hs:Zal P f sem) (has:Zst P d fn.params.toList=some tys) (hrows:ZAd P fn.params.toList=true) (hl:laidOutB P=true)
 (hres:fn.resultTypes=#[tb]) (htb:P.underlying tb=some .bool) (hvars:s.vars=[])
 (hspec:∀ ds:List (DataW H),ds.length=tys.length→s.fn H ds={ results:=[.lit (.bool true)],args:=ds })
 (law:∀ (σ:Zax) (us:List V),Zkq σ→Zsp σ tys us→sem us σ fun r _=>r= .bool true)
 {W:World} {base:Nat} {args:Array Value} {ds gs:List (DataW H)} {before:List MemPlace}
 (hval:∀ (j:Nat) t v,fn.params[j]?=some t→args[j]?=some v→Value.okWide P W .any base t v)
 (hW:DataW.Whole enc P fn.params.toList s.vars apart W args.toList ds gs before) :
 Calls P f args W fun e W'=>∃ v,e= .returned v∧s.post enc P fn apart fresh handsOn again W args v W':=by
 have hW':=hW
 obtain⟨p,q,hA,hV,rfl,hfz,hnd⟩:=hW
 rw[hvars] at hV
 obtain⟨rfl,rfl⟩:=trodVars_none hV
 rw[List.append_nil] at hW'
 obtain⟨ι,e,us,H1,_,R1,A1,L1,C1⟩:=Zr6 (d:=d) has hA (fun j t v hj hv=>hval j t v (by simpa using hj) (by simpa using hv)) (fun _=>⟨0,0,0⟩) [] ⟨by simp,by simp,by simp,by simp⟩ (fun l b h=>by simp at h)
 simp only[List.nil_append] at H1 R1 A1 C1
 have hc:=hs Phm.no ι e W us args.toList _ (.no e) (by rw[Zs3];exact H1) (by rw[Zs3];exact⟨L1,fun i u v hu hv=>(C1 i u v hu hv).2⟩) (law e us R1 A1)
 have hlen:ds.length=tys.length:=by
  have h1:∀ {ts:List TypeId} {tys:List (Ty×Bool)},Zst P d ts=some tys→tys.length=ts.length:=by
   intro ts
   induction ts with
   |nil=>intro tys h;cases h;rfl
   | cons t ts ih=>
     intro tys h
     unfold Zst at h
     split at h
     · rename_i a b _ hb
       cases h
       simp[ih hb]
     · cases h
  have h2:∀ {ts:List TypeId} {vs:List Value} {ds:List (DataW H)} {ps:List MemPlace},DataW.TrodAll enc P W 0 (fun _=>true) true ts vs ds ps→ds.length=ts.length:=by
   intro ts
   induction ts with
   |nil=>intro vs ds ps h;obtain⟨_,rfl,_⟩:=trodAll_nil h;rfl
   | cons t ts ih=>
     intro vs ds ps h
     obtain⟨v,vs',x,ds',p,q,rfl,rfl,rfl,_,g2⟩:=trodAll_cons h
     simp[ih g2]
  rw[h1 has,h2 hA]
 refine(Calls.mono (by simpa using hc) fun en W' hd=>?_:Calls P f args W _)
 obtain⟨x,r,σ',ι',rfl,rfl,_,hx,_,hstep⟩:=hd
 rw[Zs3,Zs3] at hstep
 have hx':=hx (fun _=>0)
 cases hx'
 have hb:Below W.heap.size W W':=⟨hstep.os,hstep.tape,hstep.output,hstep.size,fun k hk=>hstep.frame k hk fun l blk hl hk'=>by have:=R1 l blk hl;rw[hk'] at this;cases this⟩
 have hfn:=hspec (ds++[]) (by simpa using hlen)
 have hlt:∀ x∈p,x.block<W.heap.size:=fun x hx=>hW'.lt x hx
 refine⟨_,rfl,ZsN (pa:=p) (pv:=[]) hW' (fun _ _ _=>?_) (fun sp hsp=>?_) (fun sp _=>?_) (by simp) hb (ok_one hres rfl (okWide_bool_mk htb true))⟩
 · rw[hfn,hres]
   exact trodAll_cons_mk (shut_bool htb true) trodAll_mk0
 · rw[hfn]
   simp only[List.append_nil]
   exact ZmI hl hrows hA (fun x hx=>hb.same (hlt x hx)) hsp
 · rw[hfn,hvars]
   rfl
open Go.ChangeShapes
mutual
def CT.wf:(t:CT)→t.D→Prop
 |.int k,n=>(Lit.int k n).wf=true
 |.bool,_=>True
 |.str,s=>s.length≤maxLen
 |.ifc,_=>True
 |.sl r,l=>@List.length r.D l≤maxLen∧∀ x:r.D,@Membership.mem r.D (List r.D) inferInstance l x→RT.wf r x
def RT.wf:(r:RT)→r.D→Prop
 |.one t,x=>CT.wf t x
 |.cons t r,x=>CT.wf t x.1∧RT.wf r x.2
end
def AgX.wf:(l:List (Ql×CT))→AgX l→Prop
 |[],_=>True
 |[a],x=>a.2.wf x
 |a::b::r,x=>a.2.wf x.1∧AgX.wf (b::r) x.2
def HT.wf:(h:HT)→h.D→Prop
 |.one _ t,x=>t.wf x
 |.agg l,x=>AgX.wf l x
def TuX.wf:(l:List HT)→TuX l→Prop
 |[],_=>True
 |[a],x=>a.wf x
 |a::b::r,x=>a.wf x.1∧TuX.wf (b::r) x.2
def ZxY:List CT→RT
 |[]=>.one .bool
 |[a]=>.one a
 |a::b::r=>.cons a (ZxY (b::r))
def Ty.cts:Ty→List CT
 |.int k=>[.int k]
 |.bool=>[.bool]
 |.str=>[.str]
 |.sl t=>[.sl (ZxY t.cts)]
 |.unit=>[]
 |.pair a b=>a.cts++b.cts
def Ty.good:Ty→Bool
 |.sl t=>Nat.blt 0 t.w&&t.good
 |.pair a b=>a.good&&b.good
 |_=>true
def ZDL:Ty×Bool→HT
 |(ty,true)=>.agg (ty.cts.map fun t=>(.frz,t))
 |(ty,false)=>match ty.cts with|[c]=>.one .frz c|_=>.agg []
def Zti:Ty×Bool→Bool
 |(ty,true)=>ty.good
 |(ty,false)=>ty.good&&ty.cts.length == 1
def DL:List CT→Type
 |[]=>Unit
 |a::r=>a.D×DL r
def DL.wf:(l:List CT)→DL l→Prop
 |[],_=>True
 |a::r,x=>a.wf x.1∧DL.wf r x.2
def DL.enc:(l:List CT)→DL l→List PV
 |[],_=>[]
 |a::r,x=>CT.enc a x.1::DL.enc r x.2
def DL.encF:(l:List CT)→DL l→List PV
 |[],_=>[]
 |a::r,x=>(CT.dv .frz a x.1).enc::DL.encF r x.2
def DL.app:(l m:List CT)→DL l→DL m→DL (l++m)
 |[],_,_,y=>y
 |_::l,m,x,y=>(x.1,DL.app l m x.2 y)
theorem DL.app_enc:∀ (l m:List CT) (x:DL l) (y:DL m),DL.enc (l++m) (DL.app l m x y)=DL.enc l x++DL.enc m y
 |[],_,_,_=>rfl
 | a::l,m,x,y=>by
   show CT.enc a x.1::DL.enc (l++m) (DL.app l m x.2 y)=CT.enc a x.1::(DL.enc l x.2++DL.enc m y)
   rw[DL.app_enc l m x.2 y]
theorem DL.app_encF:∀ (l m:List CT) (x:DL l) (y:DL m),DL.encF (l++m) (DL.app l m x y)=DL.encF l x++DL.encF m y
 |[],_,_,_=>rfl
 | a::l,m,x,y=>by
   show (CT.dv .frz a x.1).enc::DL.encF (l++m) (DL.app l m x.2 y)=(CT.dv .frz a x.1).enc::(DL.encF l x.2++DL.encF m y)
   rw[DL.app_encF l m x.2 y]
theorem DL.app_wf:∀ (l m:List CT) (x:DL l) (y:DL m),DL.wf l x→DL.wf m y→DL.wf (l++m) (DL.app l m x y)
 |[],_,_,_,_,h=>h
 |_::l,m,x,y,h,h'=>⟨h.1,DL.app_wf l m x.2 y h.2 h'⟩
theorem DL.len:∀ (l:List CT) (x:DL l),(DL.enc l x).length=l.length
 |[],_=>rfl
 |_::l,x=>by show _+1=_+1;rw[DL.len l x.2]
theorem DL.lenF:∀ (l:List CT) (x:DL l),(DL.encF l x).length=l.length
 |[],_=>rfl
 |_::l,x=>by show _+1=_+1;rw[DL.lenF l x.2]
def DL.rt:(l:List CT)→DL l→(ZxY l).D
 |[],_=>false
 |[_],x=>x.1
 |_::b::r,x=>(x.1,DL.rt (b::r) x.2)
theorem DL.rt_enc:∀ (l:List CT) (x:DL l),l≠[]→RT.enc (ZxY l) (DL.rt l x)=DL.enc l x
 |[],_,h=>absurd rfl h
 |[_],_,_=>rfl
 | a::b::r,x,_=>by
   show CT.enc a x.1::RT.enc (ZxY (b::r)) (DL.rt (b::r) x.2)=CT.enc a x.1::DL.enc (b::r) x.2
   rw[DL.rt_enc (b::r) x.2 (by simp)]
theorem DL.rt_wf:∀ (l:List CT) (x:DL l),l≠[]→DL.wf l x→RT.wf (ZxY l) (DL.rt l x)
 |[],_,h,_=>absurd rfl h
 |[_],_,_,h=>h.1
 |a::b::r,x,_,h=>⟨h.1,DL.rt_wf (b::r) x.2 (by simp) h.2⟩
def DL.ag:(l:List CT)→DL l→AgX (l.map fun t=>(Ql.frz,t))
 |[],_=>()
 |[_],x=>x.1
 |_::b::r,x=>(x.1,DL.ag (b::r) x.2)
theorem DL.ag_enc:∀ (l:List CT) (x:DL l),DV.encL (ZFI (l.map fun t=>(Ql.frz,t)) (DL.ag l x))=DL.encF l x
 |[],_=>rfl
 |[_],_=>rfl
 | a::b::r,x=>by
   show (CT.dv .frz a x.1).enc::DV.encL (ZFI ((b::r).map fun t=>(Ql.frz,t)) (DL.ag (b::r) x.2))=(CT.dv .frz a x.1).enc::DL.encF (b::r) x.2
   rw[DL.ag_enc (b::r) x.2]
theorem DL.ag_wf:∀ (l:List CT) (x:DL l),DL.wf l x→AgX.wf (l.map fun t=>(Ql.frz,t)) (DL.ag l x)
 |[],_,_=>trivial
 |[_],_,h=>h.1
 |a::b::r,x,h=>⟨h.1,DL.ag_wf (b::r) x.2 h.2⟩
theorem ZjT:∀ (t:Ty),t.cts.length=t.w
 |.int _|.bool|.str|.sl _|.unit=>rfl
 |.pair a b=>by simp only[Ty.cts,Ty.w,List.length_append,ZjT a,ZjT b]
def ωro(σ:Zax):Nat→W:=fun l=>if l<σ.length then .frz else .none
theorem ωro_frz{σ:Zax}{l:Nat}{b:Blk}(h:σ[l]?=some b):ωro σ l= .frz:=by
 unfold ωro;rw[if_pos (Zbc h)]
theorem Zif:∀ (a b:List PV) (i:Nat),i<a.length→Zag (a++b) i=Zag a i
 |[],_,_,h=>by cases h
 |_::_,_,0,_=>rfl
 |_::a,b,i+1,h=>Zif a b i (by simpa using h)
theorem ZgU:∀ (a b:List PV) (i:Nat),Zag (a++b) (a.length+i)=Zag b i
 |[],_,_=>by simp
 | _::a,b,i=>by
   have:=ZgU a b i
   simp only[List.cons_append,List.length_cons,Nat.add_right_comm]
   exact this
theorem ZkH:∀ (a b:List V) (i:Nat),i<a.length→get (a++b) i=get a i
 |[],_,_,h=>by cases h
 |_::_,_,0,_=>rfl
 |_::a,b,i+1,h=>ZkH a b i (by simpa using h)
theorem ZjX:∀ (a b:List V) (i:Nat),get (a++b) (a.length+i)=get b i
 |[],_,_=>by simp
 | _::a,b,i=>by
   have:=ZjX a b i
   simp only[List.cons_append,List.length_cons,Nat.add_right_comm]
   exact this
theorem ZjQ:∀ (l:List V) (o n i:Nat),i<n→get ((l.drop o).take n) i=get l (o+i)
 |[],o,n,i,_=>by simp[get]
 |c::r,0,0,i,h=>by cases h
 |c::r,0,n+1,0,_=>rfl
 | c::r,0,n+1,i+1,h=>by
   have:=ZjQ r 0 n i (by omega)
   simp only[Nat.zero_add] at this
   simp only[List.drop_zero,List.take_succ_cons,get,Nat.zero_add]
   simpa using this
 | c::r,o+1,n,i,h=>by
   have:=ZjQ r o n i h
   rw[List.drop_succ_cons,this,Nat.add_right_comm]
   rfl
theorem ZtS{w:Nat}:∀ (es:List (List PV)) (i j:Nat),(∀ e∈es,e.length=w)→j<w→i<es.length→Zag es.flatten (i*w+j)=Zag (elt es i) j
 |[],i,_,_,_,h=>by cases h
 | e::r,0,j,hw,hj,_=>by
   have he:=hw e (List.mem_cons_self ..)
   rw[Nat.zero_mul,Nat.zero_add,List.flatten_cons,Zif _ _ _ (by omega)]
   rfl
 | e::r,i+1,j,hw,hj,h=>by
   have he:=hw e (List.mem_cons_self ..)
   rw[List.flatten_cons,show (i+1)*w+j=e.length+(i*w+j) by rw[he,Nat.succ_mul];omega,ZgU]
   exact ZtS r i j (fun e h=>hw e (List.mem_cons_of_mem _ h)) hj (by simpa using h)
theorem Zwn {α:Type}(f:α→List PV):∀ (l:List α) (i:Nat) (h:i<l.length),elt (l.map f) i=f l[i]
 |[],_,h=>by cases h
 |_::_,0,_=>rfl
 |_::l,i+1,h=>Zwn f l i (by simpa using h)
theorem ZqI{σ:Zax}:∀ (ty:Ty) {cs:List V},ty.good=true→Sh σ ty cs→∃ x:DL ty.cts,DL.wf ty.cts x ∧
 (∀ i,RC σ (ωro σ) .fz (Zag (DL.enc ty.cts x) i) (get cs i))∧∀ i hd p,RC σ (ωro σ) (.at hd p) (Zag (DL.encF ty.cts x) i) (get cs i)
 | .int k,cs,_,⟨n,h,hw⟩=>by
   subst h
   exact⟨(n,()),⟨hw,trivial⟩,fun i=>by cases i<;>first|exact .v _ _ rfl|exact .undef _ _,fun i hd p=>by cases i<;>first|exact .v _ _ rfl|exact .undef _ _⟩
 | .bool,cs,_,⟨b,h⟩=>by
   subst h
   exact⟨(b,()),⟨trivial,trivial⟩,fun i=>by cases i<;>first|exact .v _ _ rfl|exact .undef _ _,fun i hd p=>by cases i<;>first|exact .v _ _ rfl|exact .undef _ _⟩
 | .str,cs,_,⟨s,h,hl⟩=>by
   subst h
   exact⟨(s,()),⟨hl,trivial⟩,fun i=>by cases i<;>first|exact .v _ _ rfl|exact .undef _ _,fun i hd p=>by cases i<;>first|exact .v _ _ rfl|exact .undef _ _⟩
 | .unit,cs,_,h=>by
   have h:cs=[]:=h
   subst h
   exact⟨(),trivial,fun i=>.undef _ _,fun i hd p=>.undef _ _⟩
 | .pair a b,cs,hg,⟨xs,ys,h,h1,h2⟩=>by
   simp only[Ty.good,Bool.and_eq_true] at hg
   obtain⟨x,x1,x2,x3⟩:=ZqI a hg.1 h1
   obtain⟨y,y1,y2,y3⟩:=ZqI b hg.2 h2
   have hl:=h1.len
   subst h
   refine⟨DL.app _ _ x y,DL.app_wf _ _ x y x1 y1,fun i=>?_,fun i hd p=>?_⟩
   · simp only[Ty.cts]
     rw[DL.app_enc]
     by_cases hi:i<a.w
     · rw[Zif _ _ _ (by rw[DL.len,ZjT];exact hi),ZkH _ _ _ (by rw[hl];exact hi)]
       exact x2 i
     · obtain⟨j,rfl⟩:=Nat.exists_eq_add_of_le (Nat.le_of_not_lt hi)
       have e1:=ZgU (DL.enc a.cts x) (DL.enc b.cts y) j
       have e2:=ZjX xs ys j
       rw[DL.len,ZjT] at e1
       rw[hl] at e2
       rw[e1,e2]
       exact y2 j
   · simp only[Ty.cts]
     rw[DL.app_encF]
     by_cases hi:i<a.w
     · rw[Zif _ _ _ (by rw[DL.lenF,ZjT];exact hi),ZkH _ _ _ (by rw[hl];exact hi)]
       exact x3 i hd p
     · obtain⟨j,rfl⟩:=Nat.exists_eq_add_of_le (Nat.le_of_not_lt hi)
       have e1:=ZgU (DL.encF a.cts x) (DL.encF b.cts y) j
       have e2:=ZjX xs ys j
       rw[DL.lenF,ZjT] at e1
       rw[hl] at e2
       rw[e1,e2]
       exact y3 j hd p
 | .sl t,cs,hg,h=>by
   simp only[Ty.good,Bool.and_eq_true] at hg
   have hw0:0<t.w:=Nat.le_of_ble_eq_true hg.1
   have hne:t.cts≠[]:=by intro e;have:=ZjT t;rw[e] at this;simp only[List.length_nil] at this;omega
   rcases h with h|⟨l,n,bs,h,hb,hbl,hn,he⟩
   · subst h
     refine⟨(([]:List (ZxY t.cts).D),()),⟨⟨Nat.zero_le _,fun x hx=>by cases hx⟩,trivial⟩,fun i=>?_,fun i hd p=>?_⟩
     · cases i<;>first|exact .nil _ _|exact .undef _ _
     · cases i<;>first|exact .nil _ _|exact .undef _ _
   · subst h
     have ex:∀ i,∃ x:DL t.cts,i<n→DL.wf t.cts x∧(∀ k,RC σ (ωro σ) .fz (Zag (DL.enc t.cts x) k) (get ((bs.drop (i*t.w)).take t.w) k)):=by
      intro i
      by_cases hi:i<n
      · obtain⟨x,h1,h2,_⟩:=ZqI t hg.2 (he i hi)
        exact⟨x,fun _=>⟨h1,h2⟩⟩
      · have h0:∀ l:List CT,Nonempty (DL l):=by
         intro l
         induction l with
         |nil=>exact⟨()⟩
         |cons a r ih=>obtain⟨y⟩:=ih;exact⟨(a.dflt,y)⟩
        obtain⟨y⟩:=h0 t.cts
        exact⟨y,fun h=>absurd h hi⟩
     let f:Nat→DL t.cts:=fun i=>Classical.choose (ex i)
     have hf:∀ i,i<n→DL.wf t.cts (f i)∧∀ k,RC σ (ωro σ) .fz (Zag (DL.enc t.cts (f i)) k) (get ((bs.drop (i*t.w)).take t.w) k):=fun i hi=>Classical.choose_spec (ex i) hi
     let L:List (ZxY t.cts).D:=(List.range n).map fun i=>DL.rt t.cts (f i)
     have hL:L.length=n:=by simp[L]
     have hLw:∀ e∈L.map (RT.enc (ZxY t.cts)),e.length=t.w:=by
      intro e he
      obtain⟨y,hy,rfl⟩:=List.mem_map.mp he
      obtain⟨i,_,rfl⟩:=List.mem_map.mp hy
      rw[DL.rt_enc _ _ hne,DL.len,ZjT]
     have hcell:∀ k,k<L.length*t.w→RC σ (ωro σ) .fz (Zag (L.map (RT.enc (ZxY t.cts))).flatten k) (get bs (0+k)):=by
      intro k hk
      have hdm:k / t.w*t.w+k % t.w=k:=by rw[Nat.mul_comm];exact Nat.div_add_mod k t.w
      have hmod:=Nat.mod_lt k hw0
      have hdiv:k / t.w<n:=by rw[hL] at hk;exact(Nat.div_lt_iff_lt_mul hw0).2 hk
      have e1:=ZtS (L.map (RT.enc (ZxY t.cts))) (k / t.w) (k % t.w) hLw hmod (by rw[List.length_map,hL];exact hdiv)
      rw[hdm] at e1
      rw[e1,Zwn _ _ _ (by rw[hL];exact hdiv),Nat.zero_add]
      have e2:=ZjQ bs (k / t.w*t.w) t.w (k % t.w) hmod
      rw[hdm] at e2
      have e3:L[k / t.w]'(by rw[hL];exact hdiv)=DL.rt t.cts (f (k / t.w)):=by simp[L]
      rw[e3,DL.rt_enc _ _ hne,← e2]
      exact(hf _ hdiv).2 _
     have hwf:∀ x∈L,RT.wf (ZxY t.cts) x:=by
      intro x hx
      obtain⟨i,hi,rfl⟩:=List.mem_map.mp hx
      exact DL.rt_wf _ _ hne (hf i (List.mem_range.mp hi)).1
     have hle:0+(L.map (RT.enc (ZxY t.cts))).length*t.w≤bs.length:=by rw[List.length_map,hL,hbl];omega
     refine⟨(L,()),⟨⟨by rw[hL];exact hn,hwf⟩,trivial⟩,fun i=>?_,fun i hd p=>?_⟩
     · cases i with
       |succ i=>exact .undef _ _
       |zero=>exact .sl _ _ _ _ _ _ _ hb (by simp) (ωro_frz hb) (fun e=>by cases e) (by rw[List.length_map,hL]) hLw hle fun k hk=>hcell k (by rw[List.length_map] at hk;exact hk)
     · cases i with
       |succ i=>exact .undef _ _
       |zero=>exact .sl _ _ _ _ _ _ _ hb (by simp) (ωro_frz hb) (fun _ e=>by rcases e with e|⟨_,_,e⟩<;>cases e) (by rw[List.length_map,hL]) hLw hle fun k hk=>hcell k (by rw[List.length_map] at hk;exact hk)
structure ZHb (σ:Zax) (v:PV) (u:V):Prop where
 rc:∀ hd p c,RC σ (ωro σ) (.at hd p) (v.fcell c) (u.fcell c)
 sh:Shp v u
 nx:∀ c i pb tp,(v.fcell c).q≠some (.bor (.x i) pb tp)
theorem ZEC{v:V}(h:v.cell=true):(∀ us,v≠.agg us)∧∀ us,v≠.tup us:=by
 constructor<;>rintro us rfl<;>cases h
theorem ZFk:∀ (l:List CT) (x:DL l) (i:Nat) (a:Hd) (pb:List Nat) (tp:Bool),(Zag (DL.encF l x) i).q≠some (.bor a pb tp)
 |[],_,_,_,_,_=>by simp[DL.encF,Zag,PV.q]
 |c::r,x,0,a,pb,tp=>by cases c<;>simp[DL.encF,Zag,CT.dv,DV.enc,PV.q]
 |_::r,x,i+1,a,pb,tp=>ZFk r x.2 i a pb tp
theorem Zxn{σ:Zax}{a:Ty×Bool}{u:V}(hg:Zti a=true)(h:ArgOk σ a u):∃ x:(ZDL a).D,(ZDL a).wf x∧ZHb σ ((ZDL a).dv x).enc u:=by
 obtain⟨ty,b⟩:=a
 cases b with
 | true=>
   obtain⟨cs,rfl,hs,hc⟩:=h
   obtain⟨x,h1,_,h3⟩:=ZqI ty hg hs
   have hle:=hs.len
   refine⟨DL.ag ty.cts x,DL.ag_wf _ _ h1,?_⟩
   have he:((ZDL (ty,true)).dv (DL.ag ty.cts x)).enc= .agg (DL.encF ty.cts x):=by
    show PV.agg _=PV.agg _
    rw[DL.ag_enc]
   rw[he]
   refine⟨fun hd p c=>?_,⟨cs,rfl,by rw[hle,DL.lenF,ZjT]⟩,fun c i pb tp=>?_⟩
   · match c with
     |[]=>exact .undef _ _
     |[c]=>exact h3 c hd p
     |_::_::_=>exact .undef _ _
   · match c with
     |[]=>simp[PV.fcell,PV.q]
     |[c]=>exact ZFk _ _ _ _ _ _
     |_::_::_=>simp[PV.fcell,PV.q]
 | false =>
   obtain⟨hs,hc⟩:=h
   simp only[Zti,Bool.and_eq_true,beq_iff_eq] at hg
   obtain⟨x,h1,_,h3⟩:=ZqI ty hg.1 hs
   have key:∀ (l:List CT) (x:DL l),l.length=1→DL.wf l x→(∀ i hd p,RC σ (ωro σ) (.at hd p) (Zag (DL.encF l x) i) (get [u] i)) →
    ∃ y:(match l with|[c]=>HT.one .frz c|_=>HT.agg []).D,(match l with|[c]=>HT.one .frz c|_=>HT.agg []).wf y∧ZHb σ ((match l with|[c]=>HT.one .frz c|_=>HT.agg []).dv y).enc u:=by
    intro l x hl hwf h3
    match l,x,hl,hwf,h3 with
    | [c],x,_,hwf,h3=>
      have hsc:=ZEC hc
      have hnf:∀ p,p≠[0]→((CT.dv .frz c x.1).enc).fcell p= .fl .undef:=by
       intro p hp
       cases c<;>(match p with|[]=>rfl|[0]=>exact absurd rfl hp|(_+1)::_=>rfl|0::_::_=>rfl)
      have hf0:((CT.dv .frz c x.1).enc).fcell [0]=(CT.dv .frz c x.1).enc:=by cases c<;>rfl
      have hu0:u.fcell [0]=u:=by cases u<;>first|rfl|exact absurd rfl (hsc.1 _)|exact absurd rfl (hsc.2 _)
      refine⟨x.1,hwf.1,⟨fun hd p q=>?_,?_,fun q i pb tp=>?_⟩⟩
      · by_cases hq:q=[0]
        · subst hq
          show RC σ (ωro σ) (.at hd p) (((CT.dv .frz c x.1).enc).fcell [0]) (u.fcell [0])
          rw[hf0,hu0];exact h3 0 hd p
        · show RC σ (ωro σ) (.at hd p) (((CT.dv .frz c x.1).enc).fcell q) (u.fcell q)
          rw[hnf q hq];exact .undef _ _
      · show Shp ((CT.dv .frz c x.1).enc) u
        cases c<;>exact hsc
      · show (((CT.dv .frz c x.1).enc).fcell q).q≠_
        by_cases hq:q=[0]
        · subst hq
          rw[hf0];exact ZFk [c] x 0 _ _ _
        · rw[hnf q hq];simp[PV.q]
   exact key ty.cts x hg.2 h1 h3
theorem Zpj{σ:Zax}:∀ {tys:List (Ty×Bool)} {us:List V},tys.all Zti=true→Zsp σ tys us→∃ x:TuX (tys.map ZDL),TuX.wf _ x∧us.length=tys.length ∧
 ∀ t,ZHb σ (Zag (DV.encL (ZvM (tys.map ZDL) x)) t) (get us t)
 |[],[],_,_=>⟨(),trivial,rfl,fun t=>⟨fun hd p c=>by
  have:(PV.fl V.undef).fcell c= .fl .undef:=by match c with|[]=>rfl|[0]=>rfl|(_+1)::_=>rfl|0::_::_=>rfl
  show RC σ (ωro σ) (.at hd p) ((PV.fl V.undef).fcell c) _
  rw[this];exact .undef _ _,trivial,fun c i pb tp=>by
  have:(PV.fl V.undef).fcell c= .fl .undef:=by match c with|[]=>rfl|[0]=>rfl|(_+1)::_=>rfl|0::_::_=>rfl
  show ((PV.fl V.undef).fcell c).q≠_
  rw[this];simp[PV.q]⟩⟩
 | [a],[u],hg,h=>by
   simp only[List.all_cons,List.all_nil,Bool.and_true] at hg
   obtain⟨x,h1,h2⟩:=Zxn hg h.1
   obtain⟨_,_,_,h4⟩:=Zpj (σ:=σ) (tys:=[]) (us:=[]) rfl trivial
   refine⟨x,h1,rfl,fun t=>?_⟩
   cases t with
   |zero=>exact h2
   |succ t=>exact h4 t
 | a::b::r,u::us,hg,h=>by
   rw[List.all_cons,Bool.and_eq_true] at hg
   obtain⟨x,h1,h2⟩:=Zxn hg.1 h.1
   obtain⟨y,h3,h4,h5⟩:=Zpj (tys:=b::r) (us:=us) hg.2 h.2
   refine⟨(x,y),⟨h1,h3⟩,by simp[h4],fun t=>?_⟩
   cases t with
   |zero=>exact h2
   |succ t=>exact h5 t
 |[_],_::_::_,_,h=>h.2.elim
 |[_],[],_,h=>h.elim
 |_::_::_,[],_,h=>h.elim
 |[],_::_,_,h=>h.elim
theorem ZHH{σ:Zax}{as:List PV}{us:List V}(hl:as.length=us.length)(h:∀ t,ZHb σ (Zag as t) (get us t)):RS σ (ωro σ) (ωro σ) (fun _=>0) ⟨as,[],[]⟩ ⟨us,[],σ⟩ X0:=by
 have no:∀ l hd p,ωro σ l≠.own hd p:=by intro l hd p e;unfold ωro at e;split at e<;>cases e
 have nop:∀ l i,ωro σ l≠.ptr i:=by intro l i e;unfold ωro at e;split at e<;>cases e
 have hund:∀ c,(PV.fl V.undef).fcell c= .fl .undef:=by
  intro c;match c with|[]=>rfl|[0]=>rfl|(_+1)::_=>rfl|0::_::_=>rfl
 have cat:∀ (c:List Nat) (l:List V),(Za7 [] l c).1= .fl .undef:=by
  intro c l;match c with|[]=>rfl|[_]=>rfl|_::_::_=>rfl
 refine⟨⟨fun hd p=>?_,fun l l' hd p e=>absurd e (no l hd p),fun l l' i e=>absurd e (nop l i),fun l e=>?_,fun l e=>?_⟩,fun t=>(h t).sh,fun i=>trivial,hl,rfl,fun i=>rfl,fun i c=>rfl,fun i c=>rfl,fun i hi=>(by cases hi),fun l i e=>absurd e (nop l i),fun l i p e=>absurd e (no l _ p),⟨Nat.le_refl _,fun l _ _=>⟨rfl,rfl⟩,fun l hlt e=>(by rw[e];simp),fun l i e=>e⟩,fun hd p i pb tp=>?_⟩
 · cases hd with
   |s t=>exact(h t).rc _ _ _
   |b i=>show RC σ (ωro σ) _ (Za7 [] (ZfO [] i) p).1 _;rw[cat];exact .undef _ _
   |h i=>show RC σ (ωro σ) _ (Za7 [] _ p).1 _;rw[cat];exact .undef _ _
   |x i=>show RC σ (ωro σ) _ ((PV.fl V.undef).fcell p) _;rw[hund];exact .undef _ _
 · rcases e with⟨hd,p,e⟩|⟨i,e⟩
   · exact absurd e (no l hd p)
   · exact absurd e (nop l i)
 · unfold ωro at e;split at e
   · assumption
   · cases e
 · cases hd with
   |s t=>exact(h t).nx p i pb tp
   |b j=>show (Za7 [] (ZfO [] j) p).1.q≠_;rw[cat];simp[PV.q]
   |h j=>show (Za7 [] _ p).1.q≠_;rw[cat];simp[PV.q]
   |x j=>show ((PV.fl V.undef).fcell p).q≠_;rw[hund];simp[PV.q]
theorem ZF6 {f:DFun} {tys:List (Ty×Bool)} {hs:List HT} {s:Zar} (hsp:Zbd s (ZaQ f.er)) (hhs:tys.map ZDL=hs) (hg:tys.all Zti=true) (ho:AllD f.body.obs)
 (hst:ZGx f hs (.one (.one .own .bool))=true) (hc:∀ x,Zzj f hs (.one (.one .own .bool)) x=true)
 (law:∀ x:TuX hs,TuX.wf hs x→ZhR f hs (.one (.one .own .bool)) x∧fnV f hs (.one (.one .own .bool)) x=true) (σ:Zax) (us:List V) (hro:Zkq σ) (ha:Zsp σ tys us):s us σ fun r _=>r= .bool true:=by
 subst hhs
 obtain⟨x,h1,h2,h3⟩:=Zpj hg ha
 obtain⟨l1,l2⟩:=law x h1
 have hlen:(DV.encL (ZvM (tys.map ZDL) x)).length=us.length:=by rw[Zez,Zpd,List.length_map,h2]
 refine hsp σ (ωro σ) (fun _=>0) _ us [] (fun r _=>r= .fl (.bool true)) _ (ZHH hlen h3) (fun l hd p e=>?_) ?_ fun u h' r H' ω' ρ' hQ R' _=>?_
 · exfalso;unfold ωro at e;split at e<;>cases e
 · refine Zxf ho hst x (hc x) l1 fun H=>?_
   rw[l2]
   rfl
 · subst hQ
   have r:=R'.core.rc (.x 0) [0]
   have hs:=R'.shx 0
   have r:RC h' ω' (.at (.x 0) [0]) (.fl (.bool true)) (u.fcell [0]):=r
   have hu:u.fcell [0]=u:=by
    have hs:Shp (.fl (.bool true)) u:=hs
    cases u<;>first|rfl|exact absurd rfl (hs.1 _)|exact absurd rfl (hs.2 _)
   rw[hu] at r
   cases r
   rfl
theorem ZHP(x:V)(r:List V):get (x::r) 0=x:=id rfl
theorem ZHk(x:V)(r:List V)(n:Nat):get (x::r) (n+1)=get r n:=id rfl
theorem ZIo(s:List V)(n:Nat):(Opnd.t n).ev s=get s n:=id rfl
theorem ZIs(s:List V)(v:V):(Opnd.c v).ev s=v:=id rfl
def rk(pu:Bool)(res:List Zki)(h0:Zax)(Q:V→Zax→Prop):ZkY:=ZHf ⟨0,0,0,pu,res,.skip⟩ h0 Q
theorem ZmM{np ns nb:Nat}{pu:Bool}{res:List Zki}{body:ZhZ}{args:List V}{h:Zax}{Q:V→Zax→Prop}(hl:args.length=np)(hb:awp body (rk pu res h Q) ⟨args++ZvZ (ns-np),Zyr nb,h⟩) :
 Za5 ⟨np,ns,nb,pu,res,body⟩ args h Q:=⟨hl,hb⟩
theorem ZB6(k:ZkY)(st:St):awp .skip k st=k .normal st:=rfl
theorem Zyu(o:List AOper)(k:ZkY)(st:St):awp (.region o) k st=Zjh o (k .normal) st:=rfl
theorem ZFv(a b:ZhZ)(k:ZkY)(st:St):awp (.seq a b) k st=awp a (ZvO (awp b k) k) st:=rfl
theorem ZAW(i:Nat)(a:ZhZ)(k:ZkY)(st:St):awp (.block i a) k st=awp a (ZkN i k) st:=rfl
theorem ZC7(i:Nat)(k:ZkY)(st:St):awp (.exit i) k st=k (.exit i) st:=rfl
theorem ZE8(k:ZkY)(st:St):awp .ret k st=k .ret st:=rfl
theorem ZDg{c:Opnd}{a b:ZhZ}{k:ZkY}{st:St}(h:c.ev st.sl= .bool true):awp (.cond c a b) k st=awp a k st:=by simp only[awp,h,if_true]
theorem ZyH{c:Opnd}{a b:ZhZ}{k:ZkY}{st:St}(h:c.ev st.sl= .bool false):awp (.cond c a b) k st=awp b k st:=by simp only[awp,h];rfl
theorem Zu8(n:St→Prop)(k:ZkY)(st:St):ZvO n k .normal st=n st:=rfl
theorem ZDl(n:St→Prop)(k:ZkY)(st:St):ZvO n k .ret st=k .ret st:=rfl
theorem ZAD(n:St→Prop)(k:ZkY)(i:Nat)(st:St):ZvO n k (.exit i) st=k (.exit i) st:=rfl
theorem ZsT(i:Nat)(k:ZkY)(st:St):ZkN i k .normal st=k .normal st:=rfl
theorem ZyA(i:Nat)(k:ZkY)(st:St):ZkN i k .ret st=k .ret st:=rfl
theorem Zu6(i j:Nat)(k:ZkY)(st:St):ZkN i k (.exit j) st=if j=i then k .normal st else k (.exit j) st:=rfl
theorem ZBY(n:St→Prop)(k:ZkY):ZvO n k .normal=n:=rfl
theorem Zyl(i:Nat)(k:ZkY):ZkN i k .normal=k .normal:=rfl
theorem ZCn(k:St→Prop)(st:St):Zjh [] k st=k st:=rfl
theorem ZCY{i:Nat}{d:Option Nat}{o:AOp}{a:List Nat}{r:List AOper}{k:St→Prop}{st:St}:Zjh (⟨i,d,o,none,a⟩::r) k st=aop o d (Zjh r k) st:=rfl
theorem ZEM{i:Nat}{d:Option Nat}{o:AOp}{g:Nat}{w:Bool}{a:List Nat}{r:List AOper}{k:St→Prop}{st:St}(h:get st.sl g= .bool w):Zjh (⟨i,d,o,some (g,w),a⟩::r) k st=aop o d (Zjh r k) st:=by
 simp only[Zjh,ZeM,h,if_true]
theorem Zwg{i:Nat}{d:Option Nat}{o:AOp}{g:Nat}{w b:Bool}{a:List Nat}{r:List AOper}{k:St→Prop}{st:St}(h:get st.sl g= .bool b)(hn:b≠w):Zjh (⟨i,d,o,some (g,w),a⟩::r) k st=Zjh r k (st.put d (.tup [])):=by
 simp only[Zjh,ZeM,h,if_neg hn]
theorem ZzB{i:Nat}{d:Option Nat}{o:AOp}{g:Nat}{a:List Nat}{r:List AOper}{k:St→Prop}{st:St}(h:get st.sl g= .bool false):Zjh (⟨i,d,o,some (g,true),a⟩::r) k st=Zjh r k (st.put d (.tup [])):=Zwg h (by decide)
theorem ZBD{i:Nat}{d:Option Nat}{o:AOp}{g:Nat}{a:List Nat}{r:List AOper}{k:St→Prop}{st:St}(h:get st.sl g= .bool true):Zjh (⟨i,d,o,some (g,false),a⟩::r) k st=Zjh r k (st.put d (.tup [])):=Zwg h (by decide)
theorem ZCG{i:Nat}{d:Option Nat}{o:AOp}{g:Nat}{w:Bool}{a:List Nat}{r:List AOper}{k:St→Prop}{st:St}(h:get st.sl g= .tup []):Zjh (⟨i,d,o,some (g,w),a⟩::r) k st=Zjh r k (st.put d (.tup [])):=by
 simp only[Zjh,ZeM,h]
theorem ZdP{i:Nat}{d:Option Nat}{o:AOp}{g:Nat}{w:Bool}{a:List Nat}{r:List AOper}{k:St→Prop}{st:St}{b:Bool}(_h:get st.sl g= .bool b)(h1:b=true→Zjh (⟨i,d,o,some (g,w),a⟩::r) k st)(h2:b=false→Zjh (⟨i,d,o,some (g,w),a⟩::r) k st) :
 Zjh (⟨i,d,o,some (g,w),a⟩::r) k st:=by
 cases b
 · exact h2 rfl
 · exact h1 rfl
theorem Zfc{c:Opnd}{x y:ZhZ}{k:ZkY}{st:St}{b:Bool}(_h:c.ev st.sl= .bool b)(h1:b=true→awp (.cond c x y) k st)(h2:b=false→awp (.cond c x y) k st):awp (.cond c x y) k st:=by
 cases b
 · exact h2 rfl
 · exact h1 rfl
theorem ZGe(pu:Bool)(res:List Zki)(h0:Zax)(Q:V→Zax→Prop)(st:St):rk pu res h0 Q .ret st=(match ZuQ st res with
 |some v=>if pu then v.flat2=true∧st.hp.take h0.length=h0∧Q v h0 else Q v st.hp
 |none=>False):=rfl
theorem ZBb(pu:Bool)(res:List Zki)(h0:Zax)(Q:V→Zax→Prop)(st:St):rk pu res h0 Q .normal st=(match ZuQ st res with
 |some v=>if pu then v.flat2=true∧st.hp.take h0.length=h0∧Q v h0 else Q v st.hp
 |none=>False):=rfl
def ZDD{α:Type}(_:α):Type:=Unit
def Zub{α:Type}(a:α):ZDD a:=()
def oV(o:Option V)(f:V→Prop)(_:ZDD f):Prop:=match o with
 |some v=>f v
 |none=>False
theorem ZD6(v:V)(f:V→Prop)(t:ZDD f):oV (some v) f t=f v:=rfl
theorem ZEv(f:V→Prop)(t:ZDD f):oV none f t=False:=rfl
def oS(o:Option (V×List (List V)×Zax))(s:List V)(d:Option Nat)(k:St→Prop)(_:ZDD k):Prop:=match o with
 |some (v,bx,hp)=>k (St.put ⟨s,bx,hp⟩ d v)
 |none=>False
theorem ZFs(v:V)(bx:List (List V))(hp:Zax)(s:List V)(d:Option Nat)(k:St→Prop)(t:ZDD k):oS (some (v,bx,hp)) s d k t=k (St.put ⟨s,bx,hp⟩ d v):=rfl
@[congr] theorem ZGR {c:ZhZ} {k:ZkY} {st st':St} (h:st=st'):awp c k st=awp c k st':=by rw[h]
@[congr] theorem ZFN {o:List AOper} {k:St→Prop} {st st':St} (h:st=st'):Zjh o k st=Zjh o k st':=by rw[h]
@[congr] theorem ZGo {o:AOp} {d:Option Nat} {k:St→Prop} {st st':St} (h:st=st'):aop o d k st=aop o d k st':=by rw[h]
@[congr] theorem ZFJ {n:St→Prop} {k:ZkY} {e e':AExit} {st st':St} (he:e=e') (h:st=st'):ZvO n k e st=ZvO n k e' st':=by rw[he,h]
@[congr] theorem ZDR {i:Nat} {k:ZkY} {e e':AExit} {st st':St} (he:e=e') (h:st=st'):ZkN i k e st=ZkN i k e' st':=by rw[he,h]
@[congr] theorem ZHe {pu:Bool} {res:List Zki} {h0:Zax} {Q:V→Zax→Prop} {e e':AExit} {st st':St} (he:e=e') (h:st=st'):rk pu res h0 Q e st=rk pu res h0 Q e' st':=by rw[he,h]
def ZDZ(k:IntKind):V→Option V
 |.int _ n=>some (.int k (k.wrap n))
 |_=>none
def ZsE(off:Nat):V→Option V
 |.box i o=>some (.box i (o+off))
 |.ptr l o=>some (.ptr l (o+off))
 |_=>none
def ZBg(off:Nat)(n:Option Nat):V→Option V
 |.agg cs=>if off+n.getD 1≤cs.length then ZgL n ((cs.drop off).take (n.getD 1)) else none
 |_=>none
def Zxp(w:Nat):V→V→Option V
 |.slice l o n,.int _ j=>if 0≤j∧j<n then some (.ptr l (o+j.toNat*w)) else none
 |_,_=>none
def ZC8:V→Option V
 |.nils=>some (.int .i64 0)
 |.slice _ _ n=>some (.int .i64 n)
 |_=>none
def ZkQ(i:Nat):V→Option V
 |.tup vs=>vs[i]?
 |_=>none
def ZzZ(bx:List (List V))(i:Nat)(n:Option Nat):V→Option V
 |.box j o=>if i=j∧o+n.getD 1≤(ZfO bx i).length then ZgL n (((ZfO bx i).drop o).take (n.getD 1)) else none
 |_=>none
def ZqU(hp:Zax)(n:Option Nat):V→Option V
 |.ptr l o=>(rd hp l o (n.getD 1)).bind fun cs=>ZgL n cs
 |_=>none
def Zeb(bx:List (List V))(hp:Zax)(n:Nat)(a x:V):Option (V×List (List V)×Zax):=match a with
 |.ptr l o=>if x.cells.length=n∧x.cells.all V.cell then (wr hp l o x.cells).bind fun h=>some (.undef,bx,h) else none
 |_=>none
def ZzX(bx:List (List V))(hp:Zax)(i n:Nat)(x:V):Option (V×List (List V)×Zax):=
 if i<bx.length∧x.cells.length=n∧x.cells.all V.cell then some (.box i 0,ZnW bx i x.cells,hp) else none
def ZGK(f:Zar)(args:List V)(d:Option Nat)(k:St→Prop)(st:St)(_:ZDD k):Prop:=f args st.hp fun r h=>k (St.put { st with hp:=h } d r)
theorem ZsY{o:Option V}{k:St→Prop}{st:St}{d:Option Nat} :
 (match o.bind (fun v=>(some (v,st.bx,st.hp):Option (V×List (List V)×Zax))) with
 |some (v,bx,hp)=>k (St.put { sl:=st.sl,bx,hp } d v)
 |none=>False)=oV o (fun v=>k (st.put d v)) (Zub _):=by
 cases o<;>rfl
theorem Zw7{o:Option (V×List (List V)×Zax)}{s:List V}{k:St→Prop}{d:Option Nat} :
 (match o with
 |some (v,bx,hp)=>k (St.put { sl:=s,bx,hp } d v)
 |none=>False)=oS o s d k (Zub k):=by
 cases o<;>rfl
theorem ZGJ{c:Prop}{_:Decidable c}{v:V}{k:St→Prop}{st:St}{d:Option Nat} :
 (match (if c then some (v,st.bx,st.hp) else (none:Option (V×List (List V)×Zax))) with
 |some (v,bx,hp)=>k (St.put { sl:=st.sl,bx,hp } d v)
 |none=>False)=oV (if c then some v else none) (fun v=>k (st.put d v)) (Zub _):=by
 by_cases h:c<;>simp only[h,if_true,if_false]<;>rfl
theorem ZzU {c:Prop}{_:Decidable c}{o:Option V}{k:St→Prop}{st:St}{d:Option Nat} :
 (match (if c then o.bind (fun v=>(some (v,st.bx,st.hp):Option (V×List (List V)×Zax))) else none) with
 |some (v,bx,hp)=>k (St.put { sl:=st.sl,bx,hp } d v)
 |none=>False)=oV (if c then o else none) (fun v=>k (st.put d v)) (Zub _):=by
 by_cases h:c<;>simp only[h,if_true,if_false]
 · cases o<;>rfl
 · rfl
theorem bind_some{α:Type}(o:Option α):(o.bind fun x=>some x)=o:=by cases o<;>rfl
section
variable {d:Option Nat} {k:St→Prop} {st:St}
theorem ZGq(x:Opnd):aop (.mv x) d k st=k (st.put d (x.ev st.sl)):=rfl
theorem Zs2{c a b:Opnd}(h:c.ev st.sl= .bool true):aop (.pick c a b) d k st=k (st.put d (a.ev st.sl)):=by simp only[aop,Zaf,h];rfl
theorem Zri{c a b:Opnd}(h:c.ev st.sl= .bool false):aop (.pick c a b) d k st=k (st.put d (b.ev st.sl)):=by simp only[aop,Zaf,h];rfl
theorem Zbo{c a b:Opnd}{t:Bool}(_h:c.ev st.sl= .bool t)(h1:t=true→aop (.pick c a b) d k st)(h2:t=false→aop (.pick c a b) d k st):aop (.pick c a b) d k st:=by
 cases t
 · exact h2 rfl
 · exact h1 rfl
theorem ZD7(op:BinOp)(x y:Opnd):aop (.bin op x y) d k st=oV (Zfo op (x.ev st.sl) (y.ev st.sl)) (fun v=>k (st.put d v)) (Zub _):=ZsY
theorem ZGT(op:UnOp)(x:Opnd):aop (.un op x) d k st=oV (ZzS op (x.ev st.sl)) (fun v=>k (st.put d v)) (Zub _):=ZsY
theorem ZCp(q:IntKind)(x:Opnd):aop (.conv q x) d k st=oV (ZDZ q (x.ev st.sl)) (fun v=>k (st.put d v)) (Zub _):=by simp only[aop,Zaf];cases x.ev st.sl<;>rfl
theorem ZxC(off:Nat)(x:Opnd):aop (.fieldA off x) d k st=oV (ZsE off (x.ev st.sl)) (fun v=>k (st.put d v)) (Zub _):=by simp only[aop,Zaf];cases x.ev st.sl<;>rfl
theorem Zzh(off:Nat)(n:Option Nat)(x:Opnd):aop (.field off n x) d k st=oV (ZBg off n (x.ev st.sl)) (fun v=>k (st.put d v)) (Zub _):=by
 simp only[aop,Zaf]
 cases x.ev st.sl<;>try rfl
 exact ZzU
theorem Zye(w:Nat)(x i:Opnd):aop (.indexA w x i) d k st=oV (Zxp w (x.ev st.sl) (i.ev st.sl)) (fun v=>k (st.put d v)) (Zub _):=by
 simp only[aop,Zaf]
 cases x.ev st.sl<;>try rfl
 cases i.ev st.sl<;>try rfl
 exact ZGJ
theorem ZEc(x:Opnd):aop (.len x) d k st=oV (ZC8 (x.ev st.sl)) (fun v=>k (st.put d v)) (Zub _):=by simp only[aop,Zaf];cases x.ev st.sl<;>rfl
theorem Zv9(x:Opnd)(i:Nat):aop (.extract x i) d k st=oV (ZkQ i (x.ev st.sl)) (fun v=>k (st.put d v)) (Zub _):=by
 simp only[aop,Zaf]
 cases x.ev st.sl<;>try rfl
 rename_i vs
 simp only[ZkQ]
 cases vs[i]?<;>rfl
theorem ZyF(i:Nat)(n:Option Nat)(a:Opnd):aop (.loadB i n a) d k st=oV (ZzZ st.bx i n (a.ev st.sl)) (fun v=>k (st.put d v)) (Zub _):=by
 simp only[aop,Zaf]
 cases a.ev st.sl<;>try rfl
 exact ZzU
theorem Zzz(n:Option Nat)(a:Opnd):aop (.loadH n a) d k st=oV (ZqU st.hp n (a.ev st.sl)) (fun v=>k (st.put d v)) (Zub _):=by
 simp only[aop,Zaf]
 cases a.ev st.sl<;>try rfl
 simp only[ZqU]
 rename_i l o
 cases rd st.hp l o (n.getD 1)<;>try rfl
 exact ZsY
theorem Zxr(n:Nat)(a x:Opnd):aop (.storeH n a x) d k st=oS (Zeb st.bx st.hp n (a.ev st.sl) (x.ev st.sl)) st.sl d k (Zub k):=by
 simp only[aop,Zaf,Zeb]
 cases a.ev st.sl<;>first|rfl|exact Zw7
theorem ZBX(i n:Nat)(x:Opnd):aop (.boxB i n x) d k st=oS (ZzX st.bx st.hp i n (x.ev st.sl)) (clearBox i st.sl) d k (Zub k):=by
 simp only[aop,Zaf,ZzX]
 exact Zw7
theorem ZCu(f:Zar)(args:List Opnd):aop (.call f args) d k st=((args.map (·.ev st.sl)).all V.ok1=true∧ZGK f (args.map (·.ev st.sl)) d k st (Zub k)):=rfl
end
section
variable {k:IntKind}
theorem Zz5(q:IntKind)(n:Int):ZDZ q (.int k n)=some (.int q (q.wrap n)):=rfl
theorem Zul(off i o:Nat):ZsE off (.box i o)=some (.box i (o+off)):=rfl
theorem ZuL(off l o:Nat):ZsE off (.ptr l o)=some (.ptr l (o+off)):=rfl
theorem Zyk(off:Nat)(n:Option Nat)(cs:List V):ZBg off n (.agg cs)=if off+n.getD 1≤cs.length then ZgL n ((cs.drop off).take (n.getD 1)) else none:=rfl
theorem Zx2:ZC8 .nils=some (.int .i64 0):=rfl
theorem ZDc(l o n:Nat):ZC8 (.slice l o n)=some (.int .i64 n):=rfl
theorem Zu7(v:V)(vs:List V):ZkQ 0 (.tup (v::vs))=some v:=rfl
theorem ZvV(i:Nat)(v:V)(vs:List V):ZkQ (i+1) (.tup (v::vs))=ZkQ i (.tup vs):=rfl
theorem Zx7(bx:List (List V))(i:Nat)(n:Option Nat)(j o:Nat):ZzZ bx i n (.box j o)=if i=j∧o+n.getD 1≤(ZfO bx i).length then ZgL n (((ZfO bx i).drop o).take (n.getD 1)) else none:=rfl
theorem Zzi(a b:Int):Zfo .add (.int k a) (.int k b)=some (.int k (k.wrap (a+b))):=by simp[Zfo,ZfM]
theorem ZA1(a b:Int):Zfo .sub (.int k a) (.int k b)=some (.int k (k.wrap (a-b))):=by simp[Zfo,ZfM]
theorem ZBr(a b:Int):Zfo .mul (.int k a) (.int k b)=some (.int k (k.wrap (a*b))):=by simp[Zfo,ZfM]
theorem ZAF(a b:Int):Zfo .rem (.int k a) (.int k b)=if b=0 then none else some (.int k (a.tmod b)):=by simp[Zfo,ZfM]
theorem Zzx(a b:Int):Zfo .eql (.int k a) (.int k b)=some (.bool (a == b)):=by simp[Zfo,ZfM]
theorem ZyG(a b:Int):Zfo .neq (.int k a) (.int k b)=some (.bool (a != b)):=by simp[Zfo,ZfM]
theorem ZAZ(a b:Int):Zfo .lss (.int k a) (.int k b)=some (.bool (decide (a<b))):=by simp[Zfo,ZfM]
theorem ZyQ(a b:Int):Zfo .leq (.int k a) (.int k b)=some (.bool (decide (a≤b))):=by simp[Zfo,ZfM]
theorem ZAE(a b:Int):Zfo .gtr (.int k a) (.int k b)=some (.bool (decide (a > b))):=by simp[Zfo,ZfM]
theorem ZAh(a b:Int):Zfo .geq (.int k a) (.int k b)=some (.bool (decide (a≥b))):=by simp[Zfo,ZfM]
theorem ZCq(b:Bool):ZzS .not (.bool b)=some (.bool (!b)):=rfl
theorem ZDi(n:Int):ZzS .neg (.int k n)=some (.int k (k.wrap (0-n))):=rfl
theorem ZtQ(d:Nat):Zd9 d none=some d:=rfl
theorem Zyh(d:Nat)(i:Int):Zd9 d (some (.int k i))=if 0≤i then some i.toNat else none:=rfl
theorem ZxW(n:Nat)(cs:List V):ZgL (some n) cs=some (.agg cs):=rfl
theorem Zyg(v:V):ZgL none [v]=some v:=rfl
end
theorem V.cell_undef:V.cell V.undef=false:=rfl
theorem V.cells_undef:V.cells V.undef=[V.undef]:=rfl
theorem V.ok1_undef:V.ok1 V.undef=false:=rfl
theorem V.flat_undef:V.flat V.undef=false:=rfl
theorem V.flat1_undef:V.flat1 V.undef=false:=rfl
theorem V.flat2_undef:V.flat2 V.undef=false:=rfl
theorem V.isBox_undef(i:Nat):V.isBox i V.undef=false:=rfl
theorem V.cell_bool(b:Bool):V.cell (V.bool b)=true:=rfl
theorem V.cells_bool(b:Bool):V.cells (V.bool b)=[(V.bool b)]:=rfl
theorem V.ok1_bool(b:Bool):V.ok1 (V.bool b)=true:=rfl
theorem V.flat_bool(b:Bool):V.flat (V.bool b)=true:=rfl
theorem V.flat1_bool(b:Bool):V.flat1 (V.bool b)=true:=rfl
theorem V.flat2_bool(b:Bool):V.flat2 (V.bool b)=true:=rfl
theorem V.isBox_bool(i:Nat)(b:Bool):V.isBox i (V.bool b)=false:=rfl
theorem V.cell_int(k:IntKind)(n:Int):V.cell (V.int k n)=true:=rfl
theorem V.cells_int(k:IntKind)(n:Int):V.cells (V.int k n)=[(V.int k n)]:=rfl
theorem V.ok1_int(k:IntKind)(n:Int):V.ok1 (V.int k n)=true:=rfl
theorem V.flat_int(k:IntKind)(n:Int):V.flat (V.int k n)=true:=rfl
theorem V.flat1_int(k:IntKind)(n:Int):V.flat1 (V.int k n)=true:=rfl
theorem V.flat2_int(k:IntKind)(n:Int):V.flat2 (V.int k n)=true:=rfl
theorem V.isBox_int(i:Nat)(k:IntKind)(n:Int):V.isBox i (V.int k n)=false:=rfl
theorem V.cell_str(s:List UInt8):V.cell (V.str s)=true:=rfl
theorem V.cells_str(s:List UInt8):V.cells (V.str s)=[(V.str s)]:=rfl
theorem V.ok1_str(s:List UInt8):V.ok1 (V.str s)=true:=rfl
theorem V.flat_str(s:List UInt8):V.flat (V.str s)=true:=rfl
theorem V.flat1_str(s:List UInt8):V.flat1 (V.str s)=true:=rfl
theorem V.flat2_str(s:List UInt8):V.flat2 (V.str s)=true:=rfl
theorem V.isBox_str(i:Nat)(s:List UInt8):V.isBox i (V.str s)=false:=rfl
theorem V.cell_nils:V.cell V.nils=true:=rfl
theorem V.cells_nils:V.cells V.nils=[V.nils]:=rfl
theorem V.ok1_nils:V.ok1 V.nils=true:=rfl
theorem V.flat_nils:V.flat V.nils=true:=rfl
theorem V.flat1_nils:V.flat1 V.nils=true:=rfl
theorem V.flat2_nils:V.flat2 V.nils=true:=rfl
theorem V.isBox_nils(i:Nat):V.isBox i V.nils=false:=rfl
theorem V.cell_slice(l o n:Nat):V.cell (V.slice l o n)=true:=rfl
theorem V.cells_slice(l o n:Nat):V.cells (V.slice l o n)=[(V.slice l o n)]:=rfl
theorem V.ok1_slice(l o n:Nat):V.ok1 (V.slice l o n)=true:=rfl
theorem V.flat_slice(l o n:Nat):V.flat (V.slice l o n)=false:=rfl
theorem V.flat1_slice(l o n:Nat):V.flat1 (V.slice l o n)=false:=rfl
theorem V.flat2_slice(l o n:Nat):V.flat2 (V.slice l o n)=false:=rfl
theorem V.isBox_slice(i:Nat)(l o n:Nat):V.isBox i (V.slice l o n)=false:=rfl
theorem V.cell_box(j o:Nat):V.cell (V.box j o)=false:=rfl
theorem V.cells_box(j o:Nat):V.cells (V.box j o)=[(V.box j o)]:=rfl
theorem V.ok1_box(j o:Nat):V.ok1 (V.box j o)=false:=rfl
theorem V.flat_box(j o:Nat):V.flat (V.box j o)=false:=rfl
theorem V.flat1_box(j o:Nat):V.flat1 (V.box j o)=false:=rfl
theorem V.flat2_box(j o:Nat):V.flat2 (V.box j o)=false:=rfl
theorem V.isBox_box(i:Nat)(j o:Nat):V.isBox i (V.box j o)=(i == j):=rfl
theorem V.cell_ptr(l o:Nat):V.cell (V.ptr l o)=true:=rfl
theorem V.cells_ptr(l o:Nat):V.cells (V.ptr l o)=[(V.ptr l o)]:=rfl
theorem V.ok1_ptr(l o:Nat):V.ok1 (V.ptr l o)=true:=rfl
theorem V.flat_ptr(l o:Nat):V.flat (V.ptr l o)=false:=rfl
theorem V.flat1_ptr(l o:Nat):V.flat1 (V.ptr l o)=false:=rfl
theorem V.flat2_ptr(l o:Nat):V.flat2 (V.ptr l o)=false:=rfl
theorem V.isBox_ptr(i:Nat)(l o:Nat):V.isBox i (V.ptr l o)=false:=rfl
theorem V.cell_ifc(b:Bool):V.cell (V.ifc b)=true:=rfl
theorem V.cells_ifc(b:Bool):V.cells (V.ifc b)=[(V.ifc b)]:=rfl
theorem V.ok1_ifc(b:Bool):V.ok1 (V.ifc b)=true:=rfl
theorem V.flat_ifc(b:Bool):V.flat (V.ifc b)=true:=rfl
theorem V.flat1_ifc(b:Bool):V.flat1 (V.ifc b)=true:=rfl
theorem V.flat2_ifc(b:Bool):V.flat2 (V.ifc b)=true:=rfl
theorem V.isBox_ifc(i:Nat)(b:Bool):V.isBox i (V.ifc b)=false:=rfl
theorem V.cell_agg(cs:List V):V.cell (V.agg cs)=false:=rfl
theorem V.cells_agg(cs:List V):V.cells (V.agg cs)=cs:=rfl
theorem V.ok1_agg(cs:List V):V.ok1 (V.agg cs)=cs.all V.cell:=rfl
theorem V.flat_agg(cs:List V):V.flat (V.agg cs)=false:=rfl
theorem V.flat1_agg(cs:List V):V.flat1 (V.agg cs)=cs.all V.flat:=rfl
theorem V.flat2_agg(cs:List V):V.flat2 (V.agg cs)=cs.all V.flat:=rfl
theorem V.isBox_agg(i:Nat)(cs:List V):V.isBox i (V.agg cs)=false:=rfl
theorem V.cell_tup(cs:List V):V.cell (V.tup cs)=false:=rfl
theorem V.cells_tup(cs:List V):V.cells (V.tup cs)=[(V.tup cs)]:=rfl
theorem V.ok1_tup(cs:List V):V.ok1 (V.tup cs)=false:=rfl
theorem V.flat_tup(cs:List V):V.flat (V.tup cs)=false:=rfl
theorem V.flat1_tup(cs:List V):V.flat1 (V.tup cs)=false:=rfl
theorem V.flat2_tup(cs:List V):V.flat2 (V.tup cs)=cs.all V.flat1:=rfl
theorem V.isBox_tup(i:Nat)(cs:List V):V.isBox i (V.tup cs)=false:=rfl
theorem ZHD{f:Zar}{args:List V}{d:Option Nat}{k:St→Prop}{st:St}{t:ZDD k}(p:f args st.hp fun r h=>k (St.put ⟨st.sl,st.bx,h⟩ d r)):ZGK f args d k st t:=p
theorem ZuN {body:ZhZ} {live:List Nat} {k:ZkY} (I:Nat→St→Prop)
 (hs:∀ (m:Nat) (st:St) (next:St→Prop),I m st→(∀ (m':Nat) (st':St),m'<m→I m' { st' with sl:=keep live 0 st'.sl }→next st')→awp body (ZvO next k) st) :
 ∀ (fuel m:Nat) (st:St),m<fuel→I m { st with sl:=keep live 0 st.sl }→ZEi (awp body) live k fuel st
 |0,m,st,h,_=>absurd h (Nat.not_lt_zero m)
 |fuel+1,m,st,h,hI=>hs m _ _ hI fun m' st' hm hI'=>ZuN I hs fuel m' st' (by omega) hI'
theorem ZFp {body:ZhZ} {live:List Nat} {k:ZkY} {st:St} (I:Nat→St→Prop) (m:Nat) (h0:I m { st with sl:=keep live 0 st.sl })
 (hs:∀ (m:Nat) (st:St) (next:St→Prop),I m st→(∀ (m':Nat) (st':St),m'<m→I m' { st' with sl:=keep live 0 st'.sl }→next st')→awp body (ZvO next k) st) :
 awp (.loop live body) k st:=⟨m+1,ZuN I hs (m+1) m st (Nat.lt_succ_self m) h0⟩
theorem Ztw {body:ZhZ} {live:List Nat} {k:ZkY} {st:St} (n:Nat) (I:Nat→St→Prop) (h0:I 0 { st with sl:=keep live 0 st.sl })
 (hs:∀ (i:Nat) (st:St) (next:St→Prop),i≤n→I i st→(∀ st':St,i<n→I (i+1) { st' with sl:=keep live 0 st'.sl }→next st')→awp body (ZvO next k) st) :
 awp (.loop live body) k st:=by
 refine ZFp (fun m st=>∃ i,i≤n∧m=n-i∧I i st) n ⟨0,Nat.zero_le n,rfl,h0⟩ fun m st next hI hn=>?_
 obtain⟨i,hi,hm,hI⟩:=hI
 exact hs i st next hi hI fun st' hlt hI'=>hn (n-(i+1)) st' (by omega) ⟨i+1,by omega,rfl,hI'⟩
attribute [go_sem] Option.map_some ZB6 Zyu ZFv ZAW ZC7 ZE8 Zu8 ZDl ZAD ZsT ZyA Zu6 ZBY Zyl ZCn ZCY ZEM ZzB ZBD eq_self ZCG ZDg ZyH ZGq Zs2 Zri ZD7 ZGT ZCp ZxC Zzh Zye ZEc Zv9 ZBX ZyF Zzz Zxr ZCu ZD6 ZEv ZFs Zz5 Zul ZuL Zyk Zx2 ZDc Zu7 ZvV Zx7 ZzX Zzi ZA1 ZBr ZAF Zzx ZyG ZAZ ZyQ ZAE ZAh ZCq ZDi ZtQ Zyh ZxW Zyg ZGe ZBb ZuQ Zm7 Zhj ZIo ZIs ZHP ZHk put ZfO ZnW splice V.cell_undef V.cells_undef V.ok1_undef V.flat_undef V.flat1_undef V.flat2_undef V.isBox_undef V.cell_bool V.cells_bool V.ok1_bool V.flat_bool V.flat1_bool V.flat2_bool V.isBox_bool V.cell_int V.cells_int V.ok1_int V.flat_int V.flat1_int V.flat2_int V.isBox_int V.cell_str V.cells_str V.ok1_str V.flat_str V.flat1_str V.flat2_str V.isBox_str V.cell_nils V.cells_nils V.ok1_nils V.flat_nils V.flat1_nils V.flat2_nils V.isBox_nils V.cell_slice V.cells_slice V.ok1_slice V.flat_slice V.flat1_slice V.flat2_slice V.isBox_slice V.cell_box V.cells_box V.ok1_box V.flat_box V.flat1_box V.flat2_box V.isBox_box V.cell_ptr V.cells_ptr V.ok1_ptr V.flat_ptr V.flat1_ptr V.flat2_ptr V.isBox_ptr V.cell_ifc V.cells_ifc V.ok1_ifc V.flat_ifc V.flat1_ifc V.flat2_ifc V.isBox_ifc V.cell_agg V.cells_agg V.ok1_agg V.flat_agg V.flat1_agg V.flat2_agg V.isBox_agg V.cell_tup V.cells_tup V.ok1_tup V.flat_tup V.flat1_tup V.flat2_tup V.isBox_tup clearBox keep St.put AOp.clears ZvZ Zyr List.cons_append List.nil_append List.map List.all_cons List.all_nil Bool.and_true Bool.not_true Bool.not_false Bool.true_and Option.bind Option.getD_none Option.getD_some if_true if_false ne_eq not_false_eq_true not_true_eq_false Bool.false_eq_true Bool.true_eq_false List.length_cons List.length_nil List.take List.drop and_true true_and Zkp List.take_length decide_true decide_false Int.lt_irrefl Int.le_refl beq_self_eq_true Nat.zero_add Nat.add_zero Nat.le_refl
section
variable {α:Type}
def mkL(f:α→Int→α×Int):List α→Int→List α×Int
 |[],m=>([],m)
 |a::r,m=>((f a m).1::(mkL f r (f a m).2).1,(mkL f r (f a m).2).2)
def Zds(f:α→Int→α×Int)(l:List α)(m:Int)(i:Nat):List α×Int:=((mkL f (l.take i) m).1++l.drop i,(mkL f (l.take i) m).2)
theorem Zkw(f:α→Int→α×Int):∀ (l:List α) (m:Int),(mkL f l m).1.length=l.length
 |[],_=>rfl
 |a::r,m=>by simp only[mkL,List.length_cons,Zkw f r]
theorem Zr5(f:α→Int→α×Int):∀ (l k:List α) (m:Int),mkL f (l++k) m=((mkL f l m).1++(mkL f k (mkL f l m).2).1,(mkL f k (mkL f l m).2).2)
 |[],k,m=>rfl
 |a::r,k,m=>by simp only[List.cons_append,mkL,Zr5 f r k]
theorem ZjE(f:α→Int→α×Int)(l:List α)(m:Int):Zds f l m 0=(l,m):=rfl
theorem Zhk(f:α→Int→α×Int)(l:List α)(m:Int):Zds f l m l.length=mkL f l m:=by simp[Zds]
theorem Zfr(f:α→Int→α×Int)(l:List α)(m:Int)(i:Nat):(Zds f l m i).1.length=l.length:=by
 simp only[Zds,List.length_append,Zkw,List.length_take,List.length_drop];omega
theorem ZBt(f:α→Int→α×Int)(l:List α)(m:Int)(i:Nat)(d:α):(Zds f l m i).1.getD i d=l.getD i d:=by
 simp only[Zds,List.getD_eq_getElem?_getD]
 rcases Nat.lt_or_ge i l.length with h|h
 · rw[List.getElem?_append_right (by rw[Zkw,List.length_take];omega),Zkw,List.length_take,List.getElem?_drop]
   congr 2;omega
 · rw[List.getElem?_eq_none (by simp[Zkw];omega),List.getElem?_eq_none h]
theorem Zjt(f:α→Int→α×Int)(l:List α)(m:Int){i:Nat}(hi:i<l.length)(d:α) :
 Zds f l m (i+1)=((Zds f l m i).1.set i (f (l.getD i d) (Zds f l m i).2).1,(f (l.getD i d) (Zds f l m i).2).2):=by
 have h1:l.take (i+1)=l.take i++[l.getD i d]:=by
  rw[List.take_add_one,List.getD_eq_getElem?_getD,List.getElem?_eq_getElem hi];rfl
 simp only[Zds,h1,Zr5,mkL]
 refine Prod.ext ?_ rfl
 have h2:(mkL f (l.take i) m).1.length=i:=by rw[Zkw,List.length_take];omega
 simp only
 rw[List.set_append_right _ _ (by omega),h2,Nat.sub_self,List.drop_eq_getElem_cons hi,List.set_cons_zero,List.append_assoc]
 rfl
end
def ZHu:IntKind→Int→Int
 |.i64,m=>m
 |k,m=>k.wrap m
mutual
def CT.mkI:(t:CT)→t.D→Int→t.D×Int
 |.int k,_,m=>(ZHu k m,IntKind.i64.wrap (m+1))
 |.bool,_,m=>((m.tmod 3 == 0:Bool),IntKind.i64.wrap (m+1))
 |.str,s,m=>(s,m)
 |.ifc,b,m=>(b,m)
 |.sl r,l,m=>mkL (RT.mkI r) l m
def RT.mkI:(r:RT)→r.D→Int→r.D×Int
 |.one t,x,m=>CT.mkI t x m
 |.cons t r,x,m=>(((CT.mkI t x.1 m).1,(RT.mkI r x.2 (CT.mkI t x.1 m).2).1),(RT.mkI r x.2 (CT.mkI t x.1 m).2).2)
end
def CT.mkT:(t:CT)→t.D→Int→t.D×Int
 |.sl r,l,m=>mkL (RT.mkI r) l m
 |_,x,m=>(x,m)
def RT.mkT:(r:RT)→r.D→Int→r.D×Int
 |.one t,x,m=>CT.mkT t x m
 |.cons t r,x,m=>(((CT.mkT t x.1 m).1,(RT.mkT r x.2 (CT.mkT t x.1 m).2).1),(RT.mkT r x.2 (CT.mkT t x.1 m).2).2)
mutual
def CT.wl:(t:CT)→t.D→Prop
 |.sl r,l=>l.length≤9223372036854775807∧∀ a:r.D,List.Mem a l→RT.wl r a
 |_,_=>True
def RT.wl:(r:RT)→r.D→Prop
 |.one t,x=>CT.wl t x
 |.cons t r,x=>CT.wl t x.1∧RT.wl r x.2
end
section
variable {h h':Zax} {ω:Nat→W} {hd:Hd} {p:List Nat}
abbrev Zp7 (ω:Nat→W) (hd:Hd) (p:List Nat):Nat→Prop:=fun l=>∃ q,ω l= .own hd (p++q)
abbrev MS (h:Zax) (ω:Nat→W) (hd:Hd) (p:List Nat) (r:RT) (l:List r.D) (u:V):Prop:=RC h ω (.inn hd p) (.sl .own (l.map r.enc)) u
theorem MS.len{r:RT}{l:List r.D}{u:V}(M:MS h ω hd p r l u):ZC8 u=some (.int .i64 (l.length:Int)):=by
 unfold MS at M
 generalize he:l.map r.enc=es at M
 have hl:l.length=es.length:=by rw[← he,List.length_map]
 cases M with
 |nil=>rw[hl];rfl
 |sl _ _ _ l o n b h1 hk hc hne hn hw hle hr=>rw[hl,← hn];rfl
theorem MS.ok1{r:RT}{l:List r.D}{u:V}(M:MS h ω hd p r l u):u.ok1=true∧u.cell=true:=by
 unfold MS at M
 generalize l.map r.enc=es at M
 cases M<;>exact⟨rfl,rfl⟩
theorem MS.slice{r:RT}{l:List r.D}{u:V}(M:MS h ω hd p r l u)(hl:0<l.length):∃ b,u= .slice b 0 l.length:=by
 unfold MS at M
 generalize he:l.map r.enc=es at M
 have hl':l.length=es.length:=by rw[← he,List.length_map]
 cases M with
 |nil=>rw[hl'] at hl;simp at hl
 | sl _ _ _ b o n bk h1 hk hc hne hn hw hle hr=>
   obtain⟨_,rfl,_⟩:=hc
   exact⟨b,by rw[hl',hn]⟩
theorem MS.upd {r:RT} {l:List r.D} {b n:Nat} (M:MS h ω hd p r l (.slice b 0 n)) {i off:Nat} (hi:i<l.length) (hoff:off<r.w) {y:r.D} {c:PV} (hy:r.enc y=Zap (r.enc (l.getD i r.dflt)) off [c])
 {bk:Blk} (h1:h[b]?=some bk) {cs':List V} (h1':h'[b]?=some { bk with cs:=cs' }) (hcl:cs'.length=bk.cs.length) {v:V} (hcs:∀ k,get cs' k=if k=i*r.w+off then v else get bk.cs k)
 (hO:∀ x,x≠b→(∀ q,ω x≠.own hd (p++(i*r.w+off)::q))→h'[x]?=h[x]?) (hc:RC h' ω (.inn hd (p++[i*r.w+off])) c v):MS h' ω hd p r (l.set i y) (.slice b 0 n):=by
 unfold MS at M ⊢
 rw[← Zms,hy,← Zhr r l i hi]
 generalize he:l.map r.enc=es at M
 have hl':l.length=es.length:=by rw[← he,List.length_map]
 have hwr:∀ e∈es,e.length=r.w:=by rw[← he];intro e h;obtain⟨x,_,rfl⟩:=List.mem_map.1 h;exact Zn0 r x
 have hi':i<es.length:=by rw[← hl'];exact hi
 cases M with
 | sl _ _ _ _ o _ bk' h1b hk hch hne hn hw hle hr=>
   rw[h1] at h1b;cases h1b
   have hbw:bk.w=r.w:=by rw[← hw _ (List.getElem_mem (l:=es) hi')];exact hwr _ (List.getElem_mem hi')
   have hel:=Zl9 hw hi'
   obtain⟨hb1,_,hb3⟩:=hch
   refine RC.sl _ .own _ b 0 n { bk with cs:=cs' } h1' hk ⟨hb1,rfl,hb3⟩ (fun _ _ h=>by have:=congrArg List.length h;rw[ZdB] at this;simp only[List.length_nil] at this;omega) (by rw[ZdB];exact hn) (ZuH hw (by rw[Zb9];exact hel)) (by rw[ZdB];simp only[hcl];exact hle) fun k hk'=>?_
   simp only[ZdB] at hk'
   rw[ZmL hw hi' (by rw[hbw];simp only[List.length_cons,List.length_nil];omega) k hk',Nat.zero_add,hcs]
   simp only[List.length_cons,List.length_nil,hbw]
   by_cases hkk:k=i*r.w+off
   · subst hkk
     rw[if_pos ⟨by omega,by omega⟩,if_pos rfl,Nat.sub_self]
     exact hc
   · rw[if_neg (by omega),if_neg hkk]
     have r0:=hr k hk'
     rw[Nat.zero_add] at r0
     refine r0.inn0 (f:=Ren.id) (T:=fun x=>x=b∨∃ q,ω x= .own hd (p++(i*r.w+off)::q)) ⟨fun x e=>⟨e,hO x (by rintro rfl;rw[hb1] at e;cases e) (fun q e'=>by rw[e] at e';cases e')⟩,fun x a q e hn=>⟨by rw[e];rfl,hO x (fun h=>hn (.inl h)) (fun q' e'=>hn (.inr ⟨q',e'⟩))⟩⟩ (fun x q e hT=>?_) (fun q=>rfl)
     rcases hT with rfl|⟨q',e'⟩
     · rw[hb1] at e
       simp only[W.own.injEq] at e
       have:=congrArg List.length e.2
       simp at this
     · rw[e] at e'
       simp only[W.own.injEq,List.append_assoc,List.cons_append,List.nil_append,List.append_cancel_left_eq,List.cons.injEq] at e'
       exact hkk e'.2.1
theorem MS.store {r:RT} {l:List r.D} {b n:Nat} (M:MS h ω hd p r l (.slice b 0 n)) {i off:Nat} (hi:i<l.length) (hoff:off<r.w) {v:V} (hv:v.flat=true) (hvc:v.cells=[v]) {y:r.D} (hy:r.enc y=Zap (r.enc (l.getD i r.dflt)) off [.fl v])
 (hinj:∀ l l' a q,ω l= .own a q→ω l'= .own a q→l=l') (bx:List (List V)):∃ h',Zeb bx h 1 (.ptr b (i*r.w+off)) v=some (.undef,bx,h')∧Only (Zp7 ω hd p) h h'∧MS h' ω hd p r (l.set i y) (.slice b 0 n):=by
 have M0:=M
 unfold MS at M0
 generalize he:l.map r.enc=es at M0
 have hl':l.length=es.length:=by rw[← he,List.length_map]
 have hwr:∀ e∈es,e.length=r.w:=by rw[← he];intro e h;obtain⟨x,_,rfl⟩:=List.mem_map.1 h;exact Zn0 r x
 have hi':i<es.length:=by rw[← hl'];exact hi
 cases M0 with
 | sl _ _ _ _ o _ bk h1 hk hch hne hn hw hle hr=>
   have hbw:bk.w=r.w:=by rw[← hw _ (List.getElem_mem (l:=es) hi')];exact hwr _ (List.getElem_mem hi')
   obtain⟨hb1,_,hb3⟩:=hch
   have hlt:i*r.w+off<bk.cs.length:=by
    have:(i+1)*r.w≤es.length*r.w:=Nat.mul_le_mul_right _ hi'
    rw[Nat.add_mul,Nat.one_mul] at this
    rw[hbw] at hle
    omega
   have hb:b<h.length:=Zbc h1
   have hset:∀ k,(h.set b { bk with cs:=splice bk.cs (i*r.w+off) [v] })[k]?=if k=b then some { bk with cs:=splice bk.cs (i*r.w+off) [v] } else h[k]?:=by
    intro k
    rw[List.getElem?_set]
    by_cases hk:b=k
    · subst hk;simp[hb]
    · rw[if_neg hk,if_neg (fun h'=>hk h'.symm)]
   have hvcell:[v].all V.cell=true:=by
    cases v<;>first|rfl|(simp[V.flat] at hv)
   refine⟨h.set b { bk with cs:=splice bk.cs (i*r.w+off) [v] },?_,⟨by simp,fun x hx=>?_,fun x bx' hx=>?_⟩,M.upd hi hoff hy h1 (cs':=splice bk.cs (i*r.w+off) [v]) (v:=v) (by rw[hset,if_pos rfl]) (Zcp _ _ _) (fun k=>?_) (fun x hx _=>by rw[hset,if_neg hx]) (.v _ _ hv)⟩
   · have hwr':wr h b (i*r.w+off) [v]=some (h.set b { bk with cs:=splice bk.cs (i*r.w+off) [v] }):=by
      rw[wr,h1];simp only;rw[if_pos ⟨hb3,by simp only[List.length_cons,List.length_nil];omega⟩]
     simp only[Zeb,hvc,hvcell,List.length_cons,List.length_nil,hwr']
     rfl
   · rw[hset,if_neg]
     rintro rfl
     exact hx ⟨[],by rw[hb1];simp⟩
   · by_cases hxb:x=b
     · subst hxb
       rw[h1] at hx;cases hx
       exact⟨{ bk with cs:=splice bk.cs (i*r.w+off) [v] },by rw[hset,if_pos rfl],rfl,rfl,Zcp _ _ _⟩
     · exact⟨bx',by rw[hset,if_neg hxb];exact hx,rfl,rfl,rfl⟩
   · rw[ZiQ _ _ _ _ (by simp only[List.length_cons,List.length_nil];omega)]
     simp only[List.length_cons,List.length_nil]
     by_cases hkk:k=i*r.w+off
     · subst hkk;rw[if_pos ⟨by omega,by omega⟩,if_pos rfl,Nat.sub_self];rfl
     · rw[if_neg (by omega),if_neg hkk]
theorem MS.load{r:RT}{l:List r.D}{b n:Nat}(M:MS h ω hd p r l (.slice b 0 n)){i off:Nat}(hi:i<l.length)(hoff:off<r.w){r':RT}{l':List r'.D}(hx:Zag (r.enc (l.getD i r.dflt)) off= .sl .own (l'.map r'.enc)) :
 ∃ u,ZqU h none (.ptr b (i*r.w+off))=some u∧MS h ω hd (p++[i*r.w+off]) r' l' u∧∃ bk,h[b]?=some bk∧get bk.cs (i*r.w+off)=u:=by
 have M0:=M
 unfold MS at M0
 rw[← Zhr r l i hi] at hx
 generalize he:l.map r.enc=es at M0 hx
 have hl':l.length=es.length:=by rw[← he,List.length_map]
 have hwr:∀ e∈es,e.length=r.w:=by rw[← he];intro e h;obtain⟨x,_,rfl⟩:=List.mem_map.1 h;exact Zn0 r x
 have hi':i<es.length:=by rw[← hl'];exact hi
 cases M0 with
 | sl _ _ _ _ o _ bk h1 hk hch hne hn hw hle hr=>
   have hbw:bk.w=r.w:=by rw[← hw _ (List.getElem_mem (l:=es) hi')];exact hwr _ (List.getElem_mem hi')
   have hm:(i+1)*r.w≤es.length*r.w:=Nat.mul_le_mul_right _ hi'
   rw[Nat.add_mul,Nat.one_mul] at hm
   have hlt:i*r.w+off<bk.cs.length:=by rw[hbw] at hle;omega
   have r0:=hr (i*r.w+off) (by rw[hbw];omega)
   rw[Nat.zero_add] at r0
   have hf:Zag es.flatten (i*r.w+off)=Zag (elt es i) off:=Zf1 (w:=r.w) (by rw[← hbw];exact hw) i off hoff
   rw[hf,hx] at r0
   refine⟨get bk.cs (i*r.w+off),?_,r0,bk,h1,rfl⟩
   have e1:rd h b (i*r.w+off) 1=some ((bk.cs.drop (i*r.w+off)).take 1):=by
    rw[rd,h1];simp only;rw[if_pos ⟨hk,by omega⟩]
   show (rd h b (i*r.w+off) 1).bind (ZgL none)=_
   rw[e1]
   rw[List.drop_eq_getElem_cons hlt]
   simp only[List.take_succ_cons,List.take_zero,Option.bind_some,ZgL,Zex,List.getElem?_eq_getElem hlt]
   rfl
theorem MS.sub {r:RT} {l:List r.D} {b n:Nat} (M:MS h ω hd p r l (.slice b 0 n)) {i off:Nat} (hi:i<l.length) (hoff:off<r.w) {u:V} {bk:Blk} (h1:h[b]?=some bk) (hu:get bk.cs (i*r.w+off)=u)
 (hO:Only (Zp7 ω hd (p++[i*r.w+off])) h h') {r':RT} {l':List r'.D} (hr:MS h' ω hd (p++[i*r.w+off]) r' l' u) {y:r.D} (hy:r.enc y=Zap (r.enc (l.getD i r.dflt)) off [.sl .own (l'.map r'.enc)]) :
 Only (Zp7 ω hd p) h h'∧MS h' ω hd p r (l.set i y) (.slice b 0 n):=by
 have hb1:ω b= .own hd p:=by
  have M0:=M
  unfold MS at M0
  generalize l.map r.enc=es at M0
  cases M0 with
  |sl _ _ _ _ o _ bk h1 hk hch hne hn hw hle hr=>exact hch.1
 refine⟨hO.mono fun x ⟨q,e⟩=>⟨(i*r.w+off)::q,by rw[e];simp⟩,M.upd hi hoff hy h1 (cs':=bk.cs) (v:=u) ?_ rfl (fun k=>?_) (fun x _ hx=>hO.off x (fun⟨q,e⟩=>hx q (by rw[e];simp))) hr⟩
 · rw[hO.off b]
   · exact h1
   · rintro⟨q,e⟩
     rw[hb1] at e
     simp only[W.own.injEq] at e
     have:=congrArg List.length e.2
     simp at this
 · split
   · rename_i hk;rw[hk,hu]
   · rfl
theorem MS.frame{r:RT}{l:List r.D}{u:V}(M:MS h ω hd p r l u){i:Nat}(hi:i<l.length):MS h ω hd p r (l.set i (l.getD i r.dflt)) u:=by
 have:l.set i (l.getD i r.dflt)=l:=by
  rw[List.getD_eq_getElem?_getD,List.getElem?_eq_getElem hi]
  simp
 rw[this];exact M
theorem Znz{r:RT}{l:List r.D}{i:Nat}(hi:i<l.length)(x:r.D):(l.set i x).getD i r.dflt=x:=by
 rw[List.getD_eq_getElem?_getD,List.getElem?_set_self (by simpa using hi)];rfl
theorem MS.st {r:RT} {l:List r.D} {b n i:Nat} {x:r.D} (M:MS h ω hd p r (l.set i x) (.slice b 0 n)) (hi:i<l.length) {off:Nat} (hoff:off<r.w) {v:V} (hv:v.flat=true) (hvc:v.cells=[v]) {y:r.D} (hy:r.enc y=Zap (r.enc x) off [.fl v])
 (hinj:∀ l l' a q,ω l= .own a q→ω l'= .own a q→l=l') (bx:List (List V)):∃ h',Zeb bx h 1 (.ptr b (i*r.w+off)) v=some (.undef,bx,h')∧Only (Zp7 ω hd p) h h'∧MS h' ω hd p r (l.set i y) (.slice b 0 n):=by
 obtain⟨h',e1,e2,e3⟩:=M.store (i:=i) (off:=off) (by simpa using hi) hoff hv hvc (y:=y) (by rw[Znz hi];exact hy) hinj bx
 rw[List.set_set] at e3
 exact⟨h',e1,e2,e3⟩
theorem MS.sb{r:RT}{l:List r.D}{b n i:Nat}{x:r.D}(M:MS h ω hd p r (l.set i x) (.slice b 0 n))(hi:i<l.length){off:Nat}(hoff:off<r.w){r':RT}{l':List r'.D}(hx:Zag (r.enc x) off= .sl .own (l'.map r'.enc)) :
 ∃ u,ZqU h none (.ptr b (i*r.w+off))=some u∧MS h ω hd (p++[i*r.w+off]) r' l' u ∧
   ∀ (h':Zax) (l'':List r'.D) (y:r.D),Only (Zp7 ω hd (p++[i*r.w+off])) h h'→MS h' ω hd (p++[i*r.w+off]) r' l'' u→r.enc y=Zap (r.enc x) off [.sl .own (l''.map r'.enc)]→Only (Zp7 ω hd p) h h'∧MS h' ω hd p r (l.set i y) (.slice b 0 n):=by
 obtain⟨u,e1,e2,bk,e3,e4⟩:=M.load (i:=i) (off:=off) (by simpa using hi) hoff (r':=r') (l':=l') (by rw[Znz hi];exact hx)
 refine⟨u,e1,e2,fun h' l'' y hO hM hy=>?_⟩
 obtain⟨k1,k2⟩:=M.sub (i:=i) (off:=off) (by simpa using hi) hoff e3 e4 hO hM (y:=y) (by rw[Znz hi];exact hy)
 rw[List.set_set] at k2
 exact⟨k1,k2⟩
theorem ZwZ{r:RT}{l:List r.D}(hw:CT.wl (.sl r) l){i:Nat}(hi:i<l.length):RT.wl r (l.getD i r.dflt):=by
 rw[List.getD_eq_getElem?_getD,List.getElem?_eq_getElem hi]
 exact hw.2 _ (List.getElem_mem hi)
theorem RC.flat1{H:Zax}{m:Md}{x u:V}(r:RC H ω m (.fl x) u)(hx:x≠.undef):u=x:=by
 cases r with
 |undef=>exact absurd rfl hx
 |v=>rfl
theorem ZA8{x:Int}(h:-9223372036854775808≤x∧x≤9223372036854775807):IntKind.i64.wrap x=x:=by
 rw[IntKind.wrap_i64]
 omega
theorem ZtB{b n w:Nat}{i:Nat}(hi:i<n){k:IntKind}:Zxp w (.slice b 0 n) (.int k (i:Int))=some (.ptr b (i*w)):=by
 show (if 0≤(i:Int)∧(i:Int)<n then some (V.ptr b (0+(i:Int).toNat*w)) else none)=_
 rw[if_pos (by omega),Int.toNat_natCast,Nat.zero_add]
theorem Zll{r:RT}{l:List r.D}{m:Int}{i:Nat}(hi:i<l.length){L:List r.D}{k:Int}(e:Zds r.mkI l m i=(L,k)):L.length=l.length∧Zds r.mkI l m (i+1)=(L.set i (r.mkI (L.getD i r.dflt) k).1,(r.mkI (L.getD i r.dflt) k).2)∧L.getD i r.dflt=l.getD i r.dflt:=by
 have h1:=Zfr r.mkI l m i
 have h2:=ZBt r.mkI l m i r.dflt
 rw[e] at h1 h2
 exact⟨h1,by rw[Zjt r.mkI l m hi r.dflt,e,← h2],h2⟩
end
def SlC(s:Zar)(r:RT):Prop:=∀ (h:Zax) (ω:Nat→W) (hd:Hd) (p:List Nat) (l:List r.D) (u:V) (m:Int) (Q:V→Zax→Prop),CT.wl (.sl r) l→(∀ l l' a q,ω l= .own a q→ω l'= .own a q→l=l')→MS h ω hd p r l u →
 (∀ h',Only (Zp7 ω hd p) h h'→MS h' ω hd p r (mkL r.mkI l m).1 u→Q (.int .i64 (mkL r.mkI l m).2) h')→s [u,.int .i64 m] h Q
def ZG9(r:RT):DMk:=⟨.one (.sl r),false,fun l=>CT.wl (.sl r) l,fun l m=>mkL r.mkI l m,false⟩
def ZIt(r:RT):DMk:=⟨r,true,fun x=>RT.wl r x,fun x m=>r.mkT x m,false⟩
theorem ZFD(r:RT)(m:Int):(ZIt r).P.rv m= .int .i64 m:=rfl
attribute [go_sem] ZFD
theorem SlC.sound{s:Zar}{r:RT}(hs:SlC s r):ZlQ s (ZG9 r).P:=by
 rintro h ω hd P b olds us u m K Q hinj hu hl hr ⟨x,rfl,hok,hK⟩ hQ
 have hu:us=[u]:=hu
 subst hu
 have h0:=hr 0 (by show 0<1;omega)
 refine hs h ω hd (P++[b]) x u m Q hok hinj h0 fun h' hO hM=>?_
 refine hQ _ _ h' hK rfl (hO.mono fun l ⟨q,e⟩=>⟨0,_,q,by show 0<1;omega,rfl,by rw[e];simp⟩) fun c hc=>?_
 have:c=0:=by have:c<1:=hc;omega
 subst this
 exact hM
theorem ZaC(a:Bool):bNot a=!a:=by simp only[Zr2]
theorem ZaI(a b:Bool):bAnd a b=(a&&b):=by simp only[Zz7]
theorem ZhG(a b:Bool):bOr a b=(a||b):=by simp only[ZGh]
theorem Zjj(a b:Bool):bIff a b=(a == b):=by simp only[ZDp]
theorem Zep{α:Type}(c:Bool)(x y:α):bSel c x y=if c=true then x else y:=by cases c<;>simp[Zjx,Zj9]
theorem Zff(a b:Int):iEq a b=decide (a=b):=by
 rw[ZCl];by_cases h:a=b<;>simp[h]
theorem Zdz(a b:Int):iNe a b=!decide (a=b):=by
 rw[ZGb];by_cases h:a=b<;>simp[h]
theorem ZaA(a b:Int):iLt a b=decide (a<b):=by simp only[ZGr]
theorem Zl2(a b:Int):iLe a b=decide (a≤b):=by simp only[ZG6]
theorem Zug(a b:Int):iGt a b=decide (b<a):=by simp only[ZGV]
theorem ZqH(a b:Int):iGe a b=decide (b≤a):=by simp only[ZGP]
theorem ZGu(a b:List UInt8):sEq a b=(a == b):=by simp only[ZG0]
theorem ZGN(a b:List UInt8):sNe a b=!(a == b):=by simp only[ZFR]
section
variable {α:Type}
theorem Zan(l:List α):lLen l=(l.length:Int):=by simp only[ZAr]
theorem Zuz(l:List α):lN l=l.length:=by simp only[ZF0]
theorem ZbJ(l:List α)(j:Nat)(d:α):lGet l j d=l.getD j d:=by simp only[Zsj]
theorem ZqS(l:List α)(j:Nat)(x:α):lSet l j x=l.set j x:=by simp only[ZtM]
theorem Zk1(l:List α)(a b:Nat):lSub l a b=(l.drop a).take (b-a):=by simp only[ZBk]
theorem Zxm(l:List α)(n:Nat):lTake l n=l.take n:=by simp only[ZvR]
theorem ZcT(l m:List α):lApp l m=l++m:=by simp only[Zpx]
theorem ZBB(n:Int)(x:α):lRep n x=List.replicate n.toNat x:=by simp only[ZDW]
theorem ZaK(a:Int):iNat a=a.toNat:=by simp only[ZAs]
theorem ZEA(a b:List UInt8):sAdd a b=a++b:=by simp only[ZDz]
end
def Zo0(n:Int):Prop:=-9223372036854775808≤n∧n≤9223372036854775807
theorem wrap_i64{n:Int}(h:Zo0 n):IntKind.i64.wrap n=n:=by
 obtain⟨h1,h2⟩:=h
 show (if decide (n % 18446744073709551616≥9223372036854775808)=true then n % 18446744073709551616-18446744073709551616 else n % 18446744073709551616)=n
 simp only[decide_eq_true_eq]
 split<;>omega
theorem Zby{a b:Int}(h:Zo0 (a+b)):iAdd .i64 a b=a+b:=by rw[ZAz];exact wrap_i64 h
theorem ZwM{a b:Int}(h:Zo0 (a-b)):iSub .i64 a b=a-b:=by rw[ZDq];exact wrap_i64 h
section
variable {X:Type} {c:X→Bool} {f:X→X} {p:X→Prop}
theorem Zlm(I:X→Prop)(m:X→Nat)(h:∀ x,I x→p x∧(c x=true→I (f x)∧m (f x)<m x)){x0:X}(h0:I x0) :
 LoopOk c f p x0∧I (ZaV c f x0)∧c (ZaV c f x0)=false:=by
 have go:∀ (n:Nat) (x:X),m x<n→I x→∃ y,LoopTo c f p x y∧I y∧c y=false:=by
  intro n
  induction n with
  |zero=>intro x hm;exact absurd hm (Nat.not_lt_zero _)
  | succ n ih=>
    intro x hm hI
    obtain⟨h1,h2⟩:=h x hI
    cases hc:c x with
    |false=>exact⟨x,.stop h1 hc,hI,hc⟩
    | true=>
      obtain⟨h3,h4⟩:=h2 hc
      obtain⟨y,h5,h6,h7⟩:=ih (f x) (by omega) h3
      exact⟨y,.go h1 hc h5,h6,h7⟩
 obtain⟨y,h1,h2,h3⟩:=go _ x0 (Nat.lt_succ_self _) h0
 rw[h1.val]
 exact⟨⟨y,h1⟩,h2,h3⟩
theorem ZnE(I:X→Prop)(m:X→Nat)(h:∀ x,I x→c x=true→I (f x)∧m (f x)<m x){x0:X}(h0:I x0):I (ZaV c f x0)∧c (ZaV c f x0)=false:=
 (Zlm (p:=fun _=>True) I m (fun x hx=>⟨trivial,h x hx⟩) h0).2
theorem Zlr(n:Nat)(st:Nat→X){x0:X}(h0:st 0=x0)(hs:∀ k,k<n→p (st k)∧c (st k)=true∧f (st k)=st (k+1))(he:p (st n)∧c (st n)=false):LoopOk c f p x0∧ZaV c f x0=st n:=by
 have go:∀ k,k≤n→LoopTo c f p (st (n-k)) (st n):=by
  intro k
  induction k with
  |zero=>intro _;exact .stop he.1 he.2
  | succ k ih=>
    intro hk
    obtain⟨h1,h2,h3⟩:=hs (n-(k+1)) (by omega)
    refine .go h1 h2 ?_
    rw[h3,show n-(k+1)+1=n-k by omega]
    exact ih (by omega)
 have:=go n (Nat.le_refl _)
 rw[Nat.sub_self,h0] at this
 exact⟨⟨_,this⟩,this.val⟩
end
def Zcu(t:Nat→Bool):Nat→Nat→Nat
 |0,i=>i
 |k+1,i=>if t i then i else Zcu t k (i+1)
theorem ZgO(t:Nat→Bool):∀ k i,i≤Zcu t k i∧Zcu t k i≤i+k
 |0,i=>⟨Nat.le_refl _,Nat.le_refl _⟩
 | k+1,i=>by
   unfold Zcu
   split
   · omega
   · have:=ZgO t k (i+1);omega
theorem Zik(t:Nat→Bool):∀ k i,Zcu t k i<i+k→t (Zcu t k i)=true
 |0,i,h=>by unfold Zcu at h;omega
 | k + 1,i,h=>by
   unfold Zcu at h ⊢
   split
   · rename_i ht;exact ht
   · rename_i ht
     rw[if_neg ht] at h
     exact Zik t k (i+1) (by omega)
theorem Zju(t:Nat→Bool):∀ k i j,i≤j→j<Zcu t k i→t j=false
 |0,i,j,h,h'=>by unfold Zcu at h';omega
 | k + 1,i,j,h,h'=>by
   unfold Zcu at h'
   split at h'
   · omega
   · rename_i ht
     by_cases hj:j=i
     · subst hj;simpa using ht
     · exact Zju t k (i+1) j (by omega) h'
theorem ZtU{c:Int→Bool}{f:Int→Int}{p:Int→Prop}(n:Nat)(t:Nat→Bool)(hn:(n:Int)≤9223372036854775806)(hc:∀ i:Nat,i≤n→c i=(decide (i<n)&&!t i))(hf:∀ i:Nat,i<n→f i=iAdd .i64 i 1)(hp:∀ i:Nat,i≤n→p i) :
 LoopOk c f p 0∧ZaV c f 0=(Zcu t n 0:Nat):=by
 have hle:=ZgO t n 0
 refine Zlr (Zcu t n 0) (fun k=>(k:Int)) rfl (fun k hk=>?_) ⟨hp _ (by omega),?_⟩
 · have hk':k<n:=by omega
   refine⟨hp k (by omega),?_,?_⟩
   · rw[hc k (by omega),Zju t n 0 k (by omega) hk];simp[hk']
   · rw[hf k hk',Zby (by unfold Zo0;omega)];omega
 · rw[hc _ (by omega)]
   by_cases h:Zcu t n 0<n
   · rw[Zik t n 0 (by omega)];simp
   · simp[h]
theorem firstAt_all{t:Nat→Bool}{n:Nat}:Zcu t n 0=n↔∀ i,i<n→t i=false:=by
 constructor
 · intro h i hi;exact Zju t n 0 i (by omega) (by omega)
 · intro h
   have hle:=ZgO t n 0
   rcases Nat.lt_or_ge (Zcu t n 0) n with h1|h1
   · have:=Zik t n 0 (by omega);rw[h _ h1] at this;cases this
   · omega
section
variable {α:Type}
theorem ZCz(x:List α)(k:Nat)(hk:k<x.length)(d:α)(l:List α)(hl:l.length=x.length)(h:l.take k=x.take k):(l.set k (x.getD k d)).take (k+1)=x.take (k+1):=by
 rw[List.take_add_one,List.take_add_one,List.take_set]
 have:(l.take k).set k (x.getD k d)=l.take k:=by
  apply List.set_eq_of_length_le;rw[List.length_take];exact Nat.min_le_left _ _
 rw[this,h]
 congr 1
 rw[List.getElem?_set_self (by omega),List.getD_eq_getElem?_getD,List.getElem?_eq_getElem hk]
 simp
end
theorem Zzd{α:Type}{c:Int→Bool}{f:Int→Int}{p:Int→Prop}(a b:List α)(d:α)(ne:Nat→Bool)(hl:a.length=b.length)(hne:∀ i,i<a.length→(ne i=false↔a.getD i d=b.getD i d))(hn:(a.length:Int)≤9223372036854775806)(hc:∀ i:Nat,i≤a.length→c i=(decide (i<a.length)&&!ne i))(hf:∀ i:Nat,i<a.length→f i=iAdd .i64 i 1)(hp:∀ i:Nat,i≤a.length→p i) :
 LoopOk c f p 0∧(ZaV c f 0<(a.length:Int)↔a≠b):=by
 obtain⟨h1,h2⟩:=ZtU a.length ne hn hc hf hp
 refine⟨h1,?_⟩
 rw[h2]
 have hle:=ZgO ne a.length 0
 constructor
 · intro h hab
   subst hab
   have:=Zik ne a.length 0 (by omega)
   rw[(hne _ (by omega)).2 rfl] at this;cases this
 · intro h
   rcases Nat.lt_or_ge (Zcu ne a.length 0) a.length with h3|h3
   · omega
   · exfalso;apply h
     have h4:Zcu ne a.length 0=a.length:=by omega
     rw[firstAt_all] at h4
     refine List.ext_getElem hl fun i hi hi'=>?_
     have:=(hne i hi).1 (h4 i hi)
     rw[List.getD_eq_getElem?_getD,List.getD_eq_getElem?_getD,List.getElem?_eq_getElem hi,List.getElem?_eq_getElem hi'] at this
     simpa using this
theorem ZGE{c:Int→Bool}{f:Int→Int}(n:Nat)(t:Nat→Bool)(hn:(n:Int)≤9223372036854775806)(hc:∀ i:Nat,i≤n→c i=(decide (i<n)&&!t i))(hf:∀ i:Nat,i<n→f i=iAdd .i64 i 1):ZaV c f 0=(Zcu t n 0:Nat):=(ZtU (p:=fun _=>True) n t hn hc hf (fun _ _=>trivial)).2
theorem ZBS{α:Type}{c:Int→Bool}{f:Int→Int}{p:Int→Prop}(a b:List α)(d:α)(ne:Nat→Bool)(hl:a.length=b.length)(hne:∀ i,i<a.length→(ne i=false↔a.getD i d=b.getD i d))(hn:(a.length:Int)≤9223372036854775806)(hc:∀ i:Nat,i≤a.length→c i=(decide (i<a.length)&&!ne i))(hf:∀ i:Nat,i<a.length→f i=iAdd .i64 i 1)(hp:∀ i:Nat,i≤a.length→p i):LoopOk c f p 0:=(Zzd a b d ne hl hne hn hc hf hp).1
theorem ZHa{α:Type}{c:Int→Bool}{f:Int→Int}(a b:List α)(d:α)(ne:Nat→Bool)(hl:a.length=b.length)(hne:∀ i,i<a.length→(ne i=false↔a.getD i d=b.getD i d))(hn:(a.length:Int)≤9223372036854775806)(hc:∀ i:Nat,i≤a.length→c i=(decide (i<a.length)&&!ne i))(hf:∀ i:Nat,i<a.length→f i=iAdd .i64 i 1):ZaV c f 0<(a.length:Int)↔a≠b:=(Zzd (p:=fun _=>True) a b d ne hl hne hn hc hf (fun _ _=>trivial)).2
theorem Zsk {α:Type} {c:List α×Int→Bool} {f:List α×Int→List α×Int} {p:List α×Int→Prop} (x:List α) (z d:α) (hn:x.length≤1048576)
 (hc:∀ st,c st=iLt st.2 (lLen x)) (hf:∀ (l:List α) (i:Nat),i<x.length→f (l,(i:Int))=(l.set i (x.getD i d),iAdd .i64 i 1))
 (hp:∀ (l:List α) (i:Nat),l.length=x.length→i≤x.length→p (l,i)) :
 LoopOk c f p (lRep (lLen x) z,0)∧(ZaV c f (lRep (lLen x) z,0)).1=x:=by
 have h:=Zlm (c:=c) (f:=f) (p:=p) (fun st=>st.1.length=x.length∧∃ i:Nat,st.2=i∧i≤x.length∧st.1.take i=x.take i) (fun st=>x.length-st.2.toNat) (fun st hI=>?_) (x0:=(lRep (lLen x) z,0)) ⟨by simp[ZBB,Zan],0,rfl,Nat.zero_le _,by simp⟩
 · obtain⟨h1,⟨h2,i,h3,h4,h5⟩,h6⟩:=h
   refine⟨h1,?_⟩
   rw[hc,h3,ZaA,Zan,decide_eq_false_iff_not] at h6
   have:i=x.length:=by omega
   subst this
   rw[List.take_length,← h2,List.take_length] at h5
   exact h5
 · obtain⟨l,j⟩:=st
   obtain⟨h2,i,h3,h4,h5⟩:=hI
   simp only at h2 h3 h5
   subst h3
   refine⟨hp l i h2 h4,fun hcc=>?_⟩
   rw[hc,ZaA,Zan,decide_eq_true_eq] at hcc
   simp only at hcc
   have hi:i<x.length:=by omega
   rw[hf l i hi]
   simp only[Int.toNat_natCast]
   rw[Zby (by unfold Zo0;omega)]
   refine⟨⟨by simp[h2],i+1,by omega,by omega,ZCz x i hi d l h2 h5⟩,by omega⟩
theorem Zxi {α:Type} {c:List α×Int→Bool} {f:List α×Int→List α×Int} {p:List α×Int→Prop} (x:List α) (z d:α) (hn:x.length≤1048576)
 (hc:∀ st,c st=iLt st.2 (lLen x)) (hf:∀ (l:List α) (i:Nat),i<x.length→f (l,(i:Int))=(l.set i (x.getD i d),iAdd .i64 i 1))
 (hp:∀ (l:List α) (i:Nat),l.length=x.length→i≤x.length→p (l,i)):LoopOk c f p (lRep (lLen x) z,0):=(Zsk x z d hn hc hf hp).1
theorem Zzq {α:Type} {c:List α×Int→Bool} {f:List α×Int→List α×Int} (x:List α) (z d:α) (hn:x.length≤1048576)
 (hc:∀ st,c st=iLt st.2 (lLen x)) (hf:∀ (l:List α) (i:Nat),i<x.length→f (l,(i:Int))=(l.set i (x.getD i d),iAdd .i64 i 1)):(ZaV c f (lRep (lLen x) z,0)).1=x:=(Zsk (p:=fun _=>True) x z d hn hc hf (fun _ _ _ _=>trivial)).2
theorem ZgX{α:Type}(x:List α)(i:Nat)(d:α)(h:i<x.length):x.getD i d∈x:=by
 rw[List.getD_eq_getElem?_getD,List.getElem?_eq_getElem h];exact List.getElem_mem h
theorem Zxo{n:Int}{w:Nat}(h0:0≤n)(h:n≤1048576)(hw:w≤1000):Zbu (n.toNat*w):=by
 show n.toNat*w≤2^40
 have h1:n.toNat≤1048576:=by omega
 have:=Nat.mul_le_mul h1 hw
 omega
theorem Zwr{X:Type}{c:X→Bool}{f:X→X}{p:X→Prop}(ix:X→Int)(n:Int)(hn:n≤9223372036854775806)(hc:∀ x,0≤ix x→ix x≤n→c x=true→ix x<n)(hf:∀ x,ix (f x)=iAdd .i64 (ix x) 1)(hp:∀ x,0≤ix x→ix x≤n→p x){x0:X}(h0:0≤ix x0)(h1:ix x0≤n):LoopOk c f p x0:=by
 refine(Zlm (fun x=>0≤ix x∧ix x≤n) (fun x=>(n-ix x).toNat) (fun x hI=>⟨hp x hI.1 hI.2,fun hcc=>?_⟩) ⟨h0,h1⟩).1
 have:=hc x hI.1 hI.2 hcc
 obtain⟨k1,k2⟩:=hI
 have e:=hf x
 rw[Zby (by unfold Zo0;omega)] at e
 refine⟨by omega,by omega⟩
open Go.Sort
def Zh6(l:List Int):List Int:=l.mergeSort fun x y=>decide (x≤y)
theorem ZqT(l:List Int):(Zh6 l).length=l.length:=List.length_mergeSort l
def Zit(l:List Int):List V:=l.map fun n=>.int .i64 n
def ZfG:Zar:=fun args h Q=>match args with
 |[.nils]=>Q .undef h
 |[.slice l 0 n]=>∃ (b:Blk) (zs:List Int),h[l]?=some b∧b.k= .own∧zs.length=n∧0<n∧n<4611686018427387904∧b.cs=Zit zs++b.cs.drop n∧Q .undef (h.set l { b with cs:=Zit (Zh6 zs)++b.cs.drop n })
 |_=>False
def ZB5(P:Program)(g:FuncId):Prop:=
 (∀ (blk off cap:Nat) (zs:List Int) (w:World),Holds (Value.int .i64) w blk off zs.toArray→blk<w.heap.size→zs.length<4611686018427387904 →
  Calls P g #[.slice (some ⟨blk,off,none⟩) zs.length cap] w fun e w'=>e= .returned (.tuple #[])∧∃ n os,w'=grow (putRow (Value.int .i64) (Sort.ahead w n) blk off (zs.mergeSort fun x y=>decide (x≤y)).toArray) os) ∧
 ∀ (p:Option Addr) (cap:Nat) (w:World),Calls P g #[.slice p 0 cap] w fun e w'=>e= .returned (.tuple #[])∧w'=w
theorem Zzo {ι:Inj} {k:Zax} {w w':World} {l:Nat} {blk:Blk} {cs':List V} {arr':Array Value} {e:TypeId} (H:HRel ι k w) (hb:k[l]?=some blk) (k1:blk.k= .own) (hl:cs'.length=blk.cs.length) (hsize:w.heap.size≤w'.heap.size)
 (hoth:∀ j,j<w.heap.size→j≠(ι l).b→w'.heap[j]?=w.heap[j]?) (hrow:w'.heap[(ι l).b]?=some (.cells arr' e (0,0))) (hsz:arr'.size=(ι l).c) (hcells:∀ (i:Nat) u,cs'[i]?=some u→u.cell=true∧∃ z,arr'[i]?=some z∧∀ β,Rel ι k β u z)
 (ho:w'.os=w.os) (hout:w'.output=w.output) (ht:w'.tape=w.tape):HRel ι (k.set l { blk with cs:=cs' }) w'∧Step ι k w ι (k.set l { blk with cs:=cs' }) w':=by
 have K:=ZmE ι k l blk { blk with cs:=cs' } hb rfl
 have hset:∀ (j:Nat) (b:Blk),(k.set l { blk with cs:=cs' })[j]?=some b→(j=l∧b={ blk with cs:=cs' })∨(j≠l∧k[j]?=some b):=by
  intro j b hj
  rcases Zhm hj with⟨h1,h2,_⟩|h
  · exact .inl ⟨h1,h2⟩
  · exact .inr h
 obtain⟨z0,g2,_⟩:=H.own l blk hb k1
 have hfar:∀ (j:Nat) (b:Blk),j≠l→k[j]?=some b→b.k≠.dead→w'.heap[(ι j).b]?=w.heap[(ι j).b]?:=fun j b hjl hj hbk=>hoth _ (H.there j b hj hbk) fun g=>H.apart l j blk b (Ne.symm hjl) hb hj k1 hbk g.symm
 refine⟨⟨fun j b hj hbk i u hu=>?_,fun j b hj hbk=>?_,fun j j' b b' hne hj hj' hbk hbk'=>?_,fun j b hj hbk=>?_⟩,{ keeps:=K,kinds:=fun j b b' hj hj'=>?_,fresh:=fun j b' hle' hj hbk=>?_,frame:=fun b hb' hf=>hoth b hb' fun g=>hf l blk hb k1 g.symm,size:=hsize,os:=ho,output:=hout,tape:=ht }⟩
 · rcases hset j b hj with⟨rfl,rfl⟩|⟨hjl,hj⟩
   · obtain⟨g1,z,g2,g3⟩:=hcells i u hu
     refine⟨g1,z,?_,fun β=>(g3 β).cellMono K g1⟩
     rw[z0,Nat.zero_add]
     simp only[World.cell?,hrow]
     exact g2
   · obtain⟨g1,z,g2,g3⟩:=H.cells j b hj hbk i u hu
     exact⟨g1,z,by rw[World.cell?_of_block (w:=w) (hfar j b hjl hj hbk)];exact g2,fun β=>(g3 β).cellMono K g1⟩
 · rcases hset j b hj with⟨rfl,rfl⟩|⟨hjl,hj⟩
   · exact⟨z0,by simp only;omega,_,e,hrow,hsz⟩
   · obtain⟨g1,g2,arr',e',g3,g4⟩:=H.own j b hj hbk
     exact⟨g1,g2,arr',e',by rw[hfar j b hjl hj (by rw[hbk];decide)];exact g3,g4⟩
 · rcases hset j b hj with⟨rfl,rfl⟩|⟨hjl,hg⟩<;>rcases hset j' b' hj' with⟨rfl,rfl⟩|⟨hjl',hg'⟩
   · exact absurd rfl hne
   · exact H.apart _ _ _ _ hne hb hg' k1 hbk'
   · exact H.apart _ _ _ _ hne hg hb hbk (by rw[k1];decide)
   · exact H.apart j j' b b' hne hg hg' hbk hbk'
 · refine Nat.lt_of_lt_of_le ?_ hsize
   rcases hset j b hj with⟨rfl,rfl⟩|⟨hjl,hj⟩
   · exact H.there _ _ hb hbk
   · exact H.there j b hj hbk
 · rcases hset j b' hj' with⟨rfl,rfl⟩|⟨hjl,hj'⟩
   · rw[hb] at hj;cases hj;exact .inl rfl
   · rw[hj] at hj';cases hj';exact .inl rfl
 · rcases hset j b' hj with⟨rfl,rfl⟩|⟨hjl,hj⟩
   · have:=Zbc hb;omega
   · have:=Zbc hj;omega
theorem ZxF{P:Program}{g:FuncId}(hs:ZB5 P g):Zal P g ZfG:=by
 intro Φ ι σ w args xs Q hΦ H hargs hsem
 have hlen:=hargs.1
 unfold ZfG at hsem
 split at hsem
 · match xs,hlen with
   | [x],_=>
     have hr:=hargs.2 0 _ _ rfl rfl (fun _=>0)
     obtain⟨a,rfl⟩:=Zls hr
     refine(hs.2 a 0 w).mono ?_
     rintro e w' ⟨rfl,rfl⟩
     exact⟨_,.undef,σ,ι,rfl,hsem,hΦ,fun β=>.undef _,H,.refl _ _ _⟩
 · rename_i l n
   match xs,hlen with
   | [x],_=>
     have hr:=hargs.2 0 _ _ rfl rfl (fun _=>0)
     obtain⟨b,zs,hb,hk,hz,hn0,hn,hcs,hQ⟩:=hsem
     have hl:Φ l=none:=(Zvt hr).1 l 0 n rfl
     have hb':(kill Φ σ)[l]?=some b:=by rw[Znr hl];exact hb
     obtain⟨b1,g1,hc⟩:=ZdJ hr
     rw[hb'] at g1;cases g1
     rcases hc with⟨c,rfl,c1,c2⟩|⟨rfl,_⟩
     · obtain⟨z0,arr,el,harr,hsz,hrc⟩:=H.ownCells hb' hk
       rw[z0,Nat.add_zero]
       have hle:b.cs.length≤arr.size:=by simpa using hrc.1
       have hcl:n≤b.cs.length:=by rw[hcs,List.length_append];simp[Zit];omega
       have hcell:∀ j (hj:j<n),arr[j]?=some (.int .i64 (zs[j]'(by omega))):=by
        intro j hj
        have hcj:b.cs[j]?=some (.int .i64 (zs[j]'(by omega))):=by
         rw[hcs,List.getElem?_append_left (by simp[Zit];omega)]
         simp[Zit,List.getElem?_eq_getElem (show j<zs.length by omega)]
        obtain⟨_,z,q1,q2⟩:=hrc.2 j _ hcj
        have:=ZeP (q2 (fun _=>0))
        subst this
        simpa using q1
       have hH:Holds (Value.int .i64) w (ι l).b 0 zs.toArray:=by
        intro j hj
        have hj:j<n:=by simpa [hz] using hj
        refine⟨?_,?_⟩
        · simp only[World.cell?,harr,Nat.zero_add,hcell j hj]
          rw[getElem!_pos _ j (by simp;omega)]
          simp
        · simp only[World.frozen?,harr]
          simp
       have hcall:=hs.1 (ι l).b 0 c zs w hH (H.there l b hb' (by rw[hk];decide)) (by omega)
       rw[hz] at hcall
       refine hcall.mono ?_
       rintro e w' ⟨rfl,m,os,rfl⟩
       have hblt:=H.there l b hb' (by rw[hk];decide)
       have hsl:=ZqT zs
       have heap:(grow (putRow (Value.int .i64) (Sort.ahead w m) (ι l).b 0 (Zh6 zs).toArray) os).heap=w.heap.modify (ι l).b (onCells (putCells (Value.int .i64) 0 (Zh6 zs).toArray))++os:=rfl
       have W:=Zzo (w':=grow (putRow (Value.int .i64) (Sort.ahead w m) (ι l).b 0 (Zh6 zs).toArray) os) (cs':=Zit (Zh6 zs)++b.cs.drop n) (arr':=putCells (Value.int .i64) 0 (Zh6 zs).toArray arr) (e:=el) H hb' hk
        (by simp[Zit,hsl];omega) (by rw[heap];simp) (fun j hj hne=>by
         rw[heap,Array.getElem?_append_left (by simpa using hj),Array.getElem?_modify,if_neg (Ne.symm hne)]) (by
         rw[heap,Array.getElem?_append_left (by simpa using hblt),Array.getElem?_modify,if_pos rfl,harr];rfl) (by simp[putCells,hsz]) (fun i u hu=>by
         have hpi:(putCells (Value.int .i64) 0 (Zh6 zs).toArray arr)[i]?=(arr[i]?).map fun x=>if i<n then .int .i64 ((Zh6 zs).toArray)[i]! else x:=by
          simp[putCells,Array.getElem?_mapIdx,hsl,hz]
         rw[hpi]
         by_cases hi:i<n
         · rw[List.getElem?_append_left (by simp[Zit,hsl];omega)] at hu
           simp only[Zit,List.getElem?_map,List.getElem?_eq_getElem (show i<(Zh6 zs).length by omega),Option.map_some,Option.some.injEq] at hu
           subst hu
           refine⟨rfl,_,by rw[hcell i hi];rfl,fun β=>?_⟩
           simp only[if_pos hi]
           rw[getElem!_pos _ i (by simp;omega)]
           simpa using Rel.int .i64 _
         · rw[List.getElem?_append_right (by simp[Zit,hsl];omega)] at hu
           have hu':b.cs[i]?=some u:=by
            rw[List.getElem?_drop] at hu
            rw[← hu];congr 1;simp[Zit,hsl];omega
           obtain⟨q0,z,q1,q2⟩:=hrc.2 i u hu'
           refine⟨q0,z,?_,q2⟩
           have:arr[i]?=some z:=by simpa using q1
           rw[this,Option.map_some,if_neg hi]) rfl rfl rfl
       refine⟨_,.undef,_,ι,rfl,hQ,hΦ.set hl _,fun β=>.undef _,?_,?_⟩
       · rw[Zpb hl];exact W.1
       · rw[Zpb hl];exact W.2
     · omega
 · exact hsem.elim
@[irreducible] def ZaP(x:List (Int))(m:Int):(List (Int))×Int:=(shut fun(x:List (Int)) (m:Int)=>(Zh6 x,m)).1 x m
@[irreducible] def ZhW(x:List (Int)):Prop:=(shut fun(x:List (Int))=>x.length<4611686018427387904).1 x
theorem ZmN:ZaP=fun x m=>(Zh6 x,m):=by unfold ZaP;exact(shut _).2
theorem ZmD:ZhW=fun x=>x.length<4611686018427387904:=by unfold ZhW;exact(shut _).2
def Zmg:DMk:=⟨.one (.sl (.one (.int .i64))),false,ZhW,ZaP,true⟩
def ZlG(l:List Int):List (List PV):=l.map fun n=>[.fl (.int .i64 n)]
theorem Zx8(l:List Int):(ZlG l).flatten=l.map fun n=>.fl (.int .i64 n):=by
 induction l with
 |nil=>rfl
 |cons n r ih=>simpa [ZlG] using ih
theorem ZtX{l:List Int}{k:Nat}(h:k<l.length):Zag (ZlG l).flatten k= .fl (.int .i64 (l[k])):=by
 rw[Zx8,ZeO,List.getElem?_map,List.getElem?_eq_getElem h];rfl
theorem Zsx:ZlQ ZfG (DMk.P Zmg):=by
 unfold Zmg
 rw[ZmD,ZmN]
 rintro h ω hd P b olds us u m K Q hinj hu hl hr ⟨(x:List Int),rfl,hok,hK⟩ hQ
 have hu:us=[u]:=hu
 subst hu
 have hr0:RC h ω (.inn hd (P++[b+0])) (.sl .own (ZlG x)) u:=hr 0 (by exact Nat.one_pos)
 have hQ:=fun h' hO (hrc:RC h' ω (.inn hd (P++[b+0])) (.sl .own (ZlG (Zh6 x))) u)=>hQ _ m h' hK rfl hO fun c hc=>by
  have hc:c<1:=hc
  have:c=0:=by omega
  subst this
  exact hrc
 show ZfG [u] h Q
 have hok:x.length<4611686018427387904:=hok
 have hsl:=ZqT x
 generalize hes:ZlG x=es at hr0
 cases hr0 with
 | nil=>
   have:x=[]:=by
    cases x with
    |nil=>rfl
    |cons=>cases hes
   subst this
   have e0:ZlG (Zh6 [])=[]:=by rw[List.eq_nil_of_length_eq_zero hsl];rfl
   rw[e0] at hQ
   exact hQ h (Only.refl _ _) (.nil _ _)
 | sl _ _ _ l o n blk hb hk hc hne hn hw hle hcell=>
   subst hes
   obtain⟨hω,rfl,hown⟩:=hc
   have hx:x≠[]:=fun e=>by subst e;exact hne rfl (.inl rfl) rfl
   obtain⟨y,ys,rfl⟩:=List.exists_cons_of_ne_nil hx
   generalize hzs:y::ys=zs at *
   have hpos:0<zs.length:=by rw[← hzs];simp
   have hlen:(ZlG zs).length=zs.length:=by simp[ZlG]
   have hbw:blk.w=1:=by
    have:=hw [.fl (.int .i64 y)] (by rw[← hzs];simp[ZlG])
    simpa using this.symm
   rw[hlen] at hn hle hcell
   rw[hbw,Nat.mul_one,Nat.zero_add] at hle
   rw[hbw,Nat.mul_one] at hcell
   have hget:∀ k (hk:k<zs.length),blk.cs[k]?=some (.int .i64 (zs[k])):=by
    intro k hk
    have r:=hcell k hk
    rw[Nat.zero_add,ZtX hk] at r
    have e:get blk.cs k= .int .i64 (zs[k]):=by
     generalize get blk.cs k=z at r
     cases r with
     |v=>rfl
    rw[Zex,List.getElem?_eq_getElem (show k<blk.cs.length by omega)] at e
    rw[List.getElem?_eq_getElem (show k<blk.cs.length by omega)]
    simpa using e
   have hcs:blk.cs=Zit zs++blk.cs.drop n:=by
    apply List.ext_getElem?
    intro k
    by_cases hk:k<zs.length
    · rw[List.getElem?_append_left (by simp[Zit];omega),hget k hk]
      simp[Zit,List.getElem?_eq_getElem hk]
    · rw[List.getElem?_append_right (by simp[Zit];omega),List.getElem?_drop]
      congr 1;simp[Zit];omega
   have hlt:=Zbc hb
   have hnl:(Zit (Zh6 zs)++blk.cs.drop n).length=blk.cs.length:=by simp[Zit,hsl];omega
   refine⟨blk,zs,hb,hown,hn.symm,by omega,by omega,hcs,?_⟩
   refine hQ _ ⟨by simp,fun j hj=>?_,fun j c hj=>?_⟩ (.sl _ _ _ _ _ _ { blk with cs:=Zit (Zh6 zs)++blk.cs.drop n } (by simp[hlt]) hk ⟨hω,rfl,hown⟩ (fun _ _ e=>?_) ?_ ?_ ?_ ?_)
   · rw[List.getElem?_set,if_neg]
     intro e
     subst e
     exact hj ⟨0,ZlG zs,[],Nat.one_pos,rfl,by simpa using hω⟩
   · rw[List.getElem?_set]
     by_cases e:l=j
     · subst e
       rw[hb] at hj;cases hj
       exact⟨{ blk with cs:=Zit (Zh6 zs)++blk.cs.drop n },by simp[hlt],rfl,rfl,hnl⟩
     · exact⟨c,by rw[if_neg e];exact hj,rfl,rfl,rfl⟩
   · have:=congrArg List.length e
     simp[ZlG,hsl] at this
     rw[this] at hpos;simp at hpos
   · rw[hn];simp[ZlG,hsl]
   · intro e he
     simp only[ZlG,List.mem_map] at he
     obtain⟨_,_,rfl⟩:=he
     simp[hbw]
   · simp only[ZlG,List.length_map,hsl,hbw,hnl];omega
   · intro k hk
     simp only[ZlG,List.length_map,hsl,hbw,Nat.mul_one] at hk
     have hk':k<(Zh6 zs).length:=by omega
     rw[Nat.zero_add,ZtX hk']
     have:get (Zit (Zh6 zs)++blk.cs.drop n) k= .int .i64 ((Zh6 zs)[k]):=by
      rw[Zex,List.getElem?_append_left (by simp[Zit];omega)]
      simp[Zit,List.getElem?_eq_getElem hk']
     simp only[this]
     exact .v _ _ rfl
section
set_option maxRecDepth 8000
def Zt2:DCode:=
 (.seq [2,1,0] (.region [oa 0 6 (.mv (.c (.bool false)))])
 (.seq [6] (.region [om 0 7 0,
 om 1 8 1,
 oa 2 9 (.bin .geq (.t 7) (.t 8)),
 om 3 10 9,
 og 4 11 (.mv (.t 0)) 10 true,
 og 5 12 (.mv (.t 2)) 10 true,
 og 6 13 (.bin .leq (.t 11) (.t 12)) 10 true,
 oa 7 14 (.pick (.t 10) (.t 13) (.c (.bool false))),
 om 8 6 14])
  .ret))
def df_spec_l1In:DFun:=⟨3,15,0,true,[.tmp 6],Zt2⟩
@[irreducible] def Zbt:Zar:=Za5 df_spec_l1In.er.er
@[irreducible] def Zdt:ZfF:=ZaQ df_spec_l1In.er
theorem ZfN:Zbd Zbt Zdt:=by unfold Zbt Zdt;exact Zav (f:=df_spec_l1In.er) trivial
def Zj0:List HT:=[.one .frz (.int .i64),.one .frz (.int .i64),.one .frz (.int .i64)]
def Zj4:QT:=.one (.one .own (.bool))
@[irreducible] def ZaB(x:Int×Int×Int):Bool:=(shut fun x=>fnV df_spec_l1In Zj0 Zj4 x).1 x
@[irreducible] def Zb3(x:Int×Int×Int):Prop:=(shut fun x=>ZhR df_spec_l1In Zj0 Zj4 x).1 x
def ZfK:ZhA:=ZbC Zj0 Zj4 Zb3 ZaB
theorem ZfL:Zbp Zdt ZfK:=by unfold Zdt;exact Zaz (f:=df_spec_l1In) (hs:=Zj0) (q:=Zj4) trivial (by kernel_rfl) (fun x=>by kernel_rfl) (fun x h=>by unfold Zb3 at h;exact Eq.mp (congrFun (shut _).2 x) h) (fun x=>by unfold ZaB;exact(congrFun (shut _).2 x).symm)
def Zot:DCode:=
 (.seq [1] (.region [oa 0 1 (.boxB 0 4 (.t 0)),
 oa 1 2 (.mv (.c (.bool false)))])
  (.seq [3,1] (.region [oa 0 6 (.fieldA 1 (.t 1)),
 oa 1 7 (.loadB 0 none (.t 6)),
 oc 2 8 Zbt Zdt ZfK [(.t 7),(.c (.int .i64 1)),(.c (.int .i64 56))],
 om 3 3 8])
  (.seq [4,3,1] (.region [oa 0 9 (.fieldA 2 (.t 1)),
 oa 1 10 (.loadB 0 none (.t 9)),
 oc 2 11 Zbt Zdt ZfK [(.t 10),(.c (.int .i64 1)),(.c (.int .i64 15))],
 om 3 4 11])
  (.seq [5,4,3,1] (.region [oa 0 12 (.fieldA 3 (.t 1)),
 oa 1 13 (.loadB 0 none (.t 12)),
 oc 2 14 Zbt Zdt ZfK [(.t 13),(.c (.int .i64 1)),(.c (.int .i64 3))],
 om 3 5 14])
  (.seq [] (.seq [16,5,4,3,1] (.region [oa 0 15 (.fieldA 0 (.t 1)),
 oa 1 16 (.loadB 0 none (.t 15))])
  (.block 0 (.seq [17,16,5,4,3,1] (.seq [17,16,5,4,3,1] (.region [oa 0 18 (.bin .eql (.t 16) (.c (.int .i64 0))),
 om 1 17 18])
  (.cond (.t 17) .skip (.seq [17,16,5,4,3,1] (.region [oa 0 19 (.bin .eql (.t 16) (.c (.int .i64 1))),
 om 1 17 19])
  (.cond (.t 17) .skip (.region [oa 0 20 (.bin .eql (.t 16) (.c (.int .i64 10))),
 om 1 17 20])))))
  (.cond (.t 17) (.seq [2] (.region [oa 0 21 (.fieldA 1 (.t 1)),
 oa 1 22 (.loadB 0 none (.t 21)),
 oa 2 23 (.bin .eql (.t 22) (.c (.int .i64 0))),
 om 3 24 23,
 og 4 25 (.fieldA 2 (.t 1)) 24 true,
 og 5 26 (.loadB 0 none (.t 25)) 24 true,
 og 6 27 (.bin .eql (.t 26) (.c (.int .i64 0))) 24 true,
 oa 7 28 (.pick (.t 24) (.t 27) (.c (.bool false))),
 om 8 29 28,
 og 9 30 (.fieldA 3 (.t 1)) 29 true,
 og 10 31 (.loadB 0 none (.t 30)) 29 true,
 og 11 32 (.bin .eql (.t 31) (.c (.int .i64 0))) 29 true,
 oa 12 33 (.pick (.t 29) (.t 32) (.c (.bool false))),
 om 13 2 33])
  .ret) (.seq [34,16,5,4,3,1] (.region [oa 0 35 (.bin .eql (.t 16) (.c (.int .i64 2))),
 om 1 34 35])
  (.cond (.t 34) (.seq [2] (.region [oa 0 36 (.fieldA 3 (.t 1)),
 oa 1 37 (.loadB 0 none (.t 36)),
 oa 2 38 (.bin .eql (.t 37) (.c (.int .i64 0))),
 om 3 39 38,
 og 4 40 (.mv (.t 3)) 39 true,
 og 5 41 (.mv (.t 40)) 39 true,
 og 6 42 (.fieldA 1 (.t 1)) 41 false,
 og 7 43 (.loadB 0 none (.t 42)) 41 false,
 og 8 44 (.bin .eql (.t 43) (.c (.int .i64 0))) 41 false,
 og 9 45 (.mv (.t 44)) 41 false,
 og 10 46 (.mv (.t 4)) 45 true,
 og 11 47 (.pick (.t 45) (.t 46) (.c (.bool false))) 41 false,
 og 12 48 (.pick (.t 41) (.c (.bool true)) (.t 47)) 39 true,
 oa 13 49 (.pick (.t 39) (.t 48) (.c (.bool false))),
 om 14 50 49,
 og 15 51 (.mv (.t 4)) 50 true,
 og 16 52 (.mv (.t 51)) 50 true,
 og 17 53 (.fieldA 2 (.t 1)) 52 false,
 og 18 54 (.loadB 0 none (.t 53)) 52 false,
 og 19 55 (.bin .eql (.t 54) (.c (.int .i64 0))) 52 false,
 og 20 56 (.pick (.t 52) (.c (.bool true)) (.t 55)) 50 true,
 oa 21 57 (.pick (.t 50) (.t 56) (.c (.bool false))),
 om 22 2 57])
  .ret) (.seq [58,16,5,4,3,1] (.seq [58,16,5,4,3,1] (.region [oa 0 59 (.bin .eql (.t 16) (.c (.int .i64 3))),
 om 1 58 59])
  (.cond (.t 58) .skip (.region [oa 0 60 (.bin .eql (.t 16) (.c (.int .i64 4))),
 om 1 58 60])))
  (.cond (.t 58) (.seq [2] (.region [om 0 61 5,
 om 1 62 61,
 og 2 63 (.fieldA 1 (.t 1)) 62 true,
 og 3 64 (.loadB 0 none (.t 63)) 62 true,
 og 4 65 (.bin .eql (.t 64) (.c (.int .i64 0))) 62 true,
 oa 5 66 (.pick (.t 62) (.t 65) (.c (.bool false))),
 om 6 67 66,
 og 7 68 (.fieldA 2 (.t 1)) 67 true,
 og 8 69 (.loadB 0 none (.t 68)) 67 true,
 og 9 70 (.bin .eql (.t 69) (.c (.int .i64 0))) 67 true,
 oa 10 71 (.pick (.t 67) (.t 70) (.c (.bool false))),
 om 11 2 71])
  .ret) (.seq [72,16,5,4,3,1] (.seq [72,16,5,4,3,1] (.region [oa 0 73 (.bin .eql (.t 16) (.c (.int .i64 5))),
 om 1 72 73])
  (.cond (.t 72) .skip (.region [oa 0 74 (.bin .eql (.t 16) (.c (.int .i64 9))),
 om 1 72 74])))
  (.cond (.t 72) (.seq [2] (.region [oa 0 75 (.fieldA 3 (.t 1)),
 oa 1 76 (.loadB 0 none (.t 75)),
 oc 2 77 Zbt Zdt ZfK [(.t 76),(.c (.int .i64 0)),(.c (.int .i64 3))],
 om 3 78 77,
 og 4 79 (.fieldA 1 (.t 1)) 78 true,
 og 5 80 (.loadB 0 none (.t 79)) 78 true,
 og 6 81 (.bin .eql (.t 80) (.c (.int .i64 0))) 78 true,
 oa 7 82 (.pick (.t 78) (.t 81) (.c (.bool false))),
 om 8 83 82,
 og 9 84 (.fieldA 2 (.t 1)) 83 true,
 og 10 85 (.loadB 0 none (.t 84)) 83 true,
 og 11 86 (.bin .eql (.t 85) (.c (.int .i64 0))) 83 true,
 oa 12 87 (.pick (.t 83) (.t 86) (.c (.bool false))),
 om 13 2 87])
  .ret) (.seq [88,16,5,4,3,1] (.region [oa 0 89 (.bin .eql (.t 16) (.c (.int .i64 6))),
 om 1 88 89])
  (.cond (.t 88) (.seq [2] (.region [om 0 90 3,
 om 1 91 90,
 og 2 92 (.mv (.t 4)) 91 true,
 oa 3 93 (.pick (.t 91) (.t 92) (.c (.bool false))),
 om 4 94 93,
 og 5 95 (.fieldA 3 (.t 1)) 94 true,
 og 6 96 (.loadB 0 none (.t 95)) 94 true,
 og 7 97 (.bin .eql (.t 96) (.c (.int .i64 0))) 94 true,
 oa 8 98 (.pick (.t 94) (.t 97) (.c (.bool false))),
 om 9 2 98])
  .ret) (.seq [99,16,5,4,3,1] (.region [oa 0 100 (.bin .eql (.t 16) (.c (.int .i64 7))),
 om 1 99 100])
  (.cond (.t 99) (.seq [2] (.region [om 0 101 3,
 om 1 102 101,
 og 2 103 (.mv (.t 5)) 102 true,
 oa 3 104 (.pick (.t 102) (.t 103) (.c (.bool false))),
 om 4 105 104,
 og 5 106 (.fieldA 2 (.t 1)) 105 true,
 og 6 107 (.loadB 0 none (.t 106)) 105 true,
 og 7 108 (.bin .eql (.t 107) (.c (.int .i64 0))) 105 true,
 oa 8 109 (.pick (.t 105) (.t 108) (.c (.bool false))),
 om 9 2 109])
  .ret) (.seq [110,4,1] (.region [oa 0 111 (.bin .eql (.t 16) (.c (.int .i64 8))),
 om 1 110 111])
  (.cond (.t 110) (.seq [2] (.region [om 0 112 4,
 om 1 113 112,
 og 2 114 (.fieldA 1 (.t 1)) 113 true,
 og 3 115 (.loadB 0 none (.t 114)) 113 true,
 og 4 116 (.bin .eql (.t 115) (.c (.int .i64 0))) 113 true,
 oa 5 117 (.pick (.t 113) (.t 116) (.c (.bool false))),
 om 6 118 117,
 og 7 119 (.fieldA 3 (.t 1)) 118 true,
 og 8 120 (.loadB 0 none (.t 119)) 118 true,
 og 9 121 (.bin .eql (.t 120) (.c (.int .i64 0))) 118 true,
 oa 10 122 (.pick (.t 118) (.t 121) (.c (.bool false))),
 om 11 2 122])
  .ret) .skip))))))))))))))))
  (.seq [2] (.region [oa 0 2 (.mv (.c (.bool false)))])
  .ret))))))
def df_spec_IsAction:DFun:=⟨1,123,1,true,[.tmp 2],Zot⟩
@[irreducible] def ZbE:Zar:=Za5 df_spec_IsAction.er.er
@[irreducible] def ZcQ:ZfF:=ZaQ df_spec_IsAction.er
theorem Zhy:Zbd ZbE ZcQ:=by unfold ZbE ZcQ;exact Zav (f:=df_spec_IsAction.er) ⟨ZfN,ZfN,ZfN,ZfN,trivial⟩
def Zf4:List HT:=[.agg [(.frz,.int .i64),(.frz,.int .i64),(.frz,.int .i64),(.frz,.int .i64)]]
def Zgw:QT:=.one (.one .own (.bool))
@[irreducible] def ZaJ(x:Int×Int×Int×Int):Bool:=(shut fun x=>fnV df_spec_IsAction Zf4 Zgw x).1 x
@[irreducible] def Zb0(x:Int×Int×Int×Int):Prop:=(shut fun x=>ZhR df_spec_IsAction Zf4 Zgw x).1 x
def ZfR:ZhA:=ZbC Zf4 Zgw Zb0 ZaJ
theorem Zhs:Zbp ZcQ ZfR:=by unfold ZcQ;exact Zaz (f:=df_spec_IsAction) (hs:=Zf4) (q:=Zgw) ⟨ZfL,ZfL,ZfL,ZfL,trivial⟩ (by kernel_rfl) (fun x=>by kernel_rfl) (fun x h=>by unfold Zb0 at h;exact Eq.mp (congrFun (shut _).2 x) h) (fun x=>by unfold ZaJ;exact(congrFun (shut _).2 x).symm)
def Zrj:DCode:=
 (.seq [0] (.region [oa 0 2 (.mv (.c (.bool false)))])
 (.seq [2] (.region [om 0 3 0,
 oa 1 4 (.bin .geq (.t 3) (.c (.int .i64 1))),
 om 2 5 4,
 og 3 6 (.mv (.t 0)) 5 true,
 og 4 7 (.bin .leq (.t 6) (.c (.int .i64 56))) 5 true,
 oa 5 8 (.pick (.t 5) (.t 7) (.c (.bool false))),
 om 6 2 8])
  .ret))
def df_impl_isCode:DFun:=⟨1,9,0,true,[.tmp 2],Zrj⟩
@[irreducible] def Zcd:Zar:=Za5 df_impl_isCode.er.er
@[irreducible] def Zd4:ZfF:=ZaQ df_impl_isCode.er
theorem Zjk:Zbd Zcd Zd4:=by unfold Zcd Zd4;exact Zav (f:=df_impl_isCode.er) trivial
def Zid:List HT:=[.one .frz (.int .i64)]
def Zh5:QT:=.one (.one .own (.bool))
@[irreducible] def Zbl(x:Int):Bool:=(shut fun x=>fnV df_impl_isCode Zid Zh5 x).1 x
@[irreducible] def ZcF(x:Int):Prop:=(shut fun x=>ZhR df_impl_isCode Zid Zh5 x).1 x
def Zh8:ZhA:=ZbC Zid Zh5 ZcF Zbl
theorem Zjg:Zbp Zd4 Zh8:=by unfold Zd4;exact Zaz (f:=df_impl_isCode) (hs:=Zid) (q:=Zh5) trivial (by kernel_rfl) (fun x=>by kernel_rfl) (fun x h=>by unfold ZcF at h;exact Eq.mp (congrFun (shut _).2 x) h) (fun x=>by unfold Zbl;exact(congrFun (shut _).2 x).symm)
def Zrn:DCode:=
 (.seq [0] (.region [oa 0 2 (.mv (.c (.bool false)))])
 (.seq [2] (.region [om 0 3 0,
 oa 1 4 (.bin .geq (.t 3) (.c (.int .i64 1))),
 om 2 5 4,
 og 3 6 (.mv (.t 0)) 5 true,
 og 4 7 (.bin .leq (.t 6) (.c (.int .i64 15))) 5 true,
 oa 5 8 (.pick (.t 5) (.t 7) (.c (.bool false))),
 om 6 2 8])
  .ret))
def df_impl_isMods:DFun:=⟨1,9,0,true,[.tmp 2],Zrn⟩
@[irreducible] def Zce:Zar:=Za5 df_impl_isMods.er.er
@[irreducible] def Zd7:ZfF:=ZaQ df_impl_isMods.er
theorem Zjc:Zbd Zce Zd7:=by unfold Zce Zd7;exact Zav (f:=df_impl_isMods.er) trivial
def Zh2:List HT:=[.one .frz (.int .i64)]
def ZhN:QT:=.one (.one .own (.bool))
@[irreducible] def Zdn(x:Int):Bool:=(shut fun x=>fnV df_impl_isMods Zh2 ZhN x).1 x
@[irreducible] def Zcg(x:Int):Prop:=(shut fun x=>ZhR df_impl_isMods Zh2 ZhN x).1 x
def Zia:ZhA:=ZbC Zh2 ZhN Zcg Zdn
theorem Zjb:Zbp Zd7 Zia:=by unfold Zd7;exact Zaz (f:=df_impl_isMods) (hs:=Zh2) (q:=ZhN) trivial (by kernel_rfl) (fun x=>by kernel_rfl) (fun x h=>by unfold Zcg at h;exact Eq.mp (congrFun (shut _).2 x) h) (fun x=>by unfold Zdn;exact(congrFun (shut _).2 x).symm)
def ZqD:DCode:=
 (.seq [0] (.region [oa 0 2 (.mv (.c (.bool false)))])
 (.seq [2] (.region [om 0 3 0,
 oa 1 4 (.bin .geq (.t 3) (.c (.int .i64 1))),
 om 2 5 4,
 og 3 6 (.mv (.t 0)) 5 true,
 og 4 7 (.bin .leq (.t 6) (.c (.int .i64 3))) 5 true,
 oa 5 8 (.pick (.t 5) (.t 7) (.c (.bool false))),
 om 6 2 8])
  .ret))
def df_impl_isUpper:DFun:=⟨1,9,0,true,[.tmp 2],ZqD⟩
@[irreducible] def ZcE:Zar:=Za5 df_impl_isUpper.er.er
@[irreducible] def Zem:ZfF:=ZaQ df_impl_isUpper.er
theorem Zk0:Zbd ZcE Zem:=by unfold ZcE Zem;exact Zav (f:=df_impl_isUpper.er) trivial
def Zg9:List HT:=[.one .frz (.int .i64)]
def Zg5:QT:=.one (.one .own (.bool))
@[irreducible] def Zef(x:Int):Bool:=(shut fun x=>fnV df_impl_isUpper Zg9 Zg5 x).1 x
@[irreducible] def ZcW(x:Int):Prop:=(shut fun x=>ZhR df_impl_isUpper Zg9 Zg5 x).1 x
def Zjd:ZhA:=ZbC Zg9 Zg5 ZcW Zef
theorem ZkT:Zbp Zem Zjd:=by unfold Zem;exact Zaz (f:=df_impl_isUpper) (hs:=Zg9) (q:=Zg5) trivial (by kernel_rfl) (fun x=>by kernel_rfl) (fun x h=>by unfold ZcW at h;exact Eq.mp (congrFun (shut _).2 x) h) (fun x=>by unfold Zef;exact(congrFun (shut _).2 x).symm)
def ZoI:DCode:=
 (.seq [1] (.region [oa 0 1 (.boxB 0 4 (.t 0)),
 oa 1 2 (.mv (.c (.bool false)))])
  (.seq [] (.seq [4,1] (.region [oa 0 3 (.fieldA 0 (.t 1)),
 oa 1 4 (.loadB 0 none (.t 3))])
  (.block 0 (.seq [5,4,1] (.seq [5,4,1] (.region [oa 0 6 (.bin .eql (.t 4) (.c (.int .i64 0))),
 om 1 5 6])
  (.cond (.t 5) .skip (.seq [5,4,1] (.region [oa 0 7 (.bin .eql (.t 4) (.c (.int .i64 1))),
 om 1 5 7])
  (.cond (.t 5) .skip (.region [oa 0 8 (.bin .eql (.t 4) (.c (.int .i64 10))),
 om 1 5 8])))))
  (.cond (.t 5) (.seq [2] (.region [oa 0 9 (.fieldA 1 (.t 1)),
 oa 1 10 (.loadB 0 none (.t 9)),
 oa 2 11 (.bin .eql (.t 10) (.c (.int .i64 0))),
 om 3 12 11,
 og 4 13 (.fieldA 2 (.t 1)) 12 true,
 og 5 14 (.loadB 0 none (.t 13)) 12 true,
 og 6 15 (.bin .eql (.t 14) (.c (.int .i64 0))) 12 true,
 oa 7 16 (.pick (.t 12) (.t 15) (.c (.bool false))),
 om 8 17 16,
 og 9 18 (.fieldA 3 (.t 1)) 17 true,
 og 10 19 (.loadB 0 none (.t 18)) 17 true,
 og 11 20 (.bin .eql (.t 19) (.c (.int .i64 0))) 17 true,
 oa 12 21 (.pick (.t 17) (.t 20) (.c (.bool false))),
 om 13 2 21])
  .ret) (.seq [22,4,1] (.region [oa 0 23 (.bin .eql (.t 4) (.c (.int .i64 2))),
 om 1 22 23])
  (.cond (.t 22) (.seq [2] (.region [oa 0 24 (.fieldA 3 (.t 1)),
 oa 1 25 (.loadB 0 none (.t 24)),
 oa 2 26 (.bin .eql (.t 25) (.c (.int .i64 0))),
 om 3 27 26,
 og 4 28 (.fieldA 1 (.t 1)) 27 true,
 og 5 29 (.loadB 0 none (.t 28)) 27 true,
 og 6 30 (.bin .eql (.t 29) (.c (.int .i64 0))) 27 true,
 og 7 31 (.mv (.t 30)) 27 true,
 og 8 32 (.fieldA 1 (.t 1)) 31 false,
 og 9 33 (.loadB 0 none (.t 32)) 31 false,
 ⟨10,some 34,.call false Zcd Zd4 Zh8 [(.t 33)],(some (31,false)),[]⟩,
 og 11 35 (.pick (.t 31) (.c (.bool true)) (.t 34)) 27 true,
 oa 12 36 (.pick (.t 27) (.t 35) (.c (.bool false))),
 om 13 37 36,
 og 14 38 (.fieldA 2 (.t 1)) 37 true,
 og 15 39 (.loadB 0 none (.t 38)) 37 true,
 og 16 40 (.bin .eql (.t 39) (.c (.int .i64 0))) 37 true,
 og 17 41 (.mv (.t 40)) 37 true,
 og 18 42 (.fieldA 2 (.t 1)) 41 false,
 og 19 43 (.loadB 0 none (.t 42)) 41 false,
 ⟨20,some 44,.call false Zce Zd7 Zia [(.t 43)],(some (41,false)),[]⟩,
 og 21 45 (.pick (.t 41) (.c (.bool true)) (.t 44)) 37 true,
 oa 22 46 (.pick (.t 37) (.t 45) (.c (.bool false))),
 om 23 47 46,
 og 24 48 (.fieldA 1 (.t 1)) 47 true,
 og 25 49 (.loadB 0 none (.t 48)) 47 true,
 og 26 50 (.bin .neq (.t 49) (.c (.int .i64 0))) 47 true,
 og 27 51 (.mv (.t 50)) 47 true,
 og 28 52 (.fieldA 2 (.t 1)) 51 false,
 og 29 53 (.loadB 0 none (.t 52)) 51 false,
 og 30 54 (.bin .neq (.t 53) (.c (.int .i64 0))) 51 false,
 og 31 55 (.pick (.t 51) (.c (.bool true)) (.t 54)) 47 true,
 oa 32 56 (.pick (.t 47) (.t 55) (.c (.bool false))),
 om 33 2 56])
  .ret) (.seq [57,4,1] (.seq [57,4,1] (.region [oa 0 58 (.bin .eql (.t 4) (.c (.int .i64 3))),
 om 1 57 58])
  (.cond (.t 57) .skip (.region [oa 0 59 (.bin .eql (.t 4) (.c (.int .i64 4))),
 om 1 57 59])))
  (.cond (.t 57) (.seq [2] (.region [oa 0 60 (.fieldA 1 (.t 1)),
 oa 1 61 (.loadB 0 none (.t 60)),
 oa 2 62 (.bin .eql (.t 61) (.c (.int .i64 0))),
 om 3 63 62,
 og 4 64 (.fieldA 2 (.t 1)) 63 true,
 og 5 65 (.loadB 0 none (.t 64)) 63 true,
 og 6 66 (.bin .eql (.t 65) (.c (.int .i64 0))) 63 true,
 oa 7 67 (.pick (.t 63) (.t 66) (.c (.bool false))),
 om 8 68 67,
 og 9 69 (.fieldA 3 (.t 1)) 68 true,
 og 10 70 (.loadB 0 none (.t 69)) 68 true,
 ⟨11,some 71,.call false ZcE Zem Zjd [(.t 70)],(some (68,true)),[]⟩,
 oa 12 72 (.pick (.t 68) (.t 71) (.c (.bool false))),
 om 13 2 72])
  .ret) (.seq [73,4,1] (.region [oa 0 74 (.bin .eql (.t 4) (.c (.int .i64 5))),
 om 1 73 74])
  (.cond (.t 73) (.seq [2] (.region [oa 0 75 (.fieldA 1 (.t 1)),
 oa 1 76 (.loadB 0 none (.t 75)),
 oa 2 77 (.bin .eql (.t 76) (.c (.int .i64 0))),
 om 3 78 77,
 og 4 79 (.fieldA 2 (.t 1)) 78 true,
 og 5 80 (.loadB 0 none (.t 79)) 78 true,
 og 6 81 (.bin .eql (.t 80) (.c (.int .i64 0))) 78 true,
 oa 7 82 (.pick (.t 78) (.t 81) (.c (.bool false))),
 om 8 83 82,
 og 9 84 (.fieldA 3 (.t 1)) 83 true,
 og 10 85 (.loadB 0 none (.t 84)) 83 true,
 og 11 86 (.bin .geq (.t 85) (.c (.int .i64 0))) 83 true,
 oa 12 87 (.pick (.t 83) (.t 86) (.c (.bool false))),
 om 13 88 87,
 og 14 89 (.fieldA 3 (.t 1)) 88 true,
 og 15 90 (.loadB 0 none (.t 89)) 88 true,
 og 16 91 (.bin .leq (.t 90) (.c (.int .i64 3))) 88 true,
 oa 17 92 (.pick (.t 88) (.t 91) (.c (.bool false))),
 om 18 2 92])
  .ret) (.seq [93,4,1] (.region [oa 0 94 (.bin .eql (.t 4) (.c (.int .i64 9))),
 om 1 93 94])
  (.cond (.t 93) (.seq [2] (.region [oa 0 95 (.fieldA 1 (.t 1)),
 oa 1 96 (.loadB 0 none (.t 95)),
 oa 2 97 (.bin .eql (.t 96) (.c (.int .i64 0))),
 om 3 98 97,
 og 4 99 (.fieldA 2 (.t 1)) 98 true,
 og 5 100 (.loadB 0 none (.t 99)) 98 true,
 og 6 101 (.bin .eql (.t 100) (.c (.int .i64 0))) 98 true,
 oa 7 102 (.pick (.t 98) (.t 101) (.c (.bool false))),
 om 8 103 102,
 og 9 104 (.fieldA 3 (.t 1)) 103 true,
 og 10 105 (.loadB 0 none (.t 104)) 103 true,
 og 11 106 (.bin .geq (.t 105) (.c (.int .i64 0))) 103 true,
 oa 12 107 (.pick (.t 103) (.t 106) (.c (.bool false))),
 om 13 108 107,
 og 14 109 (.fieldA 3 (.t 1)) 108 true,
 og 15 110 (.loadB 0 none (.t 109)) 108 true,
 og 16 111 (.bin .leq (.t 110) (.c (.int .i64 3))) 108 true,
 oa 17 112 (.pick (.t 108) (.t 111) (.c (.bool false))),
 om 18 2 112])
  .ret) (.seq [113,4,1] (.region [oa 0 114 (.bin .eql (.t 4) (.c (.int .i64 6))),
 om 1 113 114])
  (.cond (.t 113) (.seq [2] (.region [oa 0 115 (.fieldA 1 (.t 1)),
 oa 1 116 (.loadB 0 none (.t 115)),
 oc 2 117 Zcd Zd4 Zh8 [(.t 116)],
 om 3 118 117,
 og 4 119 (.fieldA 2 (.t 1)) 118 true,
 og 5 120 (.loadB 0 none (.t 119)) 118 true,
 ⟨6,some 121,.call false Zce Zd7 Zia [(.t 120)],(some (118,true)),[]⟩,
 oa 7 122 (.pick (.t 118) (.t 121) (.c (.bool false))),
 om 8 123 122,
 og 9 124 (.fieldA 3 (.t 1)) 123 true,
 og 10 125 (.loadB 0 none (.t 124)) 123 true,
 og 11 126 (.bin .eql (.t 125) (.c (.int .i64 0))) 123 true,
 oa 12 127 (.pick (.t 123) (.t 126) (.c (.bool false))),
 om 13 2 127])
  .ret) (.seq [128,4,1] (.region [oa 0 129 (.bin .eql (.t 4) (.c (.int .i64 7))),
 om 1 128 129])
  (.cond (.t 128) (.seq [2] (.region [oa 0 130 (.fieldA 1 (.t 1)),
 oa 1 131 (.loadB 0 none (.t 130)),
 oc 2 132 Zcd Zd4 Zh8 [(.t 131)],
 om 3 133 132,
 og 4 134 (.fieldA 2 (.t 1)) 133 true,
 og 5 135 (.loadB 0 none (.t 134)) 133 true,
 og 6 136 (.bin .eql (.t 135) (.c (.int .i64 0))) 133 true,
 oa 7 137 (.pick (.t 133) (.t 136) (.c (.bool false))),
 om 8 138 137,
 og 9 139 (.fieldA 3 (.t 1)) 138 true,
 og 10 140 (.loadB 0 none (.t 139)) 138 true,
 ⟨11,some 141,.call false ZcE Zem Zjd [(.t 140)],(some (138,true)),[]⟩,
 oa 12 142 (.pick (.t 138) (.t 141) (.c (.bool false))),
 om 13 2 142])
  .ret) (.seq [143,1] (.region [oa 0 144 (.bin .eql (.t 4) (.c (.int .i64 8))),
 om 1 143 144])
  (.cond (.t 143) (.seq [2] (.region [oa 0 145 (.fieldA 1 (.t 1)),
 oa 1 146 (.loadB 0 none (.t 145)),
 oa 2 147 (.bin .eql (.t 146) (.c (.int .i64 0))),
 om 3 148 147,
 og 4 149 (.fieldA 2 (.t 1)) 148 true,
 og 5 150 (.loadB 0 none (.t 149)) 148 true,
 ⟨6,some 151,.call false Zce Zd7 Zia [(.t 150)],(some (148,true)),[]⟩,
 oa 7 152 (.pick (.t 148) (.t 151) (.c (.bool false))),
 om 8 153 152,
 og 9 154 (.fieldA 3 (.t 1)) 153 true,
 og 10 155 (.loadB 0 none (.t 154)) 153 true,
 og 11 156 (.bin .eql (.t 155) (.c (.int .i64 0))) 153 true,
 oa 12 157 (.pick (.t 153) (.t 156) (.c (.bool false))),
 om 13 2 157])
  .ret) .skip))))))))))))))))))
  (.seq [2] (.region [oa 0 2 (.mv (.c (.bool false)))])
  .ret)))
def df_impl_IsAction:DFun:=⟨1,158,1,true,[.tmp 2],ZoI⟩
@[irreducible] def Zcj:Zar:=Za5 df_impl_IsAction.er.er
@[irreducible] def ZdW:ZfF:=ZaQ df_impl_IsAction.er
theorem Zke:Zbd Zcj ZdW:=by unfold Zcj ZdW;exact Zav (f:=df_impl_IsAction.er) ⟨Zjk,Zjc,Zk0,Zjk,Zjc,Zjk,Zk0,Zjc,trivial⟩
def Zgy:List HT:=[.agg [(.frz,.int .i64),(.frz,.int .i64),(.frz,.int .i64),(.frz,.int .i64)]]
def Zga:QT:=.one (.one .own (.bool))
@[irreducible] def ZaF(x:Int×Int×Int×Int):Bool:=(shut fun x=>fnV df_impl_IsAction Zgy Zga x).1 x
@[irreducible] def Zct(x:Int×Int×Int×Int):Prop:=(shut fun x=>ZhR df_impl_IsAction Zgy Zga x).1 x
def ZiA:ZhA:=ZbC Zgy Zga Zct ZaF
theorem Zkj:Zbp ZdW ZiA:=by unfold ZdW;exact Zaz (f:=df_impl_IsAction) (hs:=Zgy) (q:=Zga) ⟨Zjg,Zjb,ZkT,Zjg,Zjb,Zjg,ZkT,Zjb,trivial⟩ (by kernel_rfl) (fun x=>by kernel_rfl) (fun x h=>by unfold Zct at h;exact Eq.mp (congrFun (shut _).2 x) h) (fun x=>by unfold ZaF;exact(congrFun (shut _).2 x).symm)
def Zn5:DCode:=
 (.seq [3,2] (.region [oa 0 2 (.boxB 0 4 (.t 0)),
 oa 1 3 (.boxB 1 4 (.t 1)),
 oa 2 4 (.mv (.c (.bool false)))])
  (.seq [3,2] (.seq [9,3,2] (.region [oa 0 5 (.fieldA 0 (.t 2)),
 oa 1 6 (.loadB 0 none (.t 5)),
 oa 2 7 (.fieldA 0 (.t 3)),
 oa 3 8 (.loadB 1 none (.t 7)),
 oa 4 9 (.bin .neq (.t 6) (.t 8))])
  (.cond (.t 9) (.seq [4] (.region [oa 0 4 (.mv (.c (.bool false)))])
  .ret) .skip))
  (.seq [3,2] (.seq [14,3,2] (.region [oa 0 10 (.fieldA 1 (.t 2)),
 oa 1 11 (.loadB 0 none (.t 10)),
 oa 2 12 (.fieldA 1 (.t 3)),
 oa 3 13 (.loadB 1 none (.t 12)),
 oa 4 14 (.bin .neq (.t 11) (.t 13))])
  (.cond (.t 14) (.seq [4] (.region [oa 0 4 (.mv (.c (.bool false)))])
  .ret) .skip))
  (.seq [3,2] (.seq [19,3,2] (.region [oa 0 15 (.fieldA 2 (.t 2)),
 oa 1 16 (.loadB 0 none (.t 15)),
 oa 2 17 (.fieldA 2 (.t 3)),
 oa 3 18 (.loadB 1 none (.t 17)),
 oa 4 19 (.bin .neq (.t 16) (.t 18))])
  (.cond (.t 19) (.seq [4] (.region [oa 0 4 (.mv (.c (.bool false)))])
  .ret) .skip))
  (.seq [] (.seq [24] (.region [oa 0 20 (.fieldA 3 (.t 2)),
 oa 1 21 (.loadB 0 none (.t 20)),
 oa 2 22 (.fieldA 3 (.t 3)),
 oa 3 23 (.loadB 1 none (.t 22)),
 oa 4 24 (.bin .neq (.t 21) (.t 23))])
  (.cond (.t 24) (.seq [4] (.region [oa 0 4 (.mv (.c (.bool false)))])
  .ret) .skip))
  (.seq [4] (.region [oa 0 4 (.mv (.c (.bool true)))])
  .ret))))))
def df_laws_eqAction:DFun:=⟨2,25,2,true,[.tmp 4],Zn5⟩
@[irreducible] def ZdX:Zar:=Za5 df_laws_eqAction.er.er
@[irreducible] def ZeL:ZfF:=ZaQ df_laws_eqAction.er
theorem ZoN:Zbd ZdX ZeL:=by unfold ZdX ZeL;exact Zav (f:=df_laws_eqAction.er) trivial
def Zgn:List HT:=[.agg [(.frz,.int .i64),(.frz,.int .i64),(.frz,.int .i64),(.frz,.int .i64)],.agg [(.frz,.int .i64),(.frz,.int .i64),(.frz,.int .i64),(.frz,.int .i64)]]
def ZfW:QT:=.one (.one .own (.bool))
@[irreducible] def ZdR(x:(Int×Int×Int×Int)×(Int×Int×Int×Int)):Bool:=(shut fun x=>fnV df_laws_eqAction Zgn ZfW x).1 x
@[irreducible] def Zc7(x:(Int×Int×Int×Int)×(Int×Int×Int×Int)):Prop:=(shut fun x=>ZhR df_laws_eqAction Zgn ZfW x).1 x
def ZkV:ZhA:=ZbC Zgn ZfW Zc7 ZdR
theorem Zox:Zbp ZeL ZkV:=by unfold ZeL;exact Zaz (f:=df_laws_eqAction) (hs:=Zgn) (q:=ZfW) trivial (by kernel_rfl) (fun x=>by kernel_rfl) (fun x h=>by unfold Zc7 at h;exact Eq.mp (congrFun (shut _).2 x) h) (fun x=>by unfold ZdR;exact(congrFun (shut _).2 x).symm)
end
section
set_option maxRecDepth 100000
theorem ZkK (x):ZaB x=(bAnd (iGe x.1 x.2.1) (iLe x.1 x.2.2)):=by unfold ZaB;exact(congrFun (shut _).2 x).trans (by kernel_rfl)
theorem Zk4 (x):Zb3 x=True:=by unfold Zb3;exact(congrFun (shut _).2 x).trans (by kernel_rfl)
theorem ZoF (x):ZaJ x=(bSel (bOr (iEq x.1 0) (bOr (iEq x.1 1) (iEq x.1 10))) (bAnd (iEq x.2.1 0) (bAnd (iEq x.2.2.1 0) (iEq x.2.2.2 0))) (bSel (iEq x.1 2) (bAnd (iEq x.2.2.2 0) (bSel (ZaB (x.2.1,1,56)) (bOr (ZaB (x.2.2.1,1,15)) (iEq x.2.2.1 0)) (bAnd (iEq x.2.1 0) (bAnd (ZaB (x.2.2.1,1,15)) (bOr (ZaB (x.2.2.1,1,15)) (iEq x.2.2.1 0)))))) (bSel (bOr (iEq x.1 3) (iEq x.1 4)) (bAnd (ZaB (x.2.2.2,1,3)) (bAnd (iEq x.2.1 0) (iEq x.2.2.1 0))) (bSel (bOr (iEq x.1 5) (iEq x.1 9)) (bAnd (ZaB (x.2.2.2,0,3)) (bAnd (iEq x.2.1 0) (iEq x.2.2.1 0))) (bSel (iEq x.1 6) (bAnd (ZaB (x.2.1,1,56)) (bAnd (ZaB (x.2.2.1,1,15)) (iEq x.2.2.2 0))) (bSel (iEq x.1 7) (bAnd (ZaB (x.2.1,1,56)) (bAnd (ZaB (x.2.2.2,1,3)) (iEq x.2.2.1 0))) (bAnd (iEq x.1 8) (bAnd (ZaB (x.2.2.1,1,15)) (bAnd (iEq x.2.1 0) (iEq x.2.2.2 0)))))))))):=by unfold ZaJ;exact(congrFun (shut _).2 x).trans (by kernel_rfl)
theorem Zoa (x):Zb0 x=((Zb3 (x.2.1,1,56))∧((Zb3 (x.2.2.1,1,15))∧((Zb3 (x.2.2.2,1,3))∧(((bOr (iEq x.1 0) (bOr (iEq x.1 1) (iEq x.1 10)))=true→True)∧((bOr (iEq x.1 0) (bOr (iEq x.1 1) (iEq x.1 10)))=false→(((iEq x.1 2)=true→True)∧((iEq x.1 2)=false→(((bOr (iEq x.1 3) (iEq x.1 4))=true→True)∧((bOr (iEq x.1 3) (iEq x.1 4))=false→(((bOr (iEq x.1 5) (iEq x.1 9))=true→(Zb3 (x.2.2.2,0,3)))∧((bOr (iEq x.1 5) (iEq x.1 9))=false→True))))))))))):=by unfold Zb0;exact(congrFun (shut _).2 x).trans (by kernel_rfl)
theorem Zl4 (x):Zbl x=(bAnd (iGe x 1) (iLe x 56)):=by unfold Zbl;exact(congrFun (shut _).2 x).trans (by kernel_rfl)
theorem Zq9 (x):ZcF x=True:=by unfold ZcF;exact(congrFun (shut _).2 x).trans (by kernel_rfl)
theorem Zry (x):Zdn x=(bAnd (iGe x 1) (iLe x 15)):=by unfold Zdn;exact(congrFun (shut _).2 x).trans (by kernel_rfl)
theorem Zre (x):Zcg x=True:=by unfold Zcg;exact(congrFun (shut _).2 x).trans (by kernel_rfl)
theorem ZpN (x):Zef x=(bAnd (iGe x 1) (iLe x 3)):=by unfold Zef;exact(congrFun (shut _).2 x).trans (by kernel_rfl)
theorem ZpH (x):ZcW x=True:=by unfold ZcW;exact(congrFun (shut _).2 x).trans (by kernel_rfl)
theorem Zkc (x):ZaF x=(bSel (bOr (iEq x.1 0) (bOr (iEq x.1 1) (iEq x.1 10))) (bAnd (iEq x.2.1 0) (bAnd (iEq x.2.2.1 0) (iEq x.2.2.2 0))) (bSel (iEq x.1 2) (bAnd (iEq x.2.2.2 0) (bSel (iEq x.2.1 0) (bSel (iEq x.2.2.1 0) (bOr (iNe x.2.1 0) (iNe x.2.2.1 0)) (bAnd (Zdn x.2.2.1) (bOr (iNe x.2.1 0) (iNe x.2.2.1 0)))) (bAnd (Zbl x.2.1) (bSel (iEq x.2.2.1 0) (bOr (iNe x.2.1 0) (iNe x.2.2.1 0)) (bAnd (Zdn x.2.2.1) (bOr (iNe x.2.1 0) (iNe x.2.2.1 0))))))) (bSel (bOr (iEq x.1 3) (iEq x.1 4)) (bAnd (iEq x.2.1 0) (bAnd (iEq x.2.2.1 0) (Zef x.2.2.2))) (bSel (iEq x.1 5) (bAnd (iEq x.2.1 0) (bAnd (iEq x.2.2.1 0) (bAnd (iGe x.2.2.2 0) (iLe x.2.2.2 3)))) (bSel (iEq x.1 9) (bAnd (iEq x.2.1 0) (bAnd (iEq x.2.2.1 0) (bAnd (iGe x.2.2.2 0) (iLe x.2.2.2 3)))) (bSel (iEq x.1 6) (bAnd (Zbl x.2.1) (bAnd (Zdn x.2.2.1) (iEq x.2.2.2 0))) (bSel (iEq x.1 7) (bAnd (Zbl x.2.1) (bAnd (iEq x.2.2.1 0) (Zef x.2.2.2))) (bAnd (iEq x.1 8) (bAnd (iEq x.2.1 0) (bAnd (Zdn x.2.2.1) (iEq x.2.2.2 0))))))))))):=by unfold ZaF;exact(congrFun (shut _).2 x).trans (by kernel_rfl)
theorem ZoA (x):Zct x=(((bOr (iEq x.1 0) (bOr (iEq x.1 1) (iEq x.1 10)))=true→True)∧((bOr (iEq x.1 0) (bOr (iEq x.1 1) (iEq x.1 10)))=false→(((iEq x.1 2)=true→(((iEq x.2.2.2 0)=true→(((iEq x.2.1 0)=true→(((iEq x.2.2.1 0)=true→True)∧((iEq x.2.2.1 0)=false→(Zcg x.2.2.1))))∧((iEq x.2.1 0)=false→((ZcF x.2.1)∧(((Zbl x.2.1)=true→(((iEq x.2.2.1 0)=true→True)∧((iEq x.2.2.1 0)=false→(Zcg x.2.2.1))))∧((Zbl x.2.1)=false→True))))))∧((iEq x.2.2.2 0)=false→True)))∧((iEq x.1 2)=false→(((bOr (iEq x.1 3) (iEq x.1 4))=true→(((iEq x.2.1 0)=true→(((iEq x.2.2.1 0)=true→(ZcW x.2.2.2))∧((iEq x.2.2.1 0)=false→True)))∧((iEq x.2.1 0)=false→True)))∧((bOr (iEq x.1 3) (iEq x.1 4))=false→(((iEq x.1 5)=true→True)∧((iEq x.1 5)=false→(((iEq x.1 9)=true→True)∧((iEq x.1 9)=false→(((iEq x.1 6)=true→((ZcF x.2.1)∧(((Zbl x.2.1)=true→(Zcg x.2.2.1))∧((Zbl x.2.1)=false→True))))∧((iEq x.1 6)=false→(((iEq x.1 7)=true→((ZcF x.2.1)∧(((Zbl x.2.1)=true→(((iEq x.2.2.1 0)=true→(ZcW x.2.2.2))∧((iEq x.2.2.1 0)=false→True)))∧((Zbl x.2.1)=false→True))))∧((iEq x.1 7)=false→(((iEq x.1 8)=true→(((iEq x.2.1 0)=true→(Zcg x.2.2.1))∧((iEq x.2.1 0)=false→True)))∧((iEq x.1 8)=false→True)))))))))))))))):=by unfold Zct;exact(congrFun (shut _).2 x).trans (by kernel_rfl)
theorem ZoJ (x):ZdR x=(bAnd (bNot (iNe x.1.1 x.2.1)) (bAnd (bNot (iNe x.1.2.1 x.2.2.1)) (bAnd (bNot (iNe x.1.2.2.1 x.2.2.2.1)) (bNot (iNe x.1.2.2.2 x.2.2.2.2))))):=by unfold ZdR;exact(congrFun (shut _).2 x).trans (by kernel_rfl)
theorem Zos (x):Zc7 x=True:=by unfold Zc7;exact(congrFun (shut _).2 x).trans (by kernel_rfl)
end
theorem Zj1(x:Int×Int×Int×Int):ZaJ x=ZaF x:=by
 simp only[ZoF,Zkc,ZkK,Zl4,Zry,ZpN,ZaC,ZaI,ZhG,Zjj,Zep,Zff,Zdz,ZaA,Zl2,Zug,ZqH,ZGu,ZGN,Zan,Zuz,ZbJ,ZqS,Zk1,Zxm,ZcT,ZBB,ZaK,ZEA]
 rw[Bool.eq_iff_iff]
 repeat' split
 all_goals simp only[Bool.and_eq_true,Bool.or_eq_true,Bool.not_eq_true',Bool.not_eq_false',Bool.and_eq_false_iff,Bool.or_eq_false_iff,decide_eq_true_eq,decide_eq_false_iff_not,Bool.not_eq_true,Bool.not_eq_false,beq_iff_eq,beq_eq_false_iff_ne] at *
 all_goals omega
theorem Zgm(x:Int×Int×Int×Int):Zb0 x:=by
 have h:∀ y,Zb3 y:=fun y=>by rw[Zk4];trivial
 rw[Zoa]
 simp[h]
theorem Zi1(x:Int×Int×Int×Int):Zct x:=by
 have h1:∀ y,ZcF y:=fun y=>by rw[Zq9];trivial
 have h2:∀ y,Zcg y:=fun y=>by rw[Zre];trivial
 have h3:∀ y,ZcW y:=fun y=>by rw[ZpH];trivial
 rw[ZoA]
 simp[h1,h2,h3]
theorem Zu0(a b c:Int):ZaB (a,b,c)=(decide (b≤a)&&decide (a≤c)):=by rw[ZkK];simp only[ZaI,ZqH,Zl2]
theorem ZEL (x):Zb3 x:=by rw[Zk4];trivial
end
end Go.Ag
