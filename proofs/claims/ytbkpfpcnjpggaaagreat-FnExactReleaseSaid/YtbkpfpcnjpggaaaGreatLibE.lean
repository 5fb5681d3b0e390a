/- Part 5 of what FnExactRelease needs. No conditions. -/
import Derived.WalkKit
import Derived.ProofKit
import Derived.OpenShut
import Derived.Carry
import Derived.ChangeSame
import Derived.Attr
import Derived.KernelRfl
import Derived.Test.YtbkpfpcnjpggaaaGreatLibD
namespace Go.Ag
set_option linter.unusedSimpArgs false
set_option linter.unusedVariables false
noncomputable section
def Um(p:C3)(D:Lj):Prop:=∀ (args:List DV) (g:PX) (v:DV) (Q:PV->List (List PV)->Prop),D args=some (g,v)->g.den->(∀ H,Q v.enc H)->p (DV.encL args) [] Q
def fH(p:C3)(D:Ia):Prop:=∀ (args:List DV) (b:List (List DV)) (g:PX) (v:DV) (H:List (List DV)) (Q:PV->List (List PV)->Prop),D args b=some (g,v,H)->g.den->Q v.enc (GK (J2 b H))->p (DV.encL args) (GK b) Q
inductive ObD where
 |nv (p:C3) (D:Lj)
 |wp (p:C3) (D:Ia)
def ObD.sound:ObD->Prop
 |.nv p D=>Um p D
 |.wp p D=>fH p D
def DOp.obs:DOp->List ObD
 |.a _ _ _=>[]
 |.aw _ _ _ _=>[]
 |.call _ _ p D _=>[.nv p D]
 |.mark _ _ _ _=>[]
 |.tk _ _ _ _=>[]
 |.callp _ _ p D _=>[.wp p D]
 |.callv _ _ p D _ _ _=>[.wp p D]
 |.fz _=>[]
 |.clm _ _ _=>[]
 |.fzb _ _=>[]
def TX:List DOper->List ObD
 |[]=>[]
 |o::r=>o.op.obs++TX r
def DCode.obs:DCode->List ObD
 |.skip=>[]
 |.region ops=>TX ops
 |.regionU ops=>TX ops
 |.seq _ a b=>a.obs++b.obs
 |.cond _ a b=>a.obs++b.obs
 |.block _ a=>a.obs
 |.scope a=>a.obs
 |.loop _ _ a=>a.obs
 |.exit _=>[]
 |.ret=>[]
def AllD:List ObD->Prop
 |[]=>True
 |o::r=>o.sound/\AllD r
theorem AllD.app:∀ {a b:List ObD},AllD (a++b)->AllD a/\AllD b
 |[],_,h=>⟨trivial,h⟩
 |_::_,_,⟨h1,h2⟩=>⟨⟨h1,(AllD.app h2).1⟩,(AllD.app h2).2⟩
theorem Uj{d:DS}{s:PS}(hs:ES d s):∀ (args:List Opnd),Hm (EJ d.sl args)=true->args.map (·.pev s.sl)=DV.encL (EJ d.sl args)
 |[],_=>rfl
 | x::r,h=>by
   simp only[EJ,Hm,Ai] at h
   simp only[B0,EJ,DV.encL,Uj hs r h.2]
   rw[(x.dev_ev hs).of (by intro e;rw[e] at h;cases h.1)]
theorem NB:∀ (l:List PV),l.any PV.hasPtr=PV.hasPtrL l
 |[]=>rfl
 |v::r=>by simp only[List.any_cons,PV.hasPtrL,NB r]
theorem Uf:∀ (l:List PV),l.map PV.fz=PV.fzL l
 |[]=>rfl
 |v::r=>by simp only[B0,PV.fzL,Uf r]
theorem WQ:∀ (l:List PV),(l.all λ v=>!v.hold)=!PV.holdL l
 |[]=>rfl
 |v::r=>by simp only[EY,PV.holdL,WQ r,Bool.not_or]
mutual
theorem eO:∀ (v:DV),v.deep=true->v.enc.deep=true
 |.undef,_|.bool _,_|.int _ _,_|.str _,_|.ifc _,_|.ptr _ _,_=>rfl
 |.nil q,h=>by cases q<;>first|rfl|cases h
 | .sl q r l,h=>by
   rw[DV.deep,Ai] at h
   obtain⟨h,h2⟩:=h
   cases q<;>first|(cases h;done)|exact WX r l h2
 |.agg cs,h=>Wn cs h
 |.tup cs,h=>Wn cs h
theorem Wn:∀ (l:List DV),DV.deepL l=true->PV.deepL (DV.encL l)=true
 |[],_=>rfl
 | v::r,h=>by
   simp only[DV.deepL,Ai] at h
   simp only[DV.encL,PV.deepL,eO v h.1,Wn r h.2,CZ]
end
theorem XN(v:DV):v.enc.retc=v.retc:=by
 cases v<;>first|rfl|skip
 case nil q=>cases q<;>rfl
 case sl q r l=>cases q<;>rfl
theorem fK:∀ (l:List DV),EK (DV.encL l)=Ib l
 |[]=>rfl
 |v::r=>by simp only[DV.encL,EK,Ib,XN v,fK r]
theorem yN(v:DV):v.enc.retok=v.retok:=by
 cases v<;>first|rfl|skip
 case nil q=>exact XN (.nil q)
 case sl q r l=>exact XN (.sl q r l)
 case agg cs=>exact fK cs
theorem yB{d:DS}{s:PS}(x:Opnd)(h:ES d s)(hk:∀ n,x= .t n->Bf d.sl n≠.any):ES (EA x d).2 (fzOut x s).2:=by
 cases x with
 |c v=>exact h
 | t n=>
   simp only[EA,QY,fzOut,U8];have hg:=(h.sl.get n).of (hk n rfl);rw[hg,HV,yN];by_cases ho:(Bf d.sl n).own=true
   . simp only[ho,A9];by_cases hr:(Bf d.sl n).retok=true
     . rw[Ac hr,Ac hr,<- XV];exact⟨(h.sl.put n (.inr rfl)).clr _,h.bx,h.hp⟩
     . rw[Af hr,Af hr];exact h
   . simp only[ho];exact h
theorem bg(v:DV):∀ (l:List DC) (k n:Nat),Bf l n= .any->k≠n->Bf (C6 l k v) n= .any
 |[],_,_,_,_=>rfl
 |_::_,0,0,_,hn=>absurd rfl hn
 |_::_,0,_+1,h,_=>h
 |_::_,_+1,0,h,_=>h
 |_::r,k+1,n+1,h,hn=>bg v r k n h (by simpa using hn)
theorem bf(hd:Hd):∀ (l:List DC) (n:Nat),Bf l n= .any->Bf (C7 hd l) n= .any
 |[],_,_=>rfl
 | c::_,0,h=>by
   have h:c.v= .any:=h
   simp only[C7,h,DV.bor,Bd,Bs,Bf]
 |_::r,n+1,h=>bf hd r n h
theorem uk(x:Opnd)(d:DS)(n:Nat)(h:Bf d.sl n= .any):Bf (EA x d).2.sl n= .any:=by
 cases x with
 |c v=>exact h
 | t k=>
   simp only[EA,QY];split
   . rename_i ho;split
     . refine bf _ _ _ (bg _ _ _ _ h ?_);rintro rfl;rw[h] at ho;cases ho
     . exact h
   . exact h
theorem aW:∀ (args:List Opnd) (d:DS) (n:Nat),Bf d.sl n= .any->Bf (Ef args d).sl n= .any
 |[],_,_,h=>h
 |x::r,d,n,h=>aW r _ n (uk x d n h)
theorem TV:∀ (args:List Opnd) {d:DS} {s:PS},ES d s->(∀ x∈args,x.dev (Ef args d).sl≠.any)->ES (Ef args d) (fzArgs args s)
 |[],_,_,h,_=>h
 | x::r,d,s,h,hk=>by
   refine TV r (yB x h λ n hx hn=>?_) λ y hy=>hk y (List.mem_cons_of_mem _ hy)
   subst hx
   exact hk (.t n) (KT ..) (aW (.t n::r) d n hn)
theorem Ta{sl:List DC}:∀ {args:List Opnd},Hm (EJ sl args)=true->∀ x∈args,x.dev sl≠.any
 |[],_,_,hx=>by cases hx
 | a::r,h,x,hx=>by
   simp only[EJ,Hm,Ai] at h
   rcases Ck.mp hx with rfl|hx
   . intro e;rw[e] at h;cases h.1
   . exact Ta h.2 x hx
theorem DS.fzArgs_chg:∀ (args:List Opnd) (d:DS),ChgS d (Ef args d)
 |[],d=>ChgS.refl d
 |x::r,d=>(ChgS.fzOut x d).trans (DS.fzArgs_chg r _)
section
variable {E:AExit} {D':DS}
def QV(E:AExit)(D':DS)(K:DS->DT)(k:PS->Prop):Prop:=∀ d s,ES d s->(K d).ok.den->(K d).lf=some (E,D')->k s
theorem ZaN{A B:Type}(e:A=B)(h:List A=List B)(x:A)(l:List A):h.mp (x::l)=e.mp x::h.mp l:=by subst e;rfl
theorem Zb2{A B:Type}(e:A=B)(h:List A=List B):h.mp []=[]:=by subst e;rfl
theorem ZaV{A A' B B':Type}(e1:A=A')(e2:B=B')(h:(A×B)=(A'×B'))(x:A×B):h.mp x=(e1.mp x.1,e2.mp x.2):=by subst e1;subst e2;rfl
mutual
theorem gf:∀ (t:CT) (x:t.D),CT.enc t.nrm ((CT.D_nrm t).symm.mp x)=(CT.enc t x).ownr
 |.int _,_|.bool,_|.str,_|.ifc,_=>rfl
 | .sl r,l=>by
   show PV.sl .own _=PV.sl .own _
   rw[<- T5 r l];rfl
 | .slf r,l=>by
   show PV.sl .own _=PV.sl .own _
   rw[<- T5 r l];rfl
theorem gn:∀ (r:RT) (x:r.D),RT.enc r.nrm ((RT.D_nrm r).symm.mp x)=PV.ownrL (RT.enc r x)
 | .one t,x=>by
   show [CT.enc t.nrm ((CT.D_nrm t).symm.mp x)]=[(CT.enc t x).ownr]
   rw[gf t x]
 | .cons t r,x=>by
   have e:=ZaV (CT.D_nrm t).symm (RT.D_nrm r).symm (RT.D_nrm (.cons t r)).symm x
   show RT.enc (.cons t.nrm r.nrm) ((RT.D_nrm (.cons t r)).symm.mp x)=(CT.enc t x.1).ownr::PV.ownrL (RT.enc r x.2)
   rw[<- gf t x.1,<- gn r x.2]
   show CT.enc t.nrm ((RT.D_nrm (.cons t r)).symm.mp x).1::RT.enc r.nrm ((RT.D_nrm (.cons t r)).symm.mp x).2=_
   rw[show ((RT.D_nrm (.cons t r)).symm.mp x)=_ from e]
theorem T5:∀ (r:RT) (l:List r.D),(UY r l).map (RT.enc r.nrm)=PV.ownrE (l.map (RT.enc r))
 | r,[]=>by
   unfold UY
   rw[Zb2 (RT.D_nrm r).symm];rfl
 | r,x::l=>by
   have i:=T5 r l
   unfold UY at i ⊢
   rw[ZaN (RT.D_nrm r).symm,B0,B0,i,gn r x];rfl
end
mutual
theorem iv:∀ (t:CT) (x:t.D),t.pl=true->(CT.enc t x).ownr=CT.enc t x
 |.int _,_,_|.bool,_,_|.str,_,_|.ifc,_,_=>rfl
 | .sl r,l,h=>by
   show PV.sl .own _=PV.sl .own _
   rw[XZ r l h]
 |.slf _,_,h=>by cases h
theorem iE:∀ (r:RT) (x:r.D),r.pl=true->PV.ownrL (RT.enc r x)=RT.enc r x
 | .one t,x,h=>by
   show [(CT.enc t x).ownr]=[CT.enc t x]
   rw[iv t x h]
 | .cons t r,x,h=>by
   rw[RT.pl,Ai] at h
   show (CT.enc t x.1).ownr::PV.ownrL (RT.enc r x.2)=CT.enc t x.1::RT.enc r x.2
   rw[iv t x.1 h.1,iE r x.2 h.2]
theorem XZ:∀ (r:RT) (l:List r.D),r.pl=true->PV.ownrE (l.map (RT.enc r))=l.map (RT.enc r)
 |_,[],_=>rfl
 |r,x::l,h=>by rw[B0,PV.ownrE,iE r x h,XZ r l h]
end
theorem dZ(v:DV):v.nrm1.enc=v.enc.nrm1:=by
 cases v with
 | sl q r l=>
   cases q with
   | frz=>
     show (DV.nrm1 (.sl .frz r l)).enc=PV.sl .frz _;rw[DV.nrm1];split
     . rename_i h;show PV.sl .frz _=PV.sl .frz _;rw[XZ r l h]
     . show PV.sl .frz _=PV.sl .frz _;rw[T5 r l]
   |_=>rfl
 |nil q=>cases q<;>rfl
 |_=>rfl
theorem eK:∀ l:List DV,DV.encL (DV.nrmA l)=PV.nrmA (DV.encL l)
 |[]=>rfl
 |v::r=>by simp only[DV.nrmA,DV.encL,PV.nrmA,dZ v,eK r]
theorem fq(v:DV):v.nrm.enc=v.enc.nrm:=by
 cases v with
 | agg cs=>
   show PV.agg _=PV.agg _;rw[eK]
 |sl q r l=>exact dZ _
 |nil q=>cases q<;>rfl
 |_=>rfl
theorem TT:∀ l:List DV,DV.encL (DV.nrmV l)=(DV.encL l).map PV.nrm
 |[]=>rfl
 |v::r=>by simp only[DV.nrmV,DV.encL,B0,fq v,TT r]
theorem ZaY{D:Lj}{p:C3}(hp:Um p D){args:List Opnd}{d d1:DS}{s:PS}{g:PX}{v:DV}{dst:Option Nat}{k:PS->Prop}(hs:ES d s)(h:Mz D args d=some (g,v,d1))(hg:g.den)(hk:∀ s',ES (d1.put dst v) s'->k s'):Yk p args dst k s:=by
 unfold Mz at h;simp only at h;split at h
 . rename_i hc;simp only[Ai,BJ] at hc;obtain⟨h1,h2⟩:=hc;split at h
   . rename_i g1 v1 hD;split at h
     . rename_i hr;simp only[Ai,BJ,Cg] at hr;obtain⟨⟨hok,hnp⟩,hdp⟩:=hr;simp only[Am,Ao] at h;obtain⟨rfl,rfl,rfl⟩:=h;have e:=Uj hs args h1;refine⟨by rw[e,NB,Kq,h2],by rw[e];exact S7 _ h1,?_⟩;rw[e,NB,Kq,h2];simp only[Bd,Bs];rw[Uf,<- N9,<- TT]
       refine hp _ _ _ _ hD hg λ H=>⟨?_,?_⟩
       . rw[PC,hnp,WQ,PF];rcases hdp with h|h
         . simp[eO _ h]
         . simp[h]
       . rw[PC,hnp];simp only[Bd,Bs];exact hk _ (hs.put dst v1)
     . cases h
   . cases h
 . cases h
theorem eE{D:Lj}{args:List Opnd}{d d1:DS}{g:PX}{v:DV}(h:Mz D args d=some (g,v,d1)):d1=d/\Hm (EJ d.sl args)=true:=by
 unfold Mz at h;simp only at h;split at h
 . rename_i hc;simp only[Ai] at hc;split at h
   . split at h
     . simp only[Am,Ao] at h;exact⟨h.2.2.symm,hc.1⟩
     . cases h
   . cases h
 . cases h
theorem Y9(q:Ql):∀ es,(PV.sl q es).isH=q.isH'/\∀ j o,(PV.ep q es j o).isH=q.isH':=by
 intro es
 cases q with
 |bor hd p t=>cases hd<;>exact⟨rfl,λ _ _=>rfl⟩
 |pre hd p=>cases hd<;>exact⟨rfl,λ _ _=>rfl⟩
 |_=>exact⟨rfl,λ _ _=>rfl⟩
mutual
theorem Xt:∀ (v:DV),v.enc.isH=v.isH
 |.nil q=>(Y9 q []).1
 |.sl q r l=>(Y9 q _).1
 |.ep q r l j o=>(Y9 q _).2 j o
 |.agg cs=>WK cs
 |.tup vs=>WK vs
 |.any|.undef|.bool _|.int _ _|.str _|.ifc _|.box _ _|.ptr _ _=>rfl
theorem WK:∀ (l:List DV),PV.isHL (DV.encL l)=DV.isHL l
 |[]=>rfl
 |v::r=>by simp only[DV.encL,PV.isHL,DV.isHL,Xt v,WK r]
end
theorem EL.clrH:∀ {a:List DC} {b:List PV},EL a b->EL (QJ a) (Go.Ag.clrH b)
 |[],[],_=>trivial
 | c :: a,p::b,h=>by
   refine⟨?_,EL.clrH h.2⟩
   by_cases hc:c.v.isH=true
   . rw[Ac hc];exact .inl rfl
   . rw[Af hc]
     rcases h.1 with h1|h1
     . exact .inl h1
     . rw[h1,Xt,Af hc];exact .inr rfl
theorem EL.all:∀ {a:List DC} {b:List PV},EL a b->DV.okL (BV a)=true->b=DV.encL (BV a)
 |[],[],_,_=>rfl
 | c::a,p::b,h,hk=>by
   simp only[BV,DV.okL,Ai] at hk
   rcases h.1 with h1|h1
   . rw[h1] at hk;cases hk.1
   . simp only[BV,DV.encL];rw[h1,EL.all h.2 hk.2]
theorem EB.all:∀ {a:List (List DC)} {b:List (List PV)},EB a b->U7 (GF a)=true->b=GK (GF a)
 |[],[],_,_=>rfl
 | c::a,p::b,h,hk=>by
   simp only[GF,U7,Ai] at hk
   have hl:0<c.length:=by rw[<- TA];exact CR hk.1.1
   simp only[GF,GK];rw[(h.1.to hl).all hk.1.2,EB.all h.2 hk.2]
theorem EL.mix:∀ (a:List DC) (vs:List DV),EL (MI a vs) (DV.encL (OH (BV a) vs))
 |[],vs=>by simp only[MI,BV,OH];exact EL.news vs
 | c :: a,[]=>by
   have:∀ (a:List DC),EL a (DV.encL (BV a)):=by
    intro a
    induction a with
    |nil=>exact trivial
    |cons x r ih=>exact⟨.inr rfl,ih⟩
   exact this (c::a)
 | c::a,v::vs=>by
   simp only[MI,BV,OH];refine⟨?_,EL.mix a vs⟩;by_cases h:v.isAny=true
   . rw[Ac h,Ac h];exact .inr rfl
   . rw[Af h,Af h];exact .inr rfl
theorem EB.newsB:∀ (vs:List (List DV)),EB (Go.Ag.newsB vs) (GK vs)
 |[]=>trivial
 |v::r=>⟨.inr (EL.news v),EB.newsB r⟩
theorem EB.mix:∀ (a:List (List DC)) (vs:List (List DV)),EB (MM a vs) (GK (J2 (GF a) vs))
 |[],vs=>by simp only[MM,GF,J2];exact EB.newsB vs
 | c :: a,[]=>by
   have h0:∀ (a:List DC),MI a []=a:=by intro a;cases a<;>rfl
   have h1:∀ (a:List DC),OH (BV a) []=BV a:=by intro a;cases a<;>rfl
   have:∀ (a:List (List DC)),EB a (GK (GF a)):=by
    intro a
    induction a with
    |nil=>exact trivial
    | cons x r ih=>
      refine⟨.inr ?_,ih⟩;have:=EL.mix x [];rw[h0,h1] at this;exact this
   exact this (c::a)
 | c::a,v::vs=>by
   simp only[MM,GF,J2];exact⟨.inr (EL.mix c v),EB.mix a vs⟩
theorem Wk:∀ (a:List (List DV)),(GK a).length=a.length
 |[]=>rfl
 |_::r=>by simp only[GK,Bi,Wk r]
theorem cR:∀ (a vs:List (List DV)),a.length<=(J2 a vs).length
 |[],_=>FW _
 |_::_,[]=>Bt _
 |_::a,_::vs=>by simp only[J2,Bi];exact Nat.succ_le_succ (cR a vs)
theorem eQ{D:Ia}{p:C3}(hp:fH p D){args:List Opnd}{d d1:DS}{s:PS}{g:PX}{v:DV}{dst:Option Nat}{k:PS->Prop}(hs:ES d s)(h:JN D args d=some (g,v,d1))(hg:g.den)(hk:∀ s',ES (d1.put dst v) s'->k s'):QB p args dst k s:=by
 unfold JN at h;simp only at h;split at h
 . rename_i hc;simp only[Ai,BJ] at hc;obtain⟨⟨h1,h2⟩,h3⟩:=hc;have e:=Uj hs args h1;have eh:=hs.hp.all h3
   have hun:((DV.encL (EJ d.sl args)).all λ v=>!v.hold)=true:=by rw[WQ,PF,h2];rfl
   split at h
   . rename_i hpt;split at h
     . rename_i g1 v1 H hD;split at h
       . rename_i hr;simp only[Ai,BJ] at hr;simp only[Am,Ao] at h;obtain⟨rfl,rfl,rfl⟩:=h;refine⟨by rw[e];exact S7 _ h1,?_⟩;rw[e,NB,Kq,hpt];simp only[A9];refine⟨hun,?_⟩;rw[Uf,<- N9,<- TT,eh];have hE:ES { d with sl:=QJ d.sl,hp:=MM d.hp H } { s with sl:=Go.Ag.clrH s.sl,hp:=GK (J2 (GF d.hp) H) }:=⟨hs.sl.clrH,hs.bx,EB.mix d.hp H⟩;refine hp _ _ _ _ _ _ hD hg ⟨?_,by rw[PC];exact hr.2,hk _ (hE.put dst v1)⟩;rw[Wk,Wk];exact cR _ _
       . cases h
     . cases h
   . rename_i hpt;split at h
     . rename_i hl;have hl:d.hp=[]:=Dc (by simpa using hl);split at h
       . rename_i g1 v1 H hD;split at h
         . rename_i hr;simp only[Am,Ao] at h;obtain⟨rfl,rfl,rfl⟩:=h
           have hv:v1= .ptr 0 0:=by
            unfold DV.isP0 at hr;split at hr
            . rfl
            . cases hr
           subst hv
           have hsl:s.hp=[]:=by rw[eh,hl];rfl
           refine⟨by rw[e];exact S7 _ h1,?_⟩;rw[e,NB,Kq];rw[Af (by simpa using hpt)];rw[Uf,<- N9,<- TT]
           have:=hp _ [] _ _ _ (λ r H=>(((!r.hasPtr&&r.deep)||(DV.encL (EJ d.sl args)).all λ v=>!v.hold)=true)/\k (PS.put { s with hp:=if r.hasPtr then s.hp++H else s.hp } dst (if r.hasPtr then r.shift s.hp.length else r))) hD hg ⟨by rw[hun];simp,by
            have hE:ES { d with hp:=newsB H } { s with hp:=GK H }:=⟨hs.sl,hs.bx,EB.newsB H⟩;have:=hk _ (hE.put dst (.ptr 0 0))
            simpa [hsl,DV.enc,PV.hasPtr,PV.shift,J2] using this⟩
           exact this
         . cases h
       . cases h
     . cases h
 . cases h
theorem dK{i c:Nat}{D:Ia}{args:List Opnd}{d d1:DS}{g:PX}{v:DV}(h:Qp i c D args d=some (g,v,d1)) :
 DV.hasPtrL (EJ d.sl args)=true/\(BN d (.b i) [c]).ownS=true/\JN D args d=some (g,v,d1):=by
 unfold Qp at h
 by_cases hc:(DV.hasPtrL (EJ d.sl args)&&(BN d (.b i) [c]).ownS)=true
 . rw[Ac hc] at h
   rw[Ai] at hc;exact⟨hc.1,hc.2,h⟩
 . rw[Af hc] at h;cases h
theorem Tt{D:Ia}{args:List Opnd}{d d1:DS}{g:PX}{v:DV}(h:JN D args d=some (g,v,d1)):ChgS d d1/\Hm (EJ d.sl args)=true:=by
 have cH:∀ (l:List DC),Chg l (QJ l):=by
  intro l
  induction l with
  |nil=>trivial
  | cons c r ih=>
    refine⟨?_,ih⟩;by_cases hc:c.v.isH=true
    . rw[Ac hc];exact .inl rfl
    . rw[Af hc];exact .inr rfl
 have cN:∀ (x:List DC) (vs:List DV),Chg x (news vs):=by
  intro x vs
  induction vs generalizing x with
  |nil=>cases x<;>trivial
  | cons v r ih=>cases x with
    |nil=>exact⟨rfl,ih []⟩
    |cons c x=>exact⟨.inl rfl,ih x⟩
 have cM:∀ (a:List DC) (vs:List DV),Chg a (MI a vs):=by
  intro a
  induction a with
  |nil=>intro vs;exact cN [] vs
  | cons c r ih=>
    intro vs
    cases vs with
    |nil=>exact Chg.refl _
    | cons v vs=>
      refine⟨?_,ih vs⟩;by_cases h:v.isAny=true
      . rw[Ac h];exact .inr rfl
      . rw[Af h];exact .inl rfl
 have cNB:∀ (x:List (List DC)) (vs:List (List DV)),ChgB x (newsB vs):=by
  intro x vs
  induction vs generalizing x with
  |nil=>cases x<;>trivial
  | cons v r ih=>cases x with
    |nil=>exact⟨cN _ _,ih []⟩
    |cons c x=>exact⟨cN _ _,ih x⟩
 have cMB:∀ (a:List (List DC)) (vs:List (List DV)),ChgB a (MM a vs):=by
  intro a
  induction a with
  |nil=>intro vs;exact cNB [] vs
  | cons c r ih=>
    intro vs
    cases vs with
    |nil=>exact ChgB.refl _
    |cons v vs=>exact⟨cM c v,ih vs⟩
 unfold JN at h;simp only at h;split at h
 . rename_i hc;simp only[Ai] at hc;refine⟨?_,hc.1.1⟩;split at h
   . split at h
     . split at h
       . simp only[Am,Ao] at h;obtain⟨_,_,rfl⟩:=h;exact⟨cH _,ChgB.refl _,cMB _ _⟩
       . cases h
     . cases h
   . split at h
     . split at h
       . split at h
         . simp only[Am,Ao] at h;obtain⟨_,_,rfl⟩:=h;exact⟨Chg.refl _,ChgB.refl _,cNB _ _⟩
         . cases h
       . cases h
     . cases h
 . cases h
theorem e9{d:DS}{s:PS}(x:Opnd)(hs:ES d s)(hk:x.dev d.sl≠.any)(ho:(x.dev d.sl).own=false):mvOut x s=((x.dev d.sl).enc,s):=by
 cases x with
 |c v=>simp only[mvOut,Opnd.dev];rw[PU v hk]
 | t n=>
   have:=(hs.sl.get n).of hk;simp only[mvOut,Gd,this,HV,Opnd.dev] at ho ⊢;rw[Af (by simp[ho])]
theorem Uw{o:DOp}(ho:AllD o.obs){dst:Option Nat}{K:DS->DT}{k:PS->Prop}(hK:QV E D' K k):QV E D' (BT o dst K) (λ s=>Cm o.er dst k s):=by
 intro d s hs hok hl
 cases o with
 | call m f p D args=>
   simp only[BT] at hok hl;simp only[DOp.er,Cm]
   cases hc:Mz D args (if m=true then Ef args d else d) with
   |none=>rw[hc] at hok;exact hok.elim
   | some r=>
     obtain⟨g,v,d1⟩:=r;rw[hc] at hok hl;simp only[DT.chk_ok,DT.chk_lf] at hok hl;obtain⟨e1,e2⟩:=eE hc
     have hs':ES (if m=true then Ef args d else d) (if m=true then fzArgs args s else s):=by
      cases m with
      |false=>exact hs
      |true=>exact TV args hs (Ta e2)
     exact ZaY ho.1 hs' hc hok.1 λ s' hs'=>hK _ _ hs' hok.2 hl
 | aw ws m o ty=>
   simp only[BT] at hok hl;simp only[DOp.er,Cm]
   cases hst:Ma ws m o ty d with
   |none=>rw[hst] at hok;exact hok.elim
   | some r=>
     obtain⟨g,v,d1⟩:=r;rw[hst] at hok hl;simp only[DT.chk_ok,DT.chk_lf] at hok hl;obtain⟨s',v0,e1,e2,e3⟩:=tq hs hst hok.1;simp only[e1,e2];exact hK _ _ (e3.put dst v) hok.2 hl
 | tk f M x y=>
   simp only[BT] at hok hl;simp only[DOp.er,Cm]
   cases hst:MW M x y d with
   |none=>rw[hst] at hok;exact hok.elim
   | some r=>
     obtain⟨g,v,d1⟩:=r;rw[hst] at hok hl;simp only[DT.chk_ok,DT.chk_lf] at hok hl
     exact Zb7 hs hst hok.1 λ s' hs'=>hK _ _ (hs'.put dst v) hok.2 hl
 | mark f M x y=>
   simp only[BT] at hok hl;simp only[DOp.er,Cm]
   cases hst:My M x y d with
   |none=>rw[hst] at hok;exact hok.elim
   | some r=>
     obtain⟨g,v,d1⟩:=r;rw[hst] at hok hl;simp only[DT.chk_ok,DT.chk_lf] at hok hl
     exact Zbe hs hst hok.1 λ s' hs'=>hK _ _ (hs'.put dst v) hok.2 hl
 | callp m f p D args=>
   simp only[BT] at hok hl;simp only[DOp.er,Cm]
   cases hc:JN D args (if m=true then Ef args d else d) with
   |none=>rw[hc] at hok;exact hok.elim
   | some r=>
     obtain⟨g,v,d1⟩:=r;rw[hc] at hok hl;simp only[DT.chk_ok,DT.chk_lf] at hok hl;obtain⟨e1,e2⟩:=Tt hc
     have hs':ES (if m=true then Ef args d else d) (if m=true then fzArgs args s else s):=by
      cases m with
      |false=>exact hs
      |true=>exact TV args hs (Ta e2)
     exact eQ ho.1 hs' hc hok.1 λ s' hs'=>hK _ _ hs' hok.2 hl
 | callv m f p D args i c=>
   simp only[BT] at hok hl;simp only[DOp.er,Cm]
   cases hc:Qp i c D args (if m=true then Ef args d else d) with
   |none=>rw[hc] at hok;exact hok.elim
   | some r=>
     obtain⟨g,v,d1⟩:=r;rw[hc] at hok hl;simp only[DT.chk_ok,DT.chk_lf] at hok hl;obtain⟨hcv,e0,hc⟩:=dK hc;obtain⟨e1,e2⟩:=Tt hc
     have hs':ES (if m=true then Ef args d else d) (if m=true then fzArgs args s else s):=by
      cases m with
      |false=>exact hs
      |true=>exact TV args hs (Ta e2)
     refine⟨⟨?_,?_⟩,eQ ho.1 hs' hc hok.1 λ s' hs'=>hK _ _ hs' hok.2 hl⟩
     . rw[Uj hs' args e2,NB,Kq,hcv]
     . have:=Gm hs' (.b i) [c] (λ e=>by rw[e] at e0;cases e0);rw[this];unfold DV.ownS at e0;split at e0
       . rename_i r l h;rw[h];exact⟨_,rfl⟩
       . rename_i h;rw[h];exact⟨_,rfl⟩
       . cases e0
 | fz x=>
   simp only[BT] at hok hl;simp only[DOp.er,Cm];by_cases hk:(EA x d).1.ok=true
   . rw[Ac hk] at hok hl;obtain⟨e1,e2⟩:=uR x hs hk;rw[e1,<- fq];exact hK _ _ (e2.put dst _) hok hl
   . rw[Af hk] at hok;exact hok.elim
 | fzb a o=>
   simp only[BT] at hok hl;simp only[DOp.er,Cm]
   cases hc:Q4 (a.dev d.sl) d with
   |none=>rw[hc] at hok;exact hok.elim
   | some d1=>
     rw[hc] at hok hl;simp only at hok hl
     cases hst:Bm false o none d1 with
     |none=>rw[hst] at hok;exact hok.elim
     | some r=>
       obtain⟨g,v,d2⟩:=r;rw[hst] at hok hl;simp only[DT.chk_ok,DT.chk_lf] at hok hl;obtain⟨s1,k1,k2⟩:=ZbE hs (a.dev_ev hs) hc;obtain⟨s',e1,e2⟩:=SZ k2 hst hok.1;simp only[k1,e1];exact hK _ _ (e2.put dst v) hok.2 hl
 | clm a t o=>
   simp only[BT] at hok hl;simp only[DOp.er,Cm]
   cases hc:MR a t d with
   |none=>rw[hc] at hok;exact hok.elim
   | some r=>
     obtain⟨g0,d1⟩:=r;rw[hc] at hok hl;simp only at hok hl
     cases hst:Bm false o none d1 with
     |none=>rw[hst] at hok;exact hok.elim
     | some r=>
       obtain⟨g,v,d2⟩:=r;rw[hst] at hok hl;simp only[DT.chk_ok,DT.chk_lf] at hok hl;have hg:=(PX.land_den _ _).mp hok.1
       refine ZbG hs hc hg.1 λ s1 hs1=>?_
       obtain⟨s',e1,e2⟩:=SZ hs1 hst hg.2;simp only[e1];exact hK _ _ (e2.put dst v) hok.2 hl
 | a m o ty=>
   have gen:(match Bm m o ty d with|some (g,v,st)=>DT.chk' g (K (st.put dst v))|none=>DT.bad).ok.den->(match Bm m o ty d with|some (g,v,st)=>DT.chk' g (K (st.put dst v))|none=>DT.bad).lf=some (E,D')->Cm (DOp.a m o ty).er dst k s:=by
    intro hok hl
    cases hst:Bm m o ty d with
    |none=>rw[hst] at hok;exact hok.elim
    | some r=>
      obtain⟨g,v,d1⟩:=r;rw[hst] at hok hl;simp only[DT.chk_ok,DT.chk_lf] at hok hl;obtain⟨s',e1,e2⟩:=SZ hs hst hok.1;simp only[DOp.er,Cm,e1];exact hK _ _ (e2.put dst v) hok.2 hl
   cases o<;>first|exact gen hok hl|skip
   case pick c a b=>
    clear gen;simp only[BT] at hok hl;have hc:=c.dev_ev hs
    have one:∀ (x:Opnd),(match Bl x d with|(v,st)=>if v.ok=true then K (st.put dst v) else DT.bad).ok.den->(match Bl x d with|(v,st)=>if v.ok=true then K (st.put dst v) else DT.bad).lf=some (E,D')->k ((mvOut x s).2.put dst (mvOut x s).1):=by
     intro x hok hl;by_cases hv:(Bl x d).1.ok=true
     . simp only[Ac hv] at hok hl;obtain⟨m1,m2⟩:=Ex x hs hv;rw[m1];exact hK _ _ (m2.put dst _) hok hl
     . simp only[Af hv] at hok;exact hok.elim
    cases hcv:c.dev d.sl with
    | bool t=>
      rw[hcv] at hc;have hp:=hc.of (by simp);simp only[DOp.er,Cm,Bu,hp,DV.enc]
      cases t with
      | lit t=>
        rw[hcv] at hok hl
        cases t with
        |true=>exact one a hok hl
        |false=>exact one b hok hl
      | dyn t=>
        rw[hcv] at hok hl;simp only at hok hl;split at hok
        . rename_i h;rw[Ac h] at hl;have hok:=(PX.if_den _ _ _).mp hok
          cases t with
          |true=>exact one a (hok.1 rfl) hl
          |false=>exact one b (hok.2 rfl) hl
        . rename_i h;rw[Af h] at hl;simp only[JX,Cy,Cf] at h;obtain⟨⟨h1,h2⟩,h3⟩:=h
          have ka:a.dev d.sl≠.any:=by
           intro e;rw[e] at h3;cases hb:b.dev d.sl<;>rw[hb] at h3<;>cases h3
          have kb:b.dev d.sl≠.any:=by
           intro e;rw[e] at h3;cases hb:a.dev d.sl<;>rw[hb] at h3<;>cases h3
          have hm:C5 t (a.dev d.sl) (b.dev d.sl)≠.any:=by intro e;rw[e] at h3;cases h3
          have he:=(Uv t (a.dev d.sl) (b.dev d.sl)).resolve_left hm;have:=hK _ _ (hs.put dst (C5 t (a.dev d.sl) (b.dev d.sl))) hok hl;rw[he] at this;simp only[BX.b]
          cases t with
          |true=>simp only[A9,e9 a hs ka h1];exact this
          |false=>simp only[Bd,Bs,e9 b hs kb h2];exact this
    |_=>rw[hcv] at hok;exact hok.elim
theorem fN{d:DS}{s:PS}{g:Nat}{b:Bool}(hs:ES d s)(h:Aa s.sl g= .fl (.bool b)):ES (MN d g b) s:=by
 refine⟨?_,hs.bx,hs.hp⟩
 have:∀ {a:List DC} {l:List PV} (n:Nat),EL a l->Aa l n= .fl (.bool b)->EL (C6 a n (.bool (.lit b))) l:=by
  intro a
  induction a with
  |nil=>intro l n h _;exact h
  | cons c a ih=>
    intro l n h hg
    cases l with
    |nil=>exact h.elim
    | cons p l=>
      cases n with
      |zero=>exact⟨.inr hg,h.2⟩
      |succ n=>exact⟨h.1,ih n h.2 hg⟩
 exact this g hs.sl h
theorem Zab{o:DOper}(ho:AllD o.op.obs){K:DS->DT}{k:PS->Prop}(hK:QV E D' K k):QV E D' (OD o K) (λ s=>Hx o.er k s):=by
 intro d s hs hok hl
 have skip:∀ {d s},ES d s->(K (d.put o.dst (.tup []))).ok.den->(K (d.put o.dst (.tup []))).lf=some (E,D')->k (s.put o.dst (.tup [])):=λ hs hok hl=>hK _ _ (hs.put o.dst (.tup [])) hok hl
 unfold OD at hok hl;unfold Hx;simp only[DOper.er]
 cases hg:o.guard with
 |none=>rw[hg] at hok hl;exact Uw ho hK d s hs hok hl
 | some g=>
   obtain⟨g,want⟩:=g;rw[hg] at hok hl;simp only at hok hl ⊢;have hv:=hs.sl.get g
   cases hgv:Bf d.sl g with
   | bool t=>
     rw[hgv] at hok hl hv;have hp:=hv.of (by simp);simp only[DV.enc] at hp;rw[hp];simp only
     cases t with
     | lit t=>
       simp only at hok hl;by_cases hw:t=want
       . rw[Ac (by simpa using hw)] at hok hl;rw[Ac (show (BX.lit t).b=want from hw)];exact Uw ho hK d s hs hok hl
       . rw[Af (by simpa using hw)] at hok hl;rw[Af (show ¬ (BX.lit t).b=want from hw)];exact skip hs hok hl
     | dyn t=>
       simp only[BX.b] at hp ⊢;have hok:=(PX.if_den _ _ _).mp hok;have hs2:=fN hs hp
       cases t with
       | true=>
         have hok:=hok.1 rfl;simp only[DT.lf] at hl
         cases want with
         |true=>exact Uw ho hK _ s hs2 hok hl
         |false=>exact skip hs2 hok hl
       | false=>
         have hok:=hok.2 rfl;simp only[DT.lf] at hl
         cases want with
         |true=>exact skip hs2 hok hl
         |false=>exact Uw ho hK _ s hs2 hok hl
   | tup vs=>
     cases vs with
     | nil=>
       rw[hgv] at hok hl hv;have hp:=hv.of (by simp);simp only[DV.enc,DV.encL] at hp;rw[hp];exact skip hs hok hl
     |cons v r=>rw[hgv] at hok;exact hok.elim
   |_=>rw[hgv] at hok;exact hok.elim
theorem Yx:∀ (ops:List DOper),AllD (TX ops)->∀ {k:PS->Prop},E= .normal->(∀ s,ES D' s->k s)->QV E D' (Il ops) (λ s=>Ip (ops.map λ o=>o.er) k s)
 | [],_,k,hE,hk=>by
   intro d s hs hok hl
   simp only[Il,DT.lf,Am,Ao] at hl
   obtain⟨_,rfl⟩:=hl
   exact hk s hs
 | o::r,ho,k,hE,hk=>by
   obtain⟨h1,h2⟩:=ho.app
   exact Zab h1 (Yx r h2 hE hk)
end
theorem zM{o:DOp}{dst:Option Nat}{K:DS->DT}{b:DS}(hK:∀ d,ChgS b d->(K d).All (ChgS b)):∀ d,ChgS b d->(BT o dst K d).All (ChgS b):=by
 intro d hd
 cases o with
 | call m f p D args=>
   simp only[BT]
   cases hc:Mz D args (if m=true then Ef args d else d) with
   |none=>trivial
   | some r=>
     obtain⟨g,v,d1⟩:=r;obtain⟨rfl,_⟩:=eE hc;refine DT.chk_all _ (hK _ ((hd.trans ?_).trans (ChgS.put _ _ _)))
     cases m with
     |true=>exact DS.fzArgs_chg args d
     |false=>exact ChgS.refl d
 | aw ws m o ty=>
   simp only[BT]
   cases hst:Ma ws m o ty d with
   |none=>trivial
   | some r=>
     obtain⟨g,v,d1⟩:=r;exact DT.chk_all _ (hK _ ((hd.trans (vP hst)).trans (ChgS.put _ _ _)))
 | tk f M x y=>
   simp only[BT]
   cases hst:MW M x y d with
   |none=>trivial
   | some r=>
     obtain⟨g,v,d1⟩:=r;exact DT.chk_all _ (hK _ ((hd.trans (Zas hst)).trans (ChgS.put _ _ _)))
 | mark f M x y=>
   simp only[BT]
   cases hst:My M x y d with
   |none=>trivial
   | some r=>
     obtain⟨g,v,d1⟩:=r;exact DT.chk_all _ (hK _ ((hd.trans (yd hst)).trans (ChgS.put _ _ _)))
 | callp m f p D args=>
   simp only[BT]
   cases hc:JN D args (if m=true then Ef args d else d) with
   |none=>trivial
   | some r=>
     obtain⟨g,v,d1⟩:=r;obtain⟨h1,_⟩:=Tt hc;refine DT.chk_all _ (hK _ (((hd.trans ?_).trans h1).trans (ChgS.put _ _ _)))
     cases m with
     |true=>exact DS.fzArgs_chg args d
     |false=>exact ChgS.refl d
 | fz x=>
   simp only[BT];split
   . exact hK _ ((hd.trans (ChgS.fzOut x d)).trans (ChgS.put _ _ _))
   . trivial
 | fzb a o=>
   simp only[BT]
   cases hc:Q4 (a.dev d.sl) d with
   |none=>trivial
   | some d1=>
     simp only
     cases hst:Bm false o none d1 with
     |none=>trivial
     | some r=>
       obtain⟨g,v,d2⟩:=r;exact DT.chk_all _ (hK _ (((hd.trans (zb hc)).trans (Tm hst)).trans (ChgS.put _ _ _)))
 | clm a t o=>
   simp only[BT]
   cases hc:MR a t d with
   |none=>trivial
   | some r=>
     obtain⟨g0,d1⟩:=r;simp only
     cases hst:Bm false o none d1 with
     |none=>trivial
     | some r=>
       obtain⟨g,v,d2⟩:=r;exact DT.chk_all _ (hK _ (((hd.trans (zi hc)).trans (Tm hst)).trans (ChgS.put _ _ _)))
 | callv m f p D args i c=>
   simp only[BT]
   cases hc:Qp i c D args (if m=true then Ef args d else d) with
   |none=>trivial
   | some r=>
     obtain⟨g,v,d1⟩:=r;obtain⟨_,_,hc⟩:=dK hc;obtain⟨h1,_⟩:=Tt hc;refine DT.chk_all _ (hK _ (((hd.trans ?_).trans h1).trans (ChgS.put _ _ _)))
     cases m with
     |true=>exact DS.fzArgs_chg args d
     |false=>exact ChgS.refl d
 | a m o ty=>
   have gen:(match Bm m o ty d with|some (g,v,st)=>DT.chk' g (K (st.put dst v))|none=>DT.bad).All (ChgS b):=by
    cases hst:Bm m o ty d with
    |none=>trivial
    | some r=>
      obtain⟨g,v,d1⟩:=r;exact DT.chk_all _ (hK _ ((hd.trans (Tm hst)).trans (ChgS.put _ _ _)))
   cases o<;>first|exact gen|skip
   case pick c x y=>
    simp only[BT]
    have one:∀ (x:Opnd),(match Bl x d with|(v,st)=>if v.ok=true then K (st.put dst v) else DT.bad).All (ChgS b):=by
     intro x;simp only;split
     . exact hK _ ((hd.trans (ChgS.mvOut x d)).trans (ChgS.put _ _ _))
     . trivial
    cases hcv:c.dev d.sl with
    | bool t=>
      cases t with
      |lit t=>cases t<;>exact one _
      | dyn t=>
        simp only;split
        . exact⟨one x,one y⟩
        . exact hK _ (hd.trans (ChgS.put _ _ _))
    |_=>trivial
theorem W3(d:DS)(g:Nat)(t:Bool):ChgS d (MN d g t):=⟨Chg.put _ _ _,ChgB.refl _,ChgB.refl _⟩
theorem yn{o:DOper}{K:DS->DT}{b:DS}(hK:∀ d,ChgS b d->(K d).All (ChgS b)):∀ d,ChgS b d->(OD o K d).All (ChgS b):=by
 intro d hd;unfold OD;have hp:=zM (o:=o.op) (dst:=o.dst) hK
 cases hg:o.guard with
 |none=>exact hp d hd
 | some g=>
   obtain⟨g,want⟩:=g;simp only
   cases hgv:Bf d.sl g with
   | bool t=>
     cases t with
     | lit t=>
       simp only;split
       . exact hp d hd
       . exact hK _ (hd.trans (ChgS.put _ _ _))
     | dyn t=>
       have h1:=hd.trans (W3 d g true);have h2:=hd.trans (W3 d g false)
       cases want with
       |true=>exact⟨hp _ h1,hK _ (h2.trans (ChgS.put _ _ _))⟩
       |false=>exact⟨hK _ (h1.trans (ChgS.put _ _ _)),hp _ h2⟩
   | tup vs=>
     cases vs with
     |nil=>exact hK _ (hd.trans (ChgS.put _ _ _))
     |cons v r=>trivial
   |_=>trivial
theorem WU{b:DS}:∀ (ops:List DOper) (d:DS),ChgS b d->(Il ops d).All (ChgS b)
 |[],_,h=>h
 |_::r,d,h=>yn (WU r) d h
theorem gM:∀ (ops:List DOper) {d d':DS} {e:AExit},(Il ops d).lf=some (e,d')->e= .normal:=by
 intro ops
 have pick : ∀ {K:DS->DT} {e:AExit} {d':DS},(∀ d,(K d).lf=some (e,d')->e= .normal)->∀ (o:DOp) (dst:Option Nat) (d:DS),(BT o dst K d).lf=some (e,d')->e= .normal:=by
  intro K e d' hK o dst d hl
  cases o with
  | call m f p D args=>
    simp only[BT] at hl;split at hl
    . rw[DT.chk_lf] at hl;exact hK _ hl
    . cases hl
  | aw ws m o ty=>
    simp only[BT] at hl;split at hl
    . rw[DT.chk_lf] at hl;exact hK _ hl
    . cases hl
  | tk f M x y=>
    simp only[BT] at hl;split at hl
    . rw[DT.chk_lf] at hl;exact hK _ hl
    . cases hl
  | mark f M x y=>
    simp only[BT] at hl;split at hl
    . rw[DT.chk_lf] at hl;exact hK _ hl
    . cases hl
  | callp m f p D args=>
    simp only[BT] at hl;split at hl
    . rw[DT.chk_lf] at hl;exact hK _ hl
    . cases hl
  | fz x=>
    simp only[BT] at hl;split at hl
    . exact hK _ hl
    . cases hl
  | fzb a o=>
    simp only[BT] at hl;split at hl
    . split at hl
      . rw[DT.chk_lf] at hl;exact hK _ hl
      . cases hl
    . cases hl
  | clm a t o=>
    simp only[BT] at hl;split at hl
    . split at hl
      . rw[DT.chk_lf] at hl;exact hK _ hl
      . cases hl
    . cases hl
  | callv m f p D args i c=>
    simp only[BT] at hl;split at hl
    . rw[DT.chk_lf] at hl;exact hK _ hl
    . cases hl
  | a m o ty=>
    have gen:(match Bm m o ty d with|some (g,v,st)=>DT.chk' g (K (st.put dst v))|none=>DT.bad).lf=some (e,d')->e= .normal:=by
     intro hl;split at hl
     . rw[DT.chk_lf] at hl;exact hK _ hl
     . cases hl
    cases o<;>first|exact gen hl|skip
    case pick c x y=>
     simp only[BT] at hl
     have one:∀ (x:Opnd),(match Bl x d with|(v,st)=>if v.ok=true then K (st.put dst v) else DT.bad).lf=some (e,d')->e= .normal:=by
      intro x hl;simp only at hl;split at hl
      . exact hK _ hl
      . cases hl
     cases hcv:c.dev d.sl with
     | bool t=>
       rw[hcv] at hl
       cases t with
       |lit t=>cases t<;>exact one _ hl
       | dyn t=>
         simp only at hl;split at hl
         . cases t<;>exact one _ hl
         . exact hK _ hl
     |_=>rw[hcv] at hl;cases hl
 induction ops with
 | nil=>
   intro d d' e hl;simp only[Il,DT.lf,Am,Ao] at hl;exact hl.1.symm
 | cons o r ih=>
   intro d d' e hl
   have hr:∀ d,(Il r d).lf=some (e,d')->e= .normal:=λ d h=>ih h
   simp only[Il] at hl;unfold OD at hl
   cases hg:o.guard with
   |none=>rw[hg] at hl;exact pick hr _ _ _ hl
   | some g=>
     obtain⟨g,want⟩:=g;rw[hg] at hl;simp only at hl
     cases hgv:Bf d.sl g with
     | bool t=>
       rw[hgv] at hl
       cases t with
       | lit t=>
         simp only at hl;split at hl
         . exact pick hr _ _ _ hl
         . exact hr _ hl
       | dyn t=>
         cases t<;>cases want<;>first|exact pick hr _ _ _ hl|exact hr _ hl
     | tup vs=>
       rw[hgv] at hl
       cases vs with
       |nil=>exact hr _ hl
       |cons v r=>cases hl
     |_=>rw[hgv] at hl;cases hl
theorem EL.put1{v:DV}:∀ {a:List DC} {b:List PV} (n:Nat),EL a b->EV v (Aa b n)->EL (C6 a n v) b
 |[],_,_,h,_=>h
 |_::_,[],_,h,_=>h.elim
 |_::_,_::_,0,h,hv=>⟨hv,h.2⟩
 |_::_,_::_,n+1,h,hv=>⟨h.1,EL.put1 n h.2 hv⟩
theorem EBx.put1{v:DV}{a:List DC}{b:List PV}(n:Nat)(h:EBx a b)(hv:EV v (Aa b n)):EBx (C6 a n v) b:=by
 rcases h with rfl|h
 . exact .inl rfl
 . exact .inr (h.put1 n hv)
theorem EB.put1{v:List DC}:∀ {a:List (List DC)} {b:List (List PV)} (n:Nat),EB a b->EBx v (Ak b n)->EB (E5 a n v) b
 |[],_,_,h,_=>h
 |_::_,[],_,h,_=>h.elim
 |_::_,_::_,0,h,hv=>⟨hv,h.2⟩
 |_::_,_::_,n+1,h,hv=>⟨h.1,EB.put1 n h.2 hv⟩
def PS.at(s:PS):Pl->PV
 |.s i=>Aa s.sl i
 |.b i c=>Aa (Ak s.bx i) c
 |.h i c=>Aa (Ak s.hp i) c
theorem EBx.get{a:List DC}{b:List PV}(n:Nat)(h:EBx a b):EV (Bf a n) (Aa b n):=by
 rcases h with rfl|h
 . exact .inl rfl
 . exact h.get n
theorem ES.at{d:DS}{s:PS}(h:ES d s)(pl:Pl):EV (d.at pl) (s.at pl):=by
 cases pl with
 |s i=>exact h.sl.get i
 |b i c=>exact(h.bx.get i).get c
 |h i c=>exact(h.hp.get i).get c
theorem ES.wr{d:DS}{s:PS}(h:ES d s)(pl:Pl){v:DV}(hv:EV v (s.at pl)):ES (d.wr v pl) s:=by
 cases pl with
 |s i=>exact⟨h.sl.put1 i hv,h.bx,h.hp⟩
 |b i c=>exact⟨h.sl,h.bx.put1 i ((h.bx.get i).put1 c hv),h.hp⟩
 |h i c=>exact⟨h.sl,h.bx,h.hp.put1 i ((h.hp.get i).put1 c hv)⟩
theorem XS{q:Ql}{t:CT}{v:DV}{x:t.D}(h:t.ofQ q v=some x):(t.dv q x).enc=v.enc/\v≠.any:=by
 cases t with
 | int k=>
   cases v<;>try (cases h;done)
   rename_i k' n;have h':(if IntKind.same k k'=true then some n else none)=some x:=h;clear h;split at h'
   . rename_i hk;have:=T9 hk;subst this
     have h':=CO h';subst h';exact⟨rfl,by simp⟩
   . cases h'
 | bool=>
   cases v<;>try (cases h;done)
   have h:=CO h;subst h;exact⟨rfl,by simp⟩
 | str=>
   cases v<;>try (cases h;done)
   have h:=CO h;subst h;exact⟨rfl,by simp⟩
 | ifc=>
   cases v<;>try (cases h;done)
   have h:=CO h;subst h;exact⟨rfl,by simp⟩
 |slf r=>cases v<;>cases h
 | sl r=>
   cases v<;>try (cases h;done)
   case nil q'=>
    have h':(if Dw q q'=true then some ([]:List r.D) else none)=some x:=h;clear h;split at h'
    . rename_i hq;have:=Mo hq;subst this
      have h':=CO h';subst h';exact⟨rfl,by simp⟩
    . cases h'
   case sl q' r' l=>
    have h':(if Dw q q'=true then GH (r':=r') (r:=r) l else none)=some x:=h;clear h;split at h'
    . rename_i hq;have:=Mo hq;subst this
      refine⟨?_,by simp⟩;show PV.sl q _=PV.sl q _;rw[(LW h').2]
    . cases h'
theorem iO:∀ {l:List (Ql×CT)} {vs:List DV} {x:AgX l},Ll l vs=some x->DV.encL (OK l x)=DV.encL vs
 |[],[],_,_=>rfl
 | [a],[v],x,h=>by
   show [(a.2.dv a.1 x).enc]=[v.enc]
   rw[(XS (q:=a.1) (t:=a.2) h).1]
 | a :: b::r,v::vs,x,h=>by
   have h':(match a.2.ofQ a.1 v,Ll (b::r) vs with|some x,some y=>some (x,y)|_,_=>none)=some x:=h
   clear h
   cases h1:a.2.ofQ a.1 v with
   |none=>rw[h1] at h';cases h'
   | some p=>
     cases h2:Ll (b::r) vs with
     |none=>rw[h1,h2] at h';cases h'
     | some q=>
       rw[h1,h2] at h'
       have h':=CO h'
       subst h'
       show (a.2.dv a.1 p).enc::DV.encL (OK (b::r) q)=v.enc::DV.encL vs
       rw[(XS h1).1,iO h2]
theorem Qy{t:HT}{v:DV}{x:t.D}(h:t.of v=some x):(t.dv x).enc=v.enc/\v≠.any:=by
 cases t with
 |one q t=>exact XS (q:=q) (t:=t) h
 | agg l=>
   cases v<;>try (cases h;done)
   rename_i cs;refine⟨?_,by simp⟩;show PV.agg _=PV.agg _;rw[iO (l:=l) h]
theorem YN{A:DS}{s:PS}(hA:ES A s):∀ (H:List Hole) {K:DS} {x:GO H},ES K s->Lo A H=some x->ES (wrX K H x) s
 |[],K,x,hK,_=>hK
 | [a],K,x,hK,h=>by
   have h:a.t.of (A.at a.pl)=some x:=h
   obtain⟨h1,h2⟩:=Qy h
   refine hK.wr a.pl (.inr ?_)
   rw[h1,(hA.at a.pl).of h2]
 | a :: b::r,K,x,hK,h=>by
   have h':(match a.t.of (A.at a.pl),Lo A (b::r) with|some x,some y=>some (x,y)|_,_=>none)=some x:=h
   clear h
   cases h1:a.t.of (A.at a.pl) with
   |none=>rw[h1] at h';cases h'
   | some p=>
     cases h2:Lo A (b::r) with
     |none=>rw[h1,h2] at h';cases h'
     | some q=>
       rw[h1,h2] at h'
       have h':=CO h'
       subst h'
       obtain⟨h3,h4⟩:=Qy h1
       refine YN hA (b::r) (x:=q) (hK.wr a.pl (.inr ?_)) h2
       rw[h3,(hA.at a.pl).of h4]
theorem gA(d:DS)(v:DV)(pl:Pl):ChgS d (d.wr v pl):=by
 cases pl with
 |s i=>exact⟨Chg.put _ _ _,ChgB.refl _,ChgB.refl _⟩
 |b i c=>exact⟨Chg.refl _,ChgB.put _ _ (Chg.put _ _ _),ChgB.refl _⟩
 |h i c=>exact⟨Chg.refl _,ChgB.refl _,ChgB.put _ _ (Chg.put _ _ _)⟩
theorem fW:∀ (H:List Hole) (d:DS) (x:GO H),ChgS d (wrX d H x)
 |[],d,_=>ChgS.refl d
 |[a],d,_=>gA d _ _
 |a::b::r,d,x=>(gA d _ _).trans (fW (b::r) _ _)
def LeC:List DC->List DC->Prop
 |[],[]=>True
 |k::a,b::r=>(k.v= .any\/k.v=b.v)/\LeC a r
 |_,_=>False
def LeB:List (List DC)->List (List DC)->Prop
 |[],[]=>True
 |k::a,b::r=>(k=[]\/LeC k b)/\LeB a r
 |_,_=>False
structure LeS (k b:DS):Prop where
 sl:LeC k.sl b.sl
 bx:LeB k.bx b.bx
 hp:LeB k.hp b.hp
theorem LeC.refl:∀ (k:List DC),LeC k k
 |[]=>trivial
 |_::r=>⟨.inr rfl,LeC.refl r⟩
theorem LeB.refl:∀ (k:List (List DC)),LeB k k
 |[]=>trivial
 |k::r=>⟨.inr (LeC.refl k),LeB.refl r⟩
theorem LeC.put{v:DV}:∀ {k b:List DC} (n:Nat),LeC k b->Bf k n= .any->LeC k (C6 b n v)
 |[],[],_,h,_=>h
 |[],_::_,_,h,_=>h.elim
 |_::_,[],_,h,_=>h.elim
 |_::_,_::_,0,h,ha=>⟨.inl ha,h.2⟩
 |_::_,_::_,n+1,h,ha=>⟨h.1,LeC.put n h.2 ha⟩
theorem LeB.put{v:DV}:∀ {k b:List (List DC)} (i c:Nat),LeB k b->Bf (BG k i) c= .any->LeB k (E5 b i (C6 (BG b i) c v))
 |[],[],_,_,h,_=>h
 |[],_::_,_,_,h,_=>h.elim
 |_::_,[],_,_,h,_=>h.elim
 |_::_,_::_,0,c,h,ha=>⟨h.1.imp id λ h=>h.put c ha,h.2⟩
 |_::_,_::_,n+1,c,h,ha=>⟨h.1,LeB.put n c h.2 ha⟩
theorem eJ{v:DV}(h:v.isAny=true):v= .any:=by cases v<;>first|rfl|cases h
theorem LeS.wr{k b:DS}{v:DV}{pl:Pl}(h:LeS k b)(ha:(k.at pl).isAny=true):LeS k (b.wr v pl):=by
 have ha:=eJ ha
 cases pl with
 |s i=>exact⟨h.sl.put i ha,h.bx,h.hp⟩
 |b i c=>exact⟨h.sl,h.bx.put i c ha,h.hp⟩
 |h i c=>exact⟨h.sl,h.bx,h.hp.put i c ha⟩
theorem LeS.wrX{k:DS}:∀ (H:List Hole) {b:DS} (x:GO H),LeS k b->NP k H=true->LeS k (Go.Ag.wrX b H x)
 |[],_,_,h,_=>h
 | [a],_,_,h,ha=>by
   simp only[NP,Ai] at ha;exact h.wr ha.1
 | a :: b::r,_,x,h,ha=>by
   have ha':(k.at a.pl).isAny=true/\NP k (b::r)=true:=by
    have:((k.at a.pl).isAny&&NP k (b::r))=true:=ha;simpa [Ai] using this
   exact LeS.wrX (b::r) _ (h.wr ha'.1) ha'.2
theorem yU{a b:DV}(h:a.same b=true):a.enc=b.enc/\b≠.any:=by
 cases a<;>cases b<;>first|(cases h;done)|skip
 case undef.undef=>exact⟨rfl,by simp⟩
 case nil.nil q q'=>have:=Mo h;subst this;exact⟨rfl,by simp⟩
 case box.box=>simp only[DV.same,Ai,A6] at h;obtain⟨rfl,rfl⟩:=h;exact⟨rfl,by simp⟩
 case ptr.ptr=>simp only[DV.same,Ai,A6] at h;obtain⟨rfl,rfl⟩:=h;exact⟨rfl,by simp⟩
theorem X5:∀ {k b y:List DC} {p:List PV},Ra k y=true->LeC k b->Chg (Go.Ag.clean b) y->EL y p->EL k p
 |[],_,[],p,_,_,_,h=>h
 |[],_,_::_,_,h,_,_,_=>by cases h
 |_::_,_,[],_,h,_,_,_=>by cases h
 |_::_,[],_::_,_,_,h,_,_=>h.elim
 |_::_,_::_,_::_,[],_,_,_,h=>h.elim
 | k :: a,b::r,y::l,q::p,h,hl,hc,he=>by
   simp only[Ra,Ai,Cg] at h;refine⟨?_,X5 h.2 hl.2 hc.2 he.2⟩;rcases h.1 with(h1|h1)|h1
   . exact .inl (eJ h1)
   . rcases hl.1 with h2|h2
     . exact .inl h2
     . rcases hc.1 with h3|h3
       . simp[h3] at h1
       . have:y.v=k.v:=by rw[h3,h2]
         rcases he.1 with h4|h4
         . exact .inl (by rw[<- this];exact h4)
         . exact .inr (by rw[<- this];exact h4)
   . obtain⟨h2,h3⟩:=yU h1;rcases he.1 with h4|h4
     . exact absurd h4 h3
     . exact .inr (by rw[h2];exact h4)
theorem Ya:∀ {k b y:List (List DC)} {p:List (List PV)},Q9 k y=true->LeB k b->ChgB (Ol b) y->EB y p->EB k p
 |[],_,[],p,_,_,_,h=>h
 |[],_,_::_,_,h,_,_,_=>by cases h
 |_::_,_,[],_,h,_,_,_=>by cases h
 |_::_,[],_::_,_,_,h,_,_=>h.elim
 |_::_,_::_,_::_,[],_,_,_,h=>h.elim
 | k :: a,b::r,y::l,q::p,h,hl,hc,he=>by
   simp only[Q9,Ai,Cg,A6] at h
   refine⟨?_,Ya h.2 hl.2 hc.2 he.2⟩
   rcases h.1 with h1|h1
   . exact .inl (Dc h1)
   . rcases hl.1 with h2|h2
     . exact .inl h2
     . rcases he.1 with h3|h3
       . subst h3
         cases k with
         |nil=>exact .inl rfl
         |cons=>cases h1
       . exact .inr (X5 h1 h2 hc.1 h3)
theorem ZbH{k b y:DS}{s:PS}(h:YZ k y=true)(hl:LeS k b)(hc:ChgS b.clean y)(he:ES y s):ES k s:=by
 simp only[YZ,Ai] at h;exact⟨X5 h.1.1 hl.sl hc.sl he.sl,Ya h.1.2 hl.bx hc.bx he.bx,Ya h.2 hl.hp hc.hp he.hp⟩
theorem YC(pl:Nat->Pl):∀ (n:Nat) (x y:List DC),Chg x (Kb pl n x y).2/\∀ p,EL x p->EL (Kb pl n x y).2 p
 |_,[],_=>⟨trivial,λ _ h=>h⟩
 |_,_::_,[]=>⟨Chg.refl _,λ _ h=>h⟩
 | n,x::a,y::b=>by
   obtain⟨h1,h2⟩:=YC pl (n+1) a b
   simp only[Kb]
   cases hr:Kb pl (n+1) a b with
   | mk H l=>
     rw[hr] at h1 h2
     cases ji x.v y with
     |left=>exact⟨⟨.inr rfl,h1⟩,λ p h=>by cases p with|nil=>exact h|cons q p=>exact⟨h.1,h2 p h.2⟩⟩
     |hole t=>exact⟨⟨.inl rfl,h1⟩,λ p h=>by cases p with|nil=>exact h|cons q p=>exact⟨.inl rfl,h2 p h.2⟩⟩
     |kill=>exact⟨⟨.inl rfl,h1⟩,λ p h=>by cases p with|nil=>exact h|cons q p=>exact⟨.inl rfl,h2 p h.2⟩⟩
theorem X9(pl:Nat->Nat->Pl):∀ (n:Nat) (x y:List (List DC)),ChgB x (MQ pl n x y).2/\∀ p,EB x p->EB (MQ pl n x y).2 p
 |_,[],_=>⟨trivial,λ _ h=>h⟩
 |_,_::_,[]=>⟨ChgB.refl _,λ _ h=>h⟩
 | n, x :: a,y::b=>by
   obtain⟨h1,h2⟩:=X9 pl (n+1) a b
   simp only[MQ]
   cases hr:MQ pl (n+1) a b with
   | mk H l=>
     rw[hr] at h1 h2
     simp only
     split
     . obtain⟨h3,h4⟩:=YC (pl n) 0 x y
       cases hc:Kb (pl n) 0 x y with
       | mk H' x'=>
         rw[hc] at h3 h4
         exact⟨⟨h3,h1⟩,λ p h=>by
          cases p with
          |nil=>exact h
          |cons q p=>exact⟨h.1.elim (λ e=>by subst e;cases y<;>(simp only[Kb] at hc;simp only[Ao] at hc;exact .inl hc.2.symm)) λ h=>.inr (h4 q h),h2 p h.2⟩⟩
     . exact⟨⟨by cases x<;>trivial,h1⟩,λ p h=>by cases p with|nil=>exact h|cons q p=>exact⟨.inl rfl,h2 p h.2⟩⟩
theorem gb(x y:DS):ChgS x (QZ x y).2/\∀ s,ES x s->ES (QZ x y).2 s:=by
 obtain⟨h1,h2⟩:=YC .s 0 x.sl y.sl;obtain⟨h3,h4⟩:=X9 .b 0 x.bx y.bx;obtain⟨h5,h6⟩:=X9 .h 0 x.hp y.hp;exact⟨⟨h1,h3,h5⟩,λ s h=>⟨h2 _ h.sl,h4 _ h.bx,h6 _ h.hp⟩⟩
theorem XE{live:List Nat}{body:DS->DT}{A:DS}:∀ {n:Nat} {cur:DS} {H:List Hole} {K:DS},QA live body A n cur=some (H,K)->∃ Y,QZ A Y=(H,K)
 | 0,cur,H,K,h=>by
   simp only[QA] at h
   split at h
   . rename_i m _
     exact⟨_,CO h⟩
   . cases h
 | n + 1,cur,H,K,h=>by
   simp only[QA] at h
   split at h
   . split at h
     . exact XE h
     . cases h
   . cases h
theorem WB(live:List Nat)(d:DS):ChgS d (DW live d):=⟨Chg.keep _ _ _,ChgB.refl _,ChgB.refl _⟩
theorem xq(live:List Nat)(d:DS):ChgS d (UO live d):=⟨Chg.trim _ _ _,ChgB.refl _,ChgB.refl _⟩
theorem zY {live:List Nat} {n:Nat} {body:DS->DT} {pb:Fq->PS->Prop} (hall:∀ d,(body d).All (ChgS d.clean))
 (hb:∀ d s e d' (k:Fq),ES d s->(body d).ok.den->(body d).lf=some (e,d')->(∀ s',ES d' s'->k e s')->pb k s)
 {d d':DS} {s:PS} {e:AExit} {k:Fq} (hs:ES d s) (hok:(Ov live n body d).ok.den) (hl:(Ov live n body d).lf=some (e,d')) (hk:∀ s',ES d' s'->k e s'):∃ n,QG pb live k n s:=by
 have hA:ES (DW live d) { s with sl:=El live 0 s.sl }:=hs.keep live
 unfold Ov at hok hl
 split at hok
 . rename_i hn
   rw[Ac hn] at hl;rw[DT.map_ok] at hok;rw[DT.map_lf] at hl;obtain⟨e0,d0,h0⟩:=DT.ok_lf hok;rw[h0] at hl;simp only[B5,Am,Ao] at hl;obtain⟨rfl,rfl⟩:=hl
   have hn:(body (DW live d)).norm= .none:=by cases h:(body (DW live d)).norm<;>rw[h] at hn<;>first|rfl|cases hn
   have he:=DT.norm_none hn h0;refine⟨1,hb _ _ _ _ _ hA hok h0 λ s' hs'=>?_⟩
   cases e0<;>first|(cases he;done)|exact hk _ hs'.rem
 . rename_i hn
   rw[Af hn] at hl;split at hok
   . exact hok.elim
   . rename_i H K hd;rw[hd] at hl;simp only at hl;obtain⟨Y,hY⟩:=XE hd;split at hok
     . exact hok.elim
     . rename_i x0 hx0;rw[hx0] at hl;simp only at hl;split at hok
       . rename_i hh;rw[Ac hh] at hl;simp only[DT.ok,PX.land_den,PX.den] at hok;obtain⟨hlo,_⟩:=hok;simp only[DT.lf] at hl
         have hK:ES K { s with sl:=El live 0 s.sl }:=by
          have:=(gb (DW live d) Y).2 _ hA;rw[hY] at this;exact this
         have h0:ES (wrX K H x0) { s with sl:=El live 0 s.sl }:=YN hA H hK hx0;have hto:=hlo.to
         have hle:∀ x,LeS K (wrX K H x):=λ x=>LeS.wrX H x ⟨LeC.refl _,LeB.refl _,LeB.refl _⟩ hh
         have main:∀ {x y:GO H},LoopTo (Ow body K H) (Oz live body K H) (λ x=>(ig live body K H x).den) x y ->
          ((lT body K H y).drop.map (Lg (wrX K H y))).lf=some (e,d') ->
          ∃ n,∀ s:PS,ES (wrX K H x) { s with sl:=El live 0 s.sl }->QG pb live k n s:=by
          intro x y h
          induction h with
          | stop hg hc=>
            rename_i x;intro hl;have hg:=((PX.land_den _ _).mp hg).1;obtain⟨e0,d0,h0⟩:=DT.ok_lf hg
            have he:e0.isN=false:=by
             unfold Ow at hc
             cases hcc:(lT body K H x).cont with
             |none=>rw[DT.cont_none hcc] at h0;cases h0
             |some b=>rw[hcc] at hc;rw[<- DT.cont_s hcc h0];exact hc
            rw[DT.map_lf,DT.drop_lf h0 he] at hl;simp only[B5,Am,Ao] at hl;obtain⟨rfl,rfl⟩:=hl;refine⟨1,λ s hs=>hb _ _ _ _ _ hs hg h0 λ s' hs'=>?_⟩
            cases e0<;>first|(cases he;done)|exact hk _ hs'.rem
          | go hg hc h3 ih=>
            rename_i x y';intro hl;obtain⟨n,ih⟩:=ih hl;have hg2:=(PX.land_den _ _).mp hg;obtain⟨e0,d0,h0⟩:=DT.ok_lf hg2.1
            have he:e0= .normal:=by
             unfold Ow at hc
             cases hcc:(lT body K H x).cont with
             |none=>rw[DT.cont_none hcc] at h0;cases h0
             | some b=>
               rw[hcc] at hc;have:=DT.cont_s hcc h0;rw[show b.b=true from hc] at this
               cases e0<;>first|rfl|cases this
            subst he;refine⟨n+1,λ s hs=>hb _ _ _ _ _ hs hg2.1 h0 λ s' hs'=>?_⟩;refine ih s' ?_;have hg3:=hg2.2
            cases hnm:(lT body K H x).norm with
            |none=>have:=DT.norm_none hnm h0;cases this
            |fail=>rw[hnm] at hg3;exact hg3.elim
            | some m=>
              rw[hnm] at hg3;simp only at hg3;split at hg3
              . rename_i hf;simp only[Ai] at hf;obtain⟨hf1,hf2⟩:=hf;have hm:ES m s':=DT.norm_s (hall _) hnm h0 hs';have hm2:=hm.keep live;have hch:ChgS (wrX K H x).clean (DW live m):=(DT.norm_chg (hall _) hnm).trans (WB live m);have hK':=ZbH hf1 (hle x) hch hm2;obtain⟨y2,hy2⟩:=Option.isSome_iff_exists.mp hf2
                have hnx:Oz live body K H x=y2:=by unfold Oz;rw[hnm];simp only[hy2]
                rw[hnx];exact YN hm2 H hK' hy2
              . exact hg3.elim
         obtain⟨n,hn⟩:=main hto hl;exact⟨n,hn s h0⟩
       . exact hok.elim
theorem xC{live:List Nat}{n:Nat}{body:DS->DT}(hall:∀ d,(body d).All (ChgS d.clean))(d:DS):(Ov live n body d).All (ChgS d):=by
 unfold Ov;split
 . exact DT.map_all (λ st h=>(WB live d).trans h.rem) (hall _)
 . split
   . trivial
   . rename_i H K hd;obtain⟨Y,hY⟩:=XE hd;split
     . trivial
     . split
       . have hK:ChgS d K:=by
          have:=(gb (DW live d) Y).1;rw[hY] at this;exact(WB live d).trans this
         exact DT.map_all (λ st h=>(hK.trans (fW H K _)).trans h.rem) (DT.drop_all (hall _))
       . trivial
theorem dP(d:DS)(c:Opnd)(t:Bool):ChgS d (setc d c t):=by
 cases c with
 |t g=>exact W3 d g t
 |c v=>exact ChgS.refl d
theorem eW{d:DS}{s:PS}{c:Opnd}{b:Bool}(hs:ES d s)(h:c.pev s.sl= .fl (.bool b)):ES (setc d c b) s:=by
 cases c with
 |t g=>exact fN hs h
 |c v=>exact hs
mutual
theorem fL(n:Nat):∀ (v:DV),v.enc.pge n=v.pge n
 |.nil q=>by cases q<;>rfl
 |.sl q r l=>by cases q<;>rfl
 |.ep q r l j o=>by cases q<;>rfl
 |.agg cs=>WY n cs
 |.tup vs=>WY n vs
 |.any|.undef|.bool _|.int _ _|.str _|.ifc _|.box _ _|.ptr _ _=>rfl
theorem WY(n:Nat):∀ (l:List DV),PV.pgeL n (DV.encL l)=DV.pgeL n l
 |[]=>rfl
 |v::r=>by simp only[DV.encL,PV.pgeL,DV.pgeL,fL n v,WY n r]
end
theorem EL.clrP(n:Nat):∀ {a:List DC} {b:List PV},EL a b->EL (UM n a) (Go.Ag.clrP n b)
 |[],[],_=>trivial
 | c :: a,p::b,h=>by
   refine⟨?_,EL.clrP n h.2⟩
   by_cases hc:(c.v.isH||c.v.pge n)=true
   . rw[Ac hc];exact .inl rfl
   . rw[Af hc]
     rcases h.1 with h1|h1
     . exact .inl h1
     . rw[h1,Xt,fL,Af hc];exact .inr rfl
theorem EB.take:∀ (n:Nat) {a:List (List DC)} {b:List (List PV)},EB a b->EB (a.take n) (b.take n)
 |0,_,_,_=>trivial
 |n+1,[],[],_=>trivial
 |n+1,_::_,_::_,h=>⟨h.1,EB.take n h.2⟩
theorem ES.trunc{d:DS}{s:PS}(n:Nat)(h:ES d s):ES (d.trunc n) (s.trunc n):=⟨h.sl.clrP n,h.bx,h.hp.take n⟩
theorem Chg.clrP(n:Nat):∀ (l:List DC),Chg l (UM n l)
 |[]=>trivial
 | c::r=>by
   refine⟨?_,Chg.clrP n r⟩
   by_cases hc:(c.v.isH||c.v.pge n)=true
   . rw[Ac hc];exact .inl rfl
   . rw[Af hc];exact .inr rfl
theorem ChgB.take:∀ (n:Nat) {a b:List (List DC)},ChgB a b->ChgB a (b.take n)
 |0,a,b,_=>by cases a<;>trivial
 |n+1,a,[],_=>by cases a<;>trivial
 |n+1,[],_::_,h=>⟨h.1,ChgB.take n h.2⟩
 |n+1,_::_,_::_,h=>⟨h.1,ChgB.take n h.2⟩
theorem ChgS.trunc{d d':DS}(n:Nat)(h:ChgS d d'):ChgS d (d'.trunc n):=⟨h.sl.trans (Chg.clrP n _),h.bx,h.hp.take n⟩
theorem Hh:∀ (c:DCode) (d:DS),(dev c d).All (ChgS d)
 |.skip,d=>ChgS.refl d
 |.region ops,d=>WU ops d (ChgS.refl d)
 | .regionU ops,d=>by
   simp only[dev]
   split
   . exact WU ops d (ChgS.refl d)
   . trivial
 | .seq l a b,d=>by
   refine DT.then_all (Hh a d.clean) (λ st h=>?_) (λ st h=>h.rem)
   have h1:ChgS d (Lg d (UO l st)):=(h.trans (xq l st)).rem
   exact DT.All.imp (λ _ h2=>h1.trans h2) (Hh b _)
 | .cond c a b,d=>by
   simp only[dev]
   cases hc:c.dev d.sl with
   | bool t=>
     cases t with
     |lit t=>cases t<;>first|exact Hh a d|exact Hh b d
     |dyn t=>exact⟨DT.All.imp (λ _ h=>(dP d c true).trans h) (Hh a _),DT.All.imp (λ _ h=>(dP d c false).trans h) (Hh b _)⟩
   |_=>trivial
 |.block i a,d=>DT.unexit_all i (Hh a d)
 |.scope a,d=>DT.map_all (λ st h=>h.trunc d.hp.length) (Hh a d)
 |.loop live n a,d=>xC (λ d=>Hh a d.clean) d
 |.exit i,d=>ChgS.refl d
 |.ret,d=>ChgS.refl d
theorem GI:∀ (c:DCode),AllD c.obs->∀ {d d':DS} {s:PS} {e:AExit} {k:Fq},ES d s->(dev c d).ok.den->(dev c d).lf=some (e,d')->(∀ s',ES d' s'->k e s')->Fv c.er k s
 | .skip,_,d,d',s,e,k,hs,hok,hl,hk=>by
   simp only[dev,DT.lf,Am,Ao] at hl
   obtain⟨rfl,rfl⟩:=hl
   exact hk s hs
 | .region ops,ho,d,d',s,e,k,hs,hok,hl,hk=>by
   have he:=gM ops hl
   subst he
   exact Yx ops ho rfl hk d s hs hok hl
 | .regionU ops,ho,d,d',s,e,k,hs,hok,hl,hk=>by
   simp only[dev] at hok hl
   split at hok
   . rename_i hp
     rw[Ac hp] at hl
     have he:=gM ops hl
     subst he
     exact⟨hp,Yx ops ho rfl hk d s hs hok hl⟩
   . exact hok.elim
 | .seq l a b,ho,d,d',s,e,k,hs,hok,hl,hk=>by
   obtain⟨h1,h2⟩:=ho.app
   obtain⟨hoa,hc⟩:=DT.then_s (Hh a d.clean) hok hl
   simp only[DCode.er,Fv]
   rcases hc with⟨st0,m,hla,hm,hch,hob,hlb⟩|⟨he,st0,hla,rfl⟩
   . refine GI a h1 hs.clean hoa hla λ s' hs'=>?_
     exact GI b h2 (((hm s' hs').trim l).rem) hob hlb hk
   . refine GI a h1 hs.clean hoa hla λ s' hs'=>?_
     cases e<;>first|(cases he;done)|exact hk s' hs'.rem
 | .cond c a b,ho,d,d',s,e,k,hs,hok,hl,hk=>by
   obtain⟨h1,h2⟩:=ho.app
   have hv:=c.dev_ev hs
   simp only[dev] at hok hl
   simp only[DCode.er,Fv]
   cases hc:c.dev d.sl with
   | bool t=>
     rw[hc] at hok hl hv
     have hp:=hv.of (by simp)
     simp only[DV.enc] at hp
     rw[hp]
     simp only
     cases t with
     | lit t=>
       cases t with
       |true=>exact GI a h1 hs hok hl hk
       |false=>exact GI b h2 hs hok hl hk
     | dyn t=>
       have hok:=(PX.if_den _ _ _).mp hok
       cases t with
       |true=>exact GI a h1 (eW hs hp) (hok.1 rfl) hl hk
       |false=>exact GI b h2 (eW hs hp) (hok.2 rfl) hl hk
   |_=>rw[hc] at hok;exact hok.elim
 | .block i a,ho,d,d',s,e,k,hs,hok,hl,hk=>by
   simp only[dev,DT.unexit_ok,DT.unexit_lf] at hok hl
   obtain⟨e0,d0,h0⟩:=DT.ok_lf hok
   rw[h0] at hl
   simp only[B5,Am,Ao] at hl
   obtain⟨rfl,rfl⟩:=hl
   refine GI a ho hs hok h0 λ s' hs'=>?_
   have:=hk s' hs'
   cases e0 with
   |normal=>exact this
   |ret=>exact this
   | exit j=>
     simp only[XB]
     simp only[AExit.un] at this
     split
     . rename_i hj;rw[Ac hj] at this;exact this
     . rename_i hj;rw[Af hj] at this;exact this
 | .scope a,ho,d,d',s,e,k,hs,hok,hl,hk=>by
   simp only[dev,DT.map_ok,DT.map_lf] at hok hl
   obtain⟨e0,d0,h0⟩:=DT.ok_lf hok
   rw[h0] at hl
   simp only[B5,Am,Ao] at hl
   obtain⟨rfl,rfl⟩:=hl
   refine GI a ho hs hok h0 λ s' hs'=>?_
   show k e0 (s'.trunc s.hp.length)
   rw[<- hs.hp.len]
   exact hk _ (hs'.trunc _)
 | .loop live n a,ho,d,d',s,e,k,hs,hok,hl,hk=>by
   simp only[dev] at hok hl
   exact zY (λ d=>Hh a d.clean) (λ d s e d' k hs hok hl hk=>GI a ho hs.clean hok hl hk) hs hok hl hk
 | .exit i,_,d,d',s,e,k,hs,hok,hl,hk=>by
   simp only[dev,DT.lf,Am,Ao] at hl
   obtain⟨rfl,rfl⟩:=hl
   exact hk s hs
 | .ret,_,d,d',s,e,k,hs,hok,hl,hk=>by
   simp only[dev,DT.lf,Am,Ao] at hl
   obtain⟨rfl,rfl⟩:=hl
   exact hk s hs
mutual
def DV.flt:DV->Bool
 |.bool _|.int _ _|.str _|.ifc _=>true
 |.agg cs=>DV.fltL cs
 |.tup vs=>DV.fltL vs
 |_=>false
def DV.fltL:List DV->Bool
 |[]=>true
 |v::r=>v.flt&&DV.fltL r
end
mutual
theorem Xr:∀ (v:DV),v.flt=true->v.enc.flt=true
 |.bool _,_|.int _ _,_|.str _,_|.ifc _,_=>rfl
 |.agg cs,h=>Xe cs h
 |.tup cs,h=>Xe cs h
theorem Xe:∀ (l:List DV),DV.fltL l=true->PV.fltL (DV.encL l)=true
 |[],_=>rfl
 | v::r,h=>by
   simp only[DV.fltL,Ai] at h
   simp only[DV.encL,PV.fltL,Xr v h.1,Xe r h.2,CZ]
end
theorem Xa:∀ (l:List DV),Ib l=true->DV.okL l=true
 |[],_=>rfl
 | v::r,h=>by
   simp only[Ib,Ai] at h
   have:v.ok=true:=by cases v<;>first|rfl|(have:=h.1;cases this)
   simp only[DV.okL,this,Xa r h.2,CZ]
theorem EBx.segm2{a:List DC}{b:List PV}{o n:Nat}(h:EBx a b)(hl:o+n<=a.length)(hk:DV.okL (BQ (BV a) o n)=true):Go.Ag.segm b o n=DV.encL (BQ (BV a) o n)/\o+n<=b.length:=by
 rcases h with rfl|h
 . simp only[Bp,Nat.le_zero_eq,Nat.add_eq_zero_iff] at hl;obtain⟨rfl,rfl⟩:=hl;refine⟨?_,FW _⟩;cases b<;>rfl
 . exact⟨h.segm o n hk,by rw[<- h.len];exact hl⟩
theorem dO{st st':DS}{s:PS}{r:ARes}{v:DV}(hs:ES st s)(h:Qo st r=some (v,st'))(hv:v.ok=true):∃ s',H8 s r=some (v.enc,s')/\ES st' s':=by
 cases r with
 | tmp t=>
   simp only[Qo] at h;split at h
   . rename_i hc;simp only[Ai] at hc;simp only[Am] at h
     have hk:(Bl (.t t) st).1.ok=true:=by
      have:(Bl (.t t) st).1=v:=by simp only[Bl,h]
      rw[this];exact hv
     obtain⟨m1,m2⟩:=Ex (.t t) hs hk
     have hne:Bf st.sl t≠.any:=by intro e;rw[e] at hc;cases hc.2
     have hp:=(hs.sl.get t).of hne;simp only[Bl,h,mvOut] at m1 m2;refine⟨(Gd (Aa s.sl t) t s).2,?_,m2⟩;simp only[H8];rw[Ac (by rw[hp];exact cC _ hc.1),<- m1]
   . cases h
 | cell t n=>
   simp only[Qo] at h;have hp:=hs.sl.get t
   cases hv:Bf st.sl t with
   | box i o=>
     rw[hv] at h hp;have hp:=hp.of (by simp);simp only at h;split at h
     . rename_i hc;simp only[Ai] at hc;simp only[B4] at h;obtain⟨⟨g,r⟩,h1,h2⟩:=h;simp only at h2;subst h2;obtain⟨e1,e2⟩:=(hs.bx.get i).segm2 (CR hc.1) (Xa _ hc.2)
       have hg:g= .tt:=by
        unfold KY at h1;simp only[A9] at h1;split at h1
        . simp only[B4,Ao] at h1;obtain⟨_,_,rfl,_⟩:=h1;rfl
        . cases h1
       subst hg;obtain⟨s',e3,e4⟩:=V1 (p:=.box i o) hs (.inr rfl) h1;refine⟨s',?_,e4⟩;simp only[H8,hp,DV.enc];rw[Ac ⟨e2,by rw[e1];exact TB _ hc.2⟩];exact e3
     . cases h
   | ptr i o=>
     rw[hv] at h hp;have hp:=hp.of (by simp);simp only at h;split at h
     . rename_i hc;simp only[Ai] at hc;simp only[B4] at h;obtain⟨⟨g,r⟩,h1,h2⟩:=h;simp only at h2;subst h2;obtain⟨e1,e2⟩:=(hs.hp.get i).segm2 (CR hc.1) (Xa _ hc.2)
       have hg:g= .tt/\i<st.hp.length:=by
        unfold JT at h1;simp only[A9] at h1;split at h1
        . rename_i hb;simp only[Ai] at hb;simp only[B4,Ao] at h1;obtain⟨_,_,rfl,_⟩:=h1;exact⟨rfl,CR hb.1.1⟩
        . cases h1
       obtain⟨rfl,hi⟩:=hg;obtain⟨s',e3,e4⟩:=V2 (p:=.ptr i o) hs (.inr rfl) h1 trivial;refine⟨s',?_,e4⟩;simp only[H8,hp,DV.enc];rw[Ac ⟨by rw[<- hs.hp.len];exact hi,e2,by rw[e1];exact TB _ hc.2⟩];exact e3
     . cases h
   |_=>rw[hv] at h;cases h
theorem cZ:∀ {res:List ARes} {st st':DS} {s:PS} {vs:List DV},ES st s->Oa st res=some (vs,st')->DV.okL vs=true->∃ s',HW s res=some (DV.encL vs,s')/\ES st' s'
 | [],st,st',s,vs,hs,h,_=>by
   simp only[Oa,Am,Ao] at h
   obtain⟨rfl,rfl⟩:=h
   exact⟨s,rfl,hs⟩
 | r :: rs,st,st',s,vs,hs,h,hk=>by
   simp only[Oa] at h
   split at h
   . rename_i v st1 h1
     split at h
     . rename_i vs1 st2 h2
       simp only[Am,Ao] at h
       obtain⟨rfl,rfl⟩:=h
       simp only[DV.okL,Ai] at hk
       obtain⟨s1,e1,e2⟩:=dO hs h1 hk.1
       obtain⟨s2,e3,e4⟩:=cZ e2 h2 hk.2
       exact⟨s2,by simp only[HW,e1,e3,DV.encL],e4⟩
     . cases h
   . cases h
theorem fO:∀ {res:List ARes} {st:DS} {s:PS} {v:DV},ES st s->F5 st res=some v->v.ok=true->∃ s',Mw s res=some (v.enc,s'):=by
 have gen:∀ {res:List ARes} {st:DS} {s:PS} {v:DV},ES st s->v.ok=true->(Oa st res).map (λ x=>DV.tup x.1)=some v->∃ s',(HW s res).map (fun(vs,st)=>(PV.tup vs,st))=some (v.enc,s'):=λ hs hv h=>by
  simp only[B4] at h;obtain⟨⟨vs,st'⟩,h1,rfl⟩:=h;obtain⟨s',e1,_⟩:=cZ hs h1 hv;exact⟨s',by rw[e1];rfl⟩
 intro res st s v hs h hv
 cases res with
 |nil=>exact gen (res:=[]) hs hv h
 | cons r rs=>
   cases rs with
   | nil=>
     simp only[F5,B4] at h;obtain⟨⟨v',st'⟩,h1,rfl⟩:=h;obtain⟨s',e1,_⟩:=dO hs h1 hv;exact⟨s',e1⟩
   |cons r2 rs=>exact gen (res:=r::r2::rs) hs hv h
theorem OC {res:List ARes}:∀ {t:DT} {g:PX} {v:DV},t.val res=(g,some v)->v≠.any->g.den ->
 t.ok.den/\∃ e st v0,t.lf=some (e,st)/\(∀ i,e≠.exit i)/\F5 st res=some v0/\v0.ok=true/\v.enc=v0.enc
 | .leaf e st,g,v,h,hv,hg=>by
   have gen:(match F5 st res with|some v=>if (v.ok&&!v.hasPtr)=true then (PX.tt,some v) else (PX.ff,none)|none=>(PX.ff,none))=(g,some v)->F5 st res=some v/\v.ok=true:=λ h=>by
    split at h
    . split at h
      . rename_i h1 h2;simp only[Ao,Am] at h;obtain⟨_,rfl⟩:=h;simp only[Ai] at h2;exact⟨h1,h2.1⟩
      . simp at h
    . simp at h
   cases e with
   |exit i=>simp[DT.val] at h
   |normal=>obtain⟨h1,h2⟩:=gen h;exact⟨trivial,.normal,st,v,rfl,by simp,h1,h2,rfl⟩
   |ret=>obtain⟨h1,h2⟩:=gen h;exact⟨trivial,.ret,st,v,rfl,by simp,h1,h2,rfl⟩
 | .node c a b,g,v,h,hv,hg=>by
   simp only[DT.val] at h
   have hno:∀ {t:DT} {g:PX},t.val res=(g,none)->¬ g.den:=by
    intro t
    induction t with
    | leaf e st=>
      intro g h;cases e<;>simp only[DT.val] at h<;>(repeat' split at h)<;>simp only[Ao,reduceCtorEq,and_false,KN] at h<;>subst h<;>exact id
    | node c x y ih1 ih2=>
      intro g h hg;simp only[DT.val] at h
      cases h1:x.val res with
      | mk g1 v1=>
        cases h2:y.val res with
        | mk g2 v2=>
          rw[h1,h2] at h
          cases v1 with
          | none=>
            simp only[Ao] at h;obtain⟨rfl,rfl⟩:=h;have:=(PX.if_den _ _ _).mp hg
            cases c with
            |true=>exact ih1 h1 (this.1 rfl)
            |false=>exact ih2 h2 (this.2 rfl)
          |some v1=>cases v2<;>simp at h
    | chk g0 t ih=>
      intro g h hg;simp only[DT.val] at h
      cases h1:t.val res with
      | mk g1 v1=>
        rw[h1] at h;simp only[Ao] at h;obtain⟨rfl,rfl⟩:=h;exact ih h1 ((PX.land_den _ _).mp hg).2
    | bad=>
      intro g h;simp only[DT.val,Ao,KN] at h;subst h;exact id
   cases h1:a.val res with
   | mk g1 v1=>
     cases h2:b.val res with
     | mk g2 v2=>
       rw[h1,h2] at h
       have fin:∀ (v1 v2:DV),g=PX.if' c g1 g2->a.val res=(g1,some v1)->b.val res=(g2,some v2)->v=C5 c v1 v2->(DT.node c a b).ok.den/\∃ e st v0,(DT.node c a b).lf=some (e,st)/\(∀ i,e≠.exit i)/\F5 st res=some v0/\v0.ok=true/\v.enc=v0.enc:=by
        intro v1 v2 hgg h1 h2 hvv;subst hgg;have hg:=(PX.if_den _ _ _).mp hg;have he:=(Uv c v1 v2).resolve_left (by rw[<- hvv];exact hv);rw[<- hvv] at he
        have n1:v1≠.any:=by rintro rfl;apply hv;rw[hvv];cases v2<;>rfl
        have n2:v2≠.any:=by rintro rfl;apply hv;rw[hvv];cases v1<;>rfl
        show (PX.if' c a.ok b.ok).den/\∃ e st v0,(DT.node c a b).lf=some (e,st)/\(∀ i,e≠.exit i)/\F5 st res=some v0/\v0.ok=true/\v.enc=v0.enc;rw[PX.if_den]
        cases c with
        | true=>
          obtain⟨k1,e,st,v0,k2,k3,k4,k5,k6⟩:=OC h1 n1 (hg.1 rfl);exact⟨⟨λ _=>k1,λ h=>by cases h⟩,e,st,v0,k2,k3,k4,k5,by rw[he];exact k6⟩
        | false=>
          obtain⟨k1,e,st,v0,k2,k3,k4,k5,k6⟩:=OC h2 n2 (hg.2 rfl);exact⟨⟨λ h=>(by cases h),λ _=>k1⟩,e,st,v0,k2,k3,k4,k5,by rw[he];exact k6⟩
       cases v1 with
       | none=>
         simp only[Ao] at h;obtain⟨rfl,rfl⟩:=h;have hg:=(PX.if_den _ _ _).mp hg;show (PX.if' c a.ok b.ok).den/\_;rw[PX.if_den]
         cases c with
         |true=>exact absurd (hg.1 rfl) (hno h1)
         | false=>
           obtain⟨k1,e,st,v0,k2,k3,k4,k5,k6⟩:=OC h2 hv (hg.2 rfl);exact⟨⟨λ h=>(by cases h),λ _=>k1⟩,e,st,v0,k2,k3,k4,k5,k6⟩
       | some v1=>
         cases v2 with
         | none=>
           simp only[Ao,Am] at h;obtain⟨rfl,rfl⟩:=h;have hg:=(PX.if_den _ _ _).mp hg;show (PX.if' c a.ok b.ok).den/\_;rw[PX.if_den]
           cases c with
           |false=>exact absurd (hg.2 rfl) (hno h2)
           | true=>
             obtain⟨k1,e,st,v0,k2,k3,k4,k5,k6⟩:=OC h1 hv (hg.1 rfl);exact⟨⟨λ _=>k1,λ h=>by cases h⟩,e,st,v0,k2,k3,k4,k5,k6⟩
         | some v2=>
           simp only[Ao,Am] at h;exact fin v1 v2 h.1.symm h1 h2 h.2.symm
 | .chk g0 t,g,v,h,hv,hg=>by
   simp only[DT.val] at h
   cases h1:t.val res with
   | mk g1 v1=>
     rw[h1] at h;simp only[Ao] at h;obtain⟨rfl,rfl⟩:=h;have hg:=(PX.land_den _ _).mp hg;obtain⟨k1,k2⟩:=OC h1 hv hg.2;exact⟨(PX.land_den _ _).mpr ⟨hg.1,k1⟩,k2⟩
 |.bad,g,v,h,hv,hg=>by simp[DT.val] at h
theorem EL.append:∀ {a:List DC} {b:List PV} {c:List DC} {d:List PV},EL a b->EL c d->EL (a++c) (b++d)
 |[],[],_,_,_,h=>h
 |_::_,_::_,_,_,h,h'=>⟨h.1,EL.append h.2 h'⟩
theorem Xf:∀ (n:Nat),EL (Me n) (H9 n)
 |0=>trivial
 |n+1=>⟨.inl rfl,Xf n⟩
theorem W7:∀ (n:Nat),EB (Mu n) (K8 n)
 |0=>trivial
 |n+1=>⟨.inl rfl,W7 n⟩
theorem vC {f:DFun} (ho:AllD f.body.obs) {args:List DV} {g:PX} {v:DV} (h:Q7 f args=(g,some v)) (hg:g.den) (hv:v≠.any) (hl:args.length=f.nparams) (hp:f.pure=true->v.flt=true)
 {Q:PV->List (List PV)->Prop} (hQ:∀ H,Q v.enc H):N8 f.er (DV.encL args) [] Q:=by
 unfold Q7 at h
 obtain⟨hok,e,st,v0,h1,h2,h3,h4,h5⟩:=OC h hv hg
 refine⟨by rw[Fg];exact hl,λ _=>rfl,?_⟩
 refine GI f.body ho (d:=⟨news args++Me (f.nslots-f.nparams),Mu f.nbox,[]⟩) ⟨(EL.news args).append (Xf _),W7 _,trivial⟩ hok h1 λ s' hs'=>?_
 obtain⟨s2,e2⟩:=fO hs' h3 h4
 rw[<- h5] at e2
 have fin:(match Mw s' f.res with|some (v,st)=>if f.pure=true then v.flt=true/\Q v [] else Q v st.hp|none=>False):=by
  rw[e2];simp only;split
  . rename_i hpu;exact⟨Xr v (hp hpu),hQ _⟩
  . exact hQ _
 cases e with
 |normal=>exact fin
 |ret=>exact fin
 |exit i=>exact absurd rfl (h2 i)
def TuX:List HT->Type
 |[]=>Unit
 |[a]=>a.D
 |a::r=>a.D×TuX r
def Iq:(l:List HT)->List DV->Option (TuX l)
 |[],[]=>some ()
 |[a],[v]=>a.of v
 | a::b::r,v::vs=>(match a.of v,Iq (b::r) vs with
   |some x,some y=>some (x,y)
   |_,_=>none)
 |_,_=>none
def EG:(l:List HT)->TuX l->List DV
 |[],_=>[]
 |[a],x=>[a.dv x]
 |a::b::r,x=>a.dv x.1::EG (b::r) x.2
inductive QT where
 |one (h:HT)|tup (l:List HT)
def QT.D:QT->Type
 |.one h=>h.D
 |.tup l=>TuX l
def QT.of:(q:QT)->DV->Option q.D
 |.one h,v=>h.of v
 |.tup l,.tup vs=>Iq l vs
 |.tup _,_=>none
def QT.dv:(q:QT)->q.D->DV
 |.one h,x=>h.dv x
 |.tup l,x=>.tup (EG l x)
def QT.ofO(q:QT):Option DV->Option q.D
 |some v=>q.of v
 |none=>none
def gN:(l:List (Ql×CT))->AgX l
 |[]=>()
 |[a]=>a.2.dflt
 |a::b::r=>(a.2.dflt,gN (b::r))
def HT.dflt:(h:HT)->h.D
 |.one _ t=>t.dflt
 |.agg l=>gN l
def gm:(l:List HT)->TuX l
 |[]=>()
 |[a]=>a.dflt
 |a::b::r=>(a.dflt,gm (b::r))
def QT.dflt:(q:QT)->q.D
 |.one h=>h.dflt
 |.tup l=>gm l
def HT.flt:HT->Bool
 |.one _ t=>t.flat
 |.agg l=>l.all λ a=>a.2.flat
def QT.flt:QT->Bool
 |.one h=>h.flt
 |.tup l=>l.all HT.flt
theorem YM:∀ {l:List HT} {vs:List DV} {x:TuX l},Iq l vs=some x->DV.encL (EG l x)=DV.encL vs
 |[],[],_,_=>rfl
 | [a],[v],x,h=>by
   show [(a.dv x).enc]=[v.enc]
   rw[(Qy (t:=a) h).1]
 | a :: b::r,v::vs,x,h=>by
   have h':(match a.of v,Iq (b::r) vs with|some x,some y=>some (x,y)|_,_=>none)=some x:=h
   clear h
   cases h1:a.of v with
   |none=>rw[h1] at h';cases h'
   | some p=>
     cases h2:Iq (b::r) vs with
     |none=>rw[h1,h2] at h';cases h'
     | some q=>
       rw[h1,h2] at h'
       have h':=CO h'
       subst h'
       show (a.dv p).enc::DV.encL (EG (b::r) q)=v.enc::DV.encL vs
       rw[(Qy h1).1,YM h2]
theorem iB{q:QT}{v:DV}{x:q.D}(h:q.of v=some x):(q.dv x).enc=v.enc/\v≠.any:=by
 cases q with
 |one t=>exact Qy (t:=t) h
 | tup l=>
   cases v<;>try (cases h;done)
   rename_i cs;refine⟨?_,by simp⟩;show PV.tup _=PV.tup _;rw[YM (l:=l) h]
theorem TE:∀ (l:List HT) (x:TuX l),(EG l x).length=l.length
 |[],_=>rfl
 |[_],_=>rfl
 | a::b::r,x=>by
   show (EG (b::r) x.2).length+1=(b::r).length+1
   rw[TE (b::r) x.2]
theorem YB{q:Ql}{t:CT}{v:DV}{x:t.D}(hf:t.flat=true)(h:t.ofQ q v=some x):v.flt=true:=by
 cases t<;>first|(cases hf;done)|skip
 all_goals (cases v<;>first|rfl|(cases h;done))
theorem gB:∀ {l:List (Ql×CT)} {vs:List DV} {x:AgX l},l.all (λ a=>a.2.flat)=true->Ll l vs=some x->DV.fltL vs=true
 |[],[],_,_,_=>rfl
 | [a],[v],x,hf,h=>by
   simp only[EY,UC,MD] at hf
   simp only[DV.fltL,YB (q:=a.1) hf h,CZ]
 | a :: b::r,v::vs,x,hf,h=>by
   have h':(match a.2.ofQ a.1 v,Ll (b::r) vs with|some x,some y=>some (x,y)|_,_=>none)=some x:=h
   clear h
   rw[EY,Ai] at hf
   cases h1:a.2.ofQ a.1 v with
   |none=>rw[h1] at h';cases h'
   | some p=>
     cases h2:Ll (b::r) vs with
     |none=>rw[h1,h2] at h';cases h'
     |some q=>simp only[DV.fltL,YB hf.1 h1,gB hf.2 h2,CZ]
theorem XT{t:HT}{v:DV}{x:t.D}(hf:t.flt=true)(h:t.of v=some x):v.flt=true:=by
 cases t with
 |one q t=>exact YB (q:=q) (t:=t) hf h
 | agg l=>
   cases v<;>try (cases h;done)
   exact gB (l:=l) hf h
theorem gV:∀ {l:List HT} {vs:List DV} {x:TuX l},l.all HT.flt=true->Iq l vs=some x->DV.fltL vs=true
 |[],[],_,_,_=>rfl
 | [a],[v],x,hf,h=>by
   simp only[EY,UC,MD] at hf
   simp only[DV.fltL,XT (t:=a) hf h,CZ]
 | a :: b::r,v::vs,x,hf,h=>by
   have h':(match a.of v,Iq (b::r) vs with|some x,some y=>some (x,y)|_,_=>none)=some x:=h
   clear h
   rw[EY,Ai] at hf
   cases h1:a.of v with
   |none=>rw[h1] at h';cases h'
   | some p=>
     cases h2:Iq (b::r) vs with
     |none=>rw[h1,h2] at h';cases h'
     |some q=>simp only[DV.fltL,XT hf.1 h1,gV hf.2 h2,CZ]
theorem gE{q:QT}{v:DV}{x:q.D}(hf:q.flt=true)(h:q.of v=some x):v.flt=true:=by
 cases q with
 |one t=>exact XT (t:=t) hf h
 | tup l=>
   cases v<;>try (cases h;done)
   exact gV (l:=l) hf h
def Yi(hs:List HT)(q:QT)(ok:TuX hs->Prop)(v:TuX hs->q.D):Lj:=λ args=>match Iq hs args with
 |some x=>some (.p (ok x),q.dv (v x))
 |none=>none
def DT.valQ(q:QT)(res:List ARes):DT->PX×Option q.D
 |.leaf (.exit _) _=>(.ff,none)
 | .leaf _ st=>(match F5 st res with
   | some v=>if v.ok&&!v.hasPtr then (match q.of v with
     |some y=>(.tt,some y)
     |none=>(.ff,none)) else (.ff,none)
   |none=>(.ff,none))
 | .node c a b=>(match a.valQ q res,b.valQ q res with
   |(g,none),(g',y)=>(PX.if' c g g',y)
   |(g,x),(g',none)=>(PX.if' c g g',x)
   |(g,some x),(g',some y)=>(PX.if' c g g',some (bSel c x y)))
 | .chk g t=>(match t.valQ q res with
   |(g',v)=>(g.land g',v))
 |.bad=>(.ff,none)
theorem PG{q:QT}{res:List ARes}:∀ {t:DT} {g:PX},t.valQ q res=(g,none)->¬ g.den
 | .leaf e st,g,h=>by
   cases e<;>simp only[DT.valQ] at h<;>(repeat' split at h)<;>simp only[Ao,reduceCtorEq,and_false,KN] at h<;>subst h<;>exact id
 | .node c x y,g,h=>by
   intro hg
   simp only[DT.valQ] at h
   cases h1:x.valQ q res with
   | mk g1 v1=>
     cases h2:y.valQ q res with
     | mk g2 v2=>
       rw[h1,h2] at h
       cases v1 with
       | none=>
         simp only[Ao] at h
         obtain⟨rfl,rfl⟩:=h
         have:=(PX.if_den _ _ _).mp hg
         cases c with
         |true=>exact PG h1 (this.1 rfl)
         |false=>exact PG h2 (this.2 rfl)
       |some v1=>cases v2<;>simp at h
 | .chk g0 t,g,h=>by
   intro hg
   simp only[DT.valQ] at h
   cases h1:t.valQ q res with
   | mk g1 v1=>
     rw[h1] at h
     simp only[Ao] at h
     obtain⟨rfl,rfl⟩:=h
     exact PG h1 ((PX.land_den _ _).mp hg).2
 | .bad,g,h=>by
   simp only[DT.valQ,Ao,KN] at h
   subst h;exact id
theorem UD{q:QT}{res:List ARes}:∀ {t:DT} {g:PX} {y:q.D},t.valQ q res=(g,some y)->g.den ->
 t.ok.den/\∃ e st v0,t.lf=some (e,st)/\(∀ i,e≠.exit i)/\F5 st res=some v0/\v0.ok=true/\q.of v0=some y
 | .leaf e st,g,y,h,hg=>by
   have gen:(match F5 st res with|some v=>if (v.ok&&!v.hasPtr)=true then (match q.of v with|some y=>(PX.tt,some y)|none=>(PX.ff,none)) else (PX.ff,none)|none=>(PX.ff,none))=(g,some y)->∃ v,F5 st res=some v/\v.ok=true/\q.of v=some y:=λ h=>by
    split at h
    . rename_i v hv;split at h
      . rename_i hc;simp only[Ai] at hc;split at h
        . rename_i y' hy;simp only[Ao,Am] at h;obtain⟨_,rfl⟩:=h;exact⟨v,hv,hc.1,hy⟩
        . simp at h
      . simp at h
    . simp at h
   cases e with
   |exit i=>simp[DT.valQ] at h
   |normal=>obtain⟨v,h1,h2,h3⟩:=gen h;exact⟨trivial,.normal,st,v,rfl,by simp,h1,h2,h3⟩
   |ret=>obtain⟨v,h1,h2,h3⟩:=gen h;exact⟨trivial,.ret,st,v,rfl,by simp,h1,h2,h3⟩
 | .node c a b,g,y,h,hg=>by
   simp only[DT.valQ] at h;show (PX.if' c a.ok b.ok).den/\∃ e st v0,(DT.node c a b).lf=some (e,st)/\(∀ i,e≠.exit i)/\F5 st res=some v0/\v0.ok=true/\q.of v0=some y;rw[PX.if_den]
   cases h1:a.valQ q res with
   | mk g1 v1=>
     cases h2:b.valQ q res with
     | mk g2 v2=>
       rw[h1,h2] at h
       have hgg:g=PX.if' c g1 g2:=by
        cases v1<;>cases v2<;>simp only[Ao] at h<;>exact h.1.symm
       subst hgg;have hg:=(PX.if_den _ _ _).mp hg
       cases c with
       | true=>
         have:v1=some y:=by
          cases v1 with
          |none=>exact absurd (hg.1 rfl) (PG h1)
          |some v1=>cases v2<;>simp only[Ao,Eg] at h<;>exact h.2
         subst this;obtain⟨k1,k2⟩:=UD h1 (hg.1 rfl);exact⟨⟨λ _=>k1,λ h=>by cases h⟩,k2⟩
       | false=>
         have:v2=some y:=by
          cases v2 with
          |none=>exact absurd (hg.2 rfl) (PG h2)
          |some v2=>cases v1<;>simp only[Ao,EE] at h<;>exact h.2
         subst this;obtain⟨k1,k2⟩:=UD h2 (hg.2 rfl);exact⟨⟨λ h=>(by cases h),λ _=>k1⟩,k2⟩
 | .chk g0 t,g,y,h,hg=>by
   simp only[DT.valQ] at h
   cases h1:t.valQ q res with
   | mk g1 v1=>
     rw[h1] at h;simp only[Ao] at h;obtain⟨rfl,rfl⟩:=h;have hg:=(PX.land_den _ _).mp hg;obtain⟨k1,k2⟩:=UD h1 hg.2;exact⟨(PX.land_den _ _).mpr ⟨hg.1,k1⟩,k2⟩
 |.bad,g,y,h,hg=>by simp[DT.valQ] at h
def QT.isB:QT->Bool
 |.one (.one _ .bool)=>true
 |_=>false
def Rb(f:DFun)(hs:List HT)(q:QT)(x:TuX hs):PX×Option q.D:=
 if q.isB then ((Q7 f (EG hs x)).1,q.ofO (Q7 f (EG hs x)).2)
 else (dev f.body ⟨news (EG hs x)++Me (f.nslots-f.nparams),Mu f.nbox,[]⟩).valQ q f.res
def MU(f:DFun)(hs:List HT)(q:QT)(x:TuX hs):q.D:=(Rb f hs q x).2.getD q.dflt
def MO(f:DFun)(hs:List HT)(q:QT)(x:TuX hs):Prop:=(Rb f hs q x).1.den
def Ox(f:DFun)(hs:List HT)(q:QT)(x:TuX hs):Bool:=(Rb f hs q x).2.isSome
def OJ(f:DFun)(hs:List HT)(q:QT):Bool:=hs.length == f.nparams&&(!f.pure||q.flt)
theorem ez {f:DFun} {hs:List HT} {q:QT} (ho:AllD f.body.obs) (hst:OJ f hs q=true) (x:TuX hs) (hc:Ox f hs q x=true) (hok:MO f hs q x)
 {Q:PV->List (List PV)->Prop} (hQ:∀ H,Q (q.dv (MU f hs q x)).enc H):N8 f.er (DV.encL (EG hs x)) [] Q:=by
 simp only[OJ,Ai,A6,Cg,BJ] at hst
 unfold Ox at hc
 unfold MU at hQ
 unfold MO at hok
 unfold Rb at hc hQ hok
 by_cases hb:q.isB=true
 . rw[Ac hb] at hc hQ hok
   cases hd:Q7 f (EG hs x) with
   | mk g o=>
     rw[hd] at hc hQ hok
     cases o with
     |none=>cases hc
     | some w=>
       obtain⟨y,hy⟩:=Option.isSome_iff_exists.mp hc;rw[hy] at hQ;have hy:q.of w=some y:=hy;obtain⟨h1,h2⟩:=iB hy
       refine vC ho hd hok h2 (by rw[TE];exact hst.1) (λ hp=>gE (by simpa [hp] using hst.2) hy) λ H=>?_
       have:=hQ H;rw[HZ,h1] at this;exact this
 . rw[Af hb] at hc hQ hok
   cases hd:(dev f.body ⟨news (EG hs x)++Me (f.nslots-f.nparams),Mu f.nbox,[]⟩).valQ q f.res with
   | mk g o=>
     rw[hd] at hc hQ hok
     cases o with
     |none=>cases hc
     | some y=>
       simp only[HZ] at hQ;obtain⟨k1,e,st,v0,k2,k3,k4,k5,k6⟩:=UD hd hok;obtain⟨h1,h2⟩:=iB k6;refine⟨by rw[Fg,TE];exact hst.1,λ _=>rfl,?_⟩
       refine GI f.body ho (d:=⟨news (EG hs x)++Me (f.nslots-f.nparams),Mu f.nbox,[]⟩) ⟨(EL.news _).append (Xf _),W7 _,trivial⟩ k1 k2 λ s' hs'=>?_
       obtain⟨s2,e2⟩:=fO hs' k4 k5;rw[<- h1] at e2
       have fin:(match Mw s' f.res with|some (v,st)=>if f.pure=true then v.flt=true/\Q v [] else Q v st.hp|none=>False):=by
        rw[e2];simp only;split
        . rename_i hpu;exact⟨by rw[h1];exact Xr _ (gE (by simpa [hpu] using hst.2) k6),hQ _⟩
        . exact hQ _
       cases e with
       |normal=>exact fin
       |ret=>exact fin
       |exit i=>exact absurd rfl (k3 i)
theorem yg{f:DFun}{hs:List HT}{q:QT}(ho:AllD f.body.obs)(hst:OJ f hs q=true)(hc:∀ x,Ox f hs q x=true){ok:TuX hs->Prop}{v:TuX hs->q.D}(hok:∀ x,ok x->MO f hs q x)(hv:∀ x,MU f hs q x=v x) :
 Um (N8 f.er) (Yi hs q ok v):=by
 intro args g w Q h hg hQ
 unfold Yi at h
 cases hx:Iq hs args with
 |none=>rw[hx] at h;cases h
 | some x=>
   rw[hx] at h;simp only[Am,Ao] at h;obtain⟨rfl,rfl⟩:=h;rw[<- YM hx]
   exact ez ho hst x (hc x) (hok x hg) λ H=>by rw[hv];exact hQ H
attribute [irreducible] Rb MU MO Ox OJ
def AH:List DV->List DC
 |[]=>[]
 |v::r=>⟨false,v⟩::AH r
open Go.RowKit Go.WideShapes Go.ChangeShapes
inductive Ty where
 |int (k:IntKind)
 |bool
 |str
 |sl (t:Ty)
 |unit
 |pair (a b:Ty)
def Ty.w:Ty->Nat
 |.int _|.bool|.str|.sl _=>1
 |.unit=>0
 |.pair a b=>a.w+b.w
def QW(P:Program)(f:TypeId->Option Ty):List Field->Nat->Option Ty
 |[],_=>some .unit
 | g::r,off=>
   match f g.type with
   |some a=>if g.offset=off/\a.w=P.cellsOf g.type then (match QW P f r (off+a.w) with|some b=>some (.pair a b)|none=>none) else none
   |none=>none
def Im(P:Program):Nat->TypeId->Option Ty
 |0,_=>none
 | d+1,t=>
   match P.underlying t with
   |some (.int k)=>some (.int k)
   |some .bool=>some .bool
   |some .string=>some .str
   |some (.slice e)=>(match Im P d e with|some te=>if te.w=P.cellsOf e/\0<te.w then some (.sl te) else none|none=>none)
   |some (.struct fs)=>(match QW P (Im P d) fs.toList 0 with|some ty=>if ty.w=P.cellsOf t then some ty else none|none=>none)
   |_=>none
def Sh(σ:Ab):Ty->List V->Prop
 |.int k,cs=>∃ n,cs=[.int k n]/\(Lit.int k n).wf=true
 |.bool,cs=>∃ b,cs=[.bool b]
 |.str,cs=>∃ s,cs=[.str s]/\s.length<=maxLen
 |.sl t,cs=>cs=[.nils]\/∃ (l n:Nat) (bs:List V),cs=[.slice l 0 n]/\σ[l]?=some ⟨.ro,t.w,bs⟩/\bs.length=n*t.w/\n<=maxLen/\∀ i,i<n->Sh σ t ((bs.drop (i*t.w)).take t.w)
 |.unit,cs=>cs=[]
 |.pair a b,cs=>∃ xs ys,cs=xs++ys/\Sh σ a xs/\Sh σ b ys
theorem Sh.len{σ:Ab}:∀ {ty:Ty} {cs:List V},Sh σ ty cs->cs.length=ty.w
 |.int _,_,⟨_,h,_⟩=>by rw[h];rfl
 |.bool,_,⟨_,h⟩=>by rw[h];rfl
 |.str,_,⟨_,h,_⟩=>by rw[h];rfl
 |.sl _,_,h=>by rcases h with h|⟨_,_,_,h,_⟩<;>rw[h]<;>rfl
 |.unit,_,h=>by rw[h];rfl
 |.pair a b,_,⟨xs,ys,h,h1,h2⟩=>by rw[h,DR,h1.len,h2.len];rfl
theorem Sh.mono{σ e:Ab}:∀ {ty:Ty} {cs:List V},Sh σ ty cs->Sh (σ++e) ty cs
 |.int _,_,h=>h
 |.bool,_,h=>h
 |.str,_,h=>h
 | .sl _,_,h=>by
   rcases h with h|⟨l,n,bs,h,h1,h2,h3,h4⟩
   . exact .inl h
   . exact .inr ⟨l,n,bs,h,by rw[Bc (Bj h1)];exact h1,h2,h3,λ i hi=>(h4 i hi).mono⟩
 |.unit,_,h=>h
 |.pair _ _,_,⟨xs,ys,h,h1,h2⟩=>⟨xs,ys,h,h1.mono,h2.mono⟩
def D7(σ:Ab):Prop:=∀ (l:Nat) (b:Blk),σ[l]?=some b->b.k= .ro
def QR(ι:AA)(σ:Ab)(W:World)(ty:Ty)(cs:List Value):Prop:=
 ∃ ι' e vs,HRel ι' (σ++e) W/\Keeps ι σ ι' (σ++e)/\D7 (σ++e)/\Sh (σ++e) ty vs/\vs.length=cs.length/\∀ (i:Nat) v x,vs[i]?=some v->cs[i]?=some x->v.cell=true/\∀ β,Rel ι' (σ++e) β v x
theorem HRel.lay{ι:AA}{σ:Ab}{W:World}(h:HRel ι σ W)(hro:D7 σ){b off c:Nat}{wd:Nat}{bs:List V}(hb:b<W.heap.size)(hc:∀ (i:Nat) v,bs[i]?=some v->v.cell=true/\∃ x,W.cell? ⟨b,off+i,none⟩=some x/\∀ β,Rel ι σ β v x) :
 HRel (upd ι σ.length ⟨b,off,c⟩) (σ++[⟨.ro,wd,bs⟩]) W/\D7 (σ++[⟨.ro,wd,bs⟩]):=by
 have K:=PA ι σ ⟨b,off,c⟩ ⟨.ro,wd,bs⟩
 have hall:D7 (σ++[⟨.ro,wd,bs⟩]):=by
  intro l blk hl;rcases Fi hl with⟨_,hl⟩|⟨_,rfl⟩
  . exact hro l blk hl
  . rfl
 refine⟨⟨λ l blk hl hk i v hv=>?_,λ l blk hl hk=>?_,λ l l' blk blk' hne hl hl' hk hk'=>?_,λ l blk hl hk=>?_⟩,hall⟩
 . rcases Fi hl with⟨hlt,hl⟩|⟨rfl,rfl⟩
   . rw[C8 _ _ _ _ (by omega)];obtain⟨a,x,b',c⟩:=h.cells l blk hl hk i v hv;exact⟨a,x,b',λ β=>(c β).cellMono K a⟩
   . rw[Cd];obtain⟨a,x,b',c⟩:=hc i v hv;exact⟨a,x,b',λ β=>(c β).cellMono K a⟩
 . have:=hall l blk hl;rw[hk] at this;cases this
 . have:=hall l blk hl;rw[hk] at this;cases this
 . rcases Fi hl with⟨hlt,hl⟩|⟨rfl,rfl⟩
   . rw[C8 _ _ _ _ (by omega)];exact h.there l blk hl hk
   . rw[Cd];exact hb
theorem sW{w:World}{a:Addr}{v:Value}(h:w.cell? a=some v):a.block<w.heap.size:=by
 unfold World.cell? at h;rcases Br a.block w.heap.size with h1|h1
 . exact h1
 . rw[Array.getElem?_eq_none h1] at h;cases h
theorem Ui{α:Type}{l:List α}{i:Nat}{v:α}(h:l[i]?=some v):i<l.length:=by
 rcases Br i l.length with h1|h1
 . exact h1
 . rw[Bz h1] at h;cases h
section
variable {H:Type} {enc:TypeId×Value->H} {P:Program} {W:World}
theorem aZ(d:Nat)(ih:∀ (t:TypeId)(ty:Ty),Im P d t=some ty->∀ (fuel:Nat)(cs:List Value) x,DataW.trod enc P W 0 (λ _=>true) true fuel t cs=some x->∀ (ι:AA)(σ:Ab),HRel ι σ W->D7 σ->QR ι σ W ty cs) :
 ∀ (fs:List Field) (off:Nat) (ty:Ty),QW P (Im P d) fs off=some ty->∀ (fuel:Nat) (cs:List Value),(∀ g∈fs,∃ x,DataW.trod enc P W 0 (λ _=>true) true fuel g.type ((cs.drop g.offset).take (P.cellsOf g.type))=some x) ->
   off+ty.w=cs.length->∀ (ι:AA) (σ:Ab),HRel ι σ W->D7 σ->QR ι σ W ty (cs.drop off)
 | [],off,ty,h,fuel,cs,_,hl,ι,σ,H,hro=>by
   simp only[QW,Am] at h;subst h;simp only[Ty.w,Ej] at hl
   have:cs.drop off=[]:=by rw[hl];simp
   rw[this];exact⟨ι,[],[],by simpa using H,by simpa using Keeps.refl ι σ,by simpa using hro,rfl,rfl,by simp⟩
 | g :: r, off,ty,h,fuel,cs,hg,hl,ι,σ,H,hro=>by
   simp only[QW] at h;split at h
   . rename_i a ha;split at h
     . rename_i hc;obtain⟨h1,h2⟩:=hc;split at h
       . rename_i b hb;cases h;simp only[Ty.w] at hl;obtain⟨x,hx⟩:=hg g (by simp);rw[h1] at hx;obtain⟨ι1,e1,vs1,H1,K1,R1,S1,L1,C1⟩:=ih g.type a ha fuel _ x hx ι σ H hro;obtain⟨ι2,e2,vs2,H2,K2,R2,S2,L2,C2⟩:=aZ d ih r (off+a.w) b hb fuel cs (λ g' hg'=>hg g' (by simp[hg'])) (by omega) ι1 (σ++e1) H1 R1;refine⟨ι2,e1++e2,vs1++vs2,by rw[<- BP];exact H2,by rw[<- BP];exact K1.trans K2,by rw[<- BP];exact R2,⟨vs1,vs2,rfl,by rw[<- BP];exact S1.mono,by rw[<- BP];exact S2⟩,?_,λ i v y hv hy=>?_⟩
         . rw[DR,L1,L2];simp;omega
         . have hl1:vs1.length=a.w:=S1.len;by_cases hi:i<vs1.length
           . rw[Bc hi] at hv
             have hy':((cs.drop off).take (P.cellsOf g.type))[i]?=some y:=by
              rw[Hq,Ac (by omega)];exact hy
             obtain⟨q1,q2⟩:=C1 i v y hv hy';exact⟨q1,λ β=>by rw[<- BP];exact(q2 β).cellMono K2 q1⟩
           . rw[CF (by omega)] at hv
             have hy':(cs.drop (off+a.w))[i-vs1.length]?=some y:=by
              rw[JP] at hy ⊢
              have:off+a.w+(i-vs1.length)=off+i:=by omega
              rw[this];exact hy
             obtain⟨q1,q2⟩:=C2 _ v y hv hy';exact⟨q1,λ β=>by rw[<- BP];exact q2 β⟩
       . cases h
     . cases h
   . cases h
theorem fZ{b o:Nat}(n:Nat):Addr.add ⟨b,o,none⟩ n=⟨b,o+n,none⟩:=by
 unfold Addr.add;split
 . rename_i h;subst h;rfl
 . rfl
theorem bq {d:Nat} (ih:∀ (t:TypeId) (ty:Ty),Im P d t=some ty->∀ (fuel:Nat) (cs:List Value) x,DataW.trod enc P W 0 (λ _=>true) true fuel t cs=some x->∀ (ι:AA) (σ:Ab),HRel ι σ W->D7 σ->QR ι σ W ty cs)
 {e:TypeId} {te:Ty} (hte:Im P d e=some te) (hw:te.w=P.cellsOf e) {fuel b o:Nat} :
 ∀ (n:Nat),(∀ i,i<n->∃ cs x,W.cells? 0 ⟨b,o+i*te.w,none⟩ te.w=some cs/\DataW.trod enc P W 0 (λ _=>true) true fuel e cs=some x)->∀ (ι:AA) (σ:Ab),HRel ι σ W->D7 σ ->
   ∃ (ι':AA) (ext:Ab) (bs:List V),HRel ι' (σ++ext) W/\Keeps ι σ ι' (σ++ext)/\D7 (σ++ext)/\bs.length=n*te.w/\(∀ i,i<n->Sh (σ++ext) te ((bs.drop (i*te.w)).take te.w)) /\
     ∀ (j:Nat) v,bs[j]?=some v->v.cell=true/\∃ x,W.cell? ⟨b,o+j,none⟩=some x/\∀ β,Rel ι' (σ++ext) β v x
 |0,_,ι,σ,H0,hro=>⟨ι,[],[],by simpa using H0,by simpa using Keeps.refl ι σ,by simpa using hro,by simp,λ i hi=>absurd hi (Mf i),by simp⟩
 | n + 1,hn,ι,σ,H0,hro=>by
   obtain⟨ι1,e1,bs,H1,K1,R1,L1,S1,C1⟩:=bq ih hte hw n (λ i hi=>hn i (Nat.lt_succ_of_lt hi)) ι σ H0 hro;obtain⟨cs,x,hc,hx⟩:=hn n (Qq n);obtain⟨ι2,e2,vs,H2,K2,R2,S2,L2,C2⟩:=ih e te hte fuel cs x hx ι1 (σ++e1) H1 R1;obtain⟨_,hcl,hcg⟩:=World.cells?_some hc;refine⟨ι2,e1++e2,bs++vs,by rw[<- BP];exact H2,by rw[<- BP];exact K1.trans K2,by rw[<- BP];exact R2,?_,λ i hi=>?_,λ j v hv=>?_⟩
   . rw[DR,L1,L2,hcl,L4]
   . rw[<- BP];by_cases h:i<n
     . have h1:(i+1)*te.w<=n*te.w:=FZ _ h;rw[L4] at h1
       have:((bs++vs).drop (i*te.w)).take te.w=(bs.drop (i*te.w)).take te.w:=by
        rw[List.drop_append_of_le_length (by omega),List.take_append_of_le_length (by rw[Mh];omega)]
       rw[this];exact(S1 i h).mono
     . have:i=n:=by omega
       subst this
       have:((bs++vs).drop (i*te.w)).take te.w=vs:=by
        rw[<- L1,List.drop_left,Qr (by omega)]
       rw[this];exact S2
   . by_cases h:j<bs.length
     . rw[Bc h] at hv;obtain⟨q1,y,q2,q3⟩:=C1 j v hv;exact⟨q1,y,q2,λ β=>by rw[<- BP];exact(q3 β).cellMono K2 q1⟩
     . rw[CF (by omega)] at hv;have hlt:=Ui hv
       have hlt':j-bs.length<te.w:=by rw[<- hcl,<- L2];exact hlt
       have hg:=hcg (j-bs.length) hlt';rw[fZ] at hg
       have e0:o+n*te.w+(j-bs.length)=o+j:=by omega
       rw[e0] at hg;obtain⟨y,hy⟩:∃ y,cs[j-bs.length]?=some y:=⟨_,A3 (by omega)⟩;obtain⟨q1,q2⟩:=C2 _ v y hv hy;exact⟨q1,y,hg.trans hy,λ β=>by rw[<- BP];exact q2 β⟩
theorem VS:∀ (d:Nat) (t:TypeId) (ty:Ty),Im P d t=some ty->∀ (fuel:Nat) (cs:List Value) x,DataW.trod enc P W 0 (λ _=>true) true fuel t cs=some x->∀ (ι:AA) (σ:Ab),HRel ι σ W->D7 σ->QR ι σ W ty cs
 |0,_,_,h=>by simp[Im] at h
 | d + 1, t, ty,h=>by
   intro fuel cs x hx ι σ H0 hro
   have one:∀ (v:V) (y:Value),cs=[y]->v.cell=true->(∀ β,Rel ι σ β v y)->Sh σ ty [v]->QR ι σ W ty cs:=by
    intro v y hc hv hr hs;refine⟨ι,[],[v],by simpa using H0,by simpa using Keeps.refl ι σ,by simpa using hro,by simpa using hs,by rw[hc];rfl,λ i u z hu hz=>?_⟩;rw[hc] at hz
    cases i with
    |zero=>simp at hu hz;subst hu;subst hz;exact⟨hv,by simpa using hr⟩
    |succ i=>simp at hu
   unfold Im at h;split at h
   . rename_i k hu;cases h;obtain⟨n,hc,_,hwf⟩:=DataW.trod_int hu hx;exact one (.int k n) _ hc rfl (λ β=>.int k n) ⟨n,rfl,hwf⟩
   . rename_i hu;cases h;obtain⟨b,hc,_⟩:=DataW.trod_bool hu hx;exact one (.bool b) _ hc rfl (λ β=>.bool b) ⟨b,rfl⟩
   . rename_i hu;cases h;obtain⟨s,hc,_,hwf⟩:=DataW.trod_string hu hx;exact one (.str s.data.toList) _ hc rfl (λ β=>by have:=Rel.str (ι:=ι) (σ:=σ) (β:=β) s.data.toList;simpa using this) ⟨s.data.toList,rfl,by simpa using hwf⟩
   . rename_i e hu;split at h
     . rename_i te hte;split at h
       . rename_i hw;obtain⟨hw,hpos⟩:=hw;cases h;rcases DataW.trod_slice hu hx with⟨hc,_⟩|⟨a,len,cap,elems,rest,n,_,hc,_,_,hle,hcap,hel,hE,hR,_⟩
         . exact one .nils _ hc rfl (λ β=>.nils none) (.inl rfl)
         . obtain⟨hrl,hR⟩:=hR rfl
           have hcell:∀ i,i<cap->∃ cs' y,W.cells? 0 (a.add (i*P.cellsOf e)) (P.cellsOf e)=some cs'/\DataW.trod enc P W 0 (λ _=>true) true n e cs'=some y:=by
            intro i hi;by_cases h:i<len
            . have h1:=hE i h;obtain⟨y,hy⟩:∃ y,elems[i]?=some y:=⟨_,A3 (by omega)⟩;rw[hy,BL] at h1;obtain⟨cs',h1,h2⟩:=h1;exact⟨cs',y,h1,h2⟩
            . have h1:=hR (i-len) (by omega);obtain⟨y,hy⟩:∃ y,rest[i-len]?=some y:=⟨_,A3 (by omega)⟩;rw[hy,BL] at h1;obtain⟨cs',h1,h2⟩:=h1;rw[show len+(i-len)=i by omega] at h1;exact⟨cs',y,h1,h2⟩
           by_cases hc0:cap=0
           . subst hc0
             have:len=0:=by omega
             subst this;exact one .nils _ hc rfl (λ β=>.nils (some a)) (.inl rfl)
           . have hsp:a.spot=none/\a.block<W.heap.size:=by
              obtain⟨cs',y,h1,_⟩:=hcell 0 (by omega);obtain⟨_,h2,h3⟩:=World.cells?_some h1;have h4:=h3 0 (by omega);obtain⟨z,hz⟩:∃ z,cs'[0]?=some z:=⟨_,A3 (by omega)⟩;rw[hz] at h4
              have h5:W.cell? a=some z:=by simpa [Addr.add] using h4
              exact⟨World.cell?_spot h5,sW h5⟩
             obtain⟨ab,ao,asp⟩:=a;obtain⟨hsp,hlt⟩:=hsp;simp only at hsp hlt;subst hsp
             have hcell':∀ i,i<len->∃ cs' y,W.cells? 0 ⟨ab,ao+i*te.w,none⟩ te.w=some cs'/\DataW.trod enc P W 0 (λ _=>true) true n e cs'=some y:=by
              intro i hi;have:=hcell i (by omega);rw[fZ,<- hw] at this;exact this
             obtain⟨ι1,e1,bs,H1,K1,R1,L1,S1,C1⟩:=bq (VS d) hte hw len hcell' ι σ H0 hro;obtain⟨H2,R2⟩:=H1.lay R1 (c:=cap*te.w) (wd:=te.w) hlt C1;have K2:=PA ι1 (σ++e1) ⟨ab,ao,cap*te.w⟩ ⟨.ro,te.w,bs⟩
             have hg:((σ++e1)++[(⟨.ro,te.w,bs⟩:Blk)])[(σ++e1).length]?=some ⟨.ro,te.w,bs⟩:=by simp
             refine⟨_,e1++[⟨.ro,te.w,bs⟩],[.slice (σ++e1).length 0 len],by rw[<- BP];exact H2,by rw[<- BP];exact K1.trans K2,by rw[<- BP];exact R2,.inr ⟨_,len,bs,rfl,by rw[<- BP];exact hg,L1,by omega,λ i hi=>by rw[<- BP];exact(S1 i hi).mono⟩,by rw[hc];rfl,λ i u z hu hz=>?_⟩;rw[hc] at hz
             cases i with
             | zero=>
               simp at hu hz;subst hu;subst hz;refine⟨rfl,λ β=>?_⟩;have:=Rel.slice (ι:=upd ι1 (σ++e1).length ⟨ab,ao,cap*te.w⟩) (σ:=(σ++e1)++[⟨.ro,te.w,bs⟩]) (β:=β) (σ++e1).length 0 len cap ⟨.ro,te.w,bs⟩ hg hle (by rw[Cd];simp) (by first|assumption|(simp only;omega));rw[Cd] at this;simpa using this
             |succ i=>simp at hu
       . cases h
     . cases h
   . rename_i fs hu;split at h
     . rename_i ty' hty;split at h
       . rename_i hw;cases h;obtain⟨xs,n,_,_,hl,hxl,hf⟩:=DataW.trod_struct hu hx
         have:=aZ (enc:=enc) d (VS d) fs.toList 0 _ hty n cs (λ g hg=>by
          obtain⟨i,hi⟩:=H7 hg;have h1:=hf i g (by simpa using hi)
          have:i<xs.length:=by rw[hxl];have:=Ui hi;simpa using this
          exact⟨_,h1.trans (A3 this)⟩) (by omega) ι σ H0 hro
         simpa using this
       . cases h
     . cases h
   . cases h
end
open Go.RowKit Go.WideShapes Go.ChangeShapes
def YI(P:Program)(d:Nat)(t:TypeId):Option (Ty×Bool):=
 match Im P d t with
 | some ty=>(match P.underlying t with
   |some (.struct _)=>some (ty,true)
   |some (.int _)|some .bool|some .string|some (.slice _)=>some (ty,false)
   |_=>none)
 |none=>none
def Oo(P:Program)(d:Nat):List TypeId->Option (List (Ty×Bool))
 |[]=>some []
 | t::r=>match YI P d t,Oo P d r with
   |some a,some b=>some (a::b)
   |_,_=>none
def ArgOk(σ:Ab):Ty×Bool->V->Prop
 |(ty,true),v=>∃ cs,v= .agg cs/\Sh σ ty cs/\cs.all V.cell=true
 |(ty,false),v=>Sh σ ty [v]/\v.cell=true
def Oi(σ:Ab):List (Ty×Bool)->List V->Prop
 |[],[]=>True
 |a::r,v::s=>ArgOk σ a v/\Oi σ r s
 |_,_=>False
theorem ArgOk.mono{σ e:Ab}{a:Ty×Bool}{v:V}(h:ArgOk σ a v):ArgOk (σ++e) a v:=by
 obtain⟨ty,b⟩:=a
 cases b with
 |true=>obtain⟨cs,h1,h2,h3⟩:=h;exact⟨cs,h1,h2.mono,h3⟩
 |false=>exact⟨h.1.mono,h.2⟩
theorem ArgOk.noBox{σ:Ab}{a:Ty×Bool}{v:V}(h:ArgOk σ a v):∀ i o,v≠.box i o:=by
 obtain⟨ty,b⟩:=a;intro i o e;subst e
 cases b with
 |true=>obtain⟨cs,h1,_⟩:=h;cases h1
 |false=>have:=h.2;cases this
section
variable {H:Type} {enc:TypeId×Value->H} {P:Program} {W:World} {r:Reach} {base:Nat}
theorem xG {d:Nat} {t:TypeId} {a:Ty×Bool} (ha:YI P d t=some a) {v:Value} {dd:DataW H} {ps:List MemPlace} (h:DataW.Trod enc P W 0 (λ _=>true) true t v dd ps) (hok:Value.okWide P W r base t v)
 (ι:AA) (σ:Ab) (H0:HRel ι σ W) (hro:D7 σ) :
 ∃ ι' e u,HRel ι' (σ++e) W/\Keeps ι σ ι' (σ++e)/\D7 (σ++e)/\ArgOk (σ++e) a u/\∀ β,Rel ι' (σ++e) β u v:=by
 unfold YI at ha
 split at ha
 . rename_i ty hty
   obtain⟨fuel,hx⟩:=h;obtain⟨ι',e,vs,h1,h2,h3,h4,h5,h6⟩:=VS d t ty hty fuel _ _ hx ι σ H0 hro
   have one:∀ (hc:v.cells=#[v]),a=(ty,false)->∃ ι' e u,HRel ι' (σ++e) W/\Keeps ι σ ι' (σ++e)/\D7 (σ++e)/\ArgOk (σ++e) a u/\∀ β,Rel ι' (σ++e) β u v:=by
    intro hc ea;rw[hc] at h5 h6
    match vs,h5,h4,h6 with
    | [u],_,h4,h6=>
      obtain⟨c1,c2⟩:=h6 0 u v rfl rfl;exact⟨ι',e,u,h1,h2,h3,by rw[ea];exact⟨h4,c1⟩,c2⟩
   split at ha
   . rename_i fs hu;cases ha;obtain⟨cs,rfl,_⟩:=okWide_struct hu hok;replace h5:vs.length=cs.toList.length:=h5;refine⟨ι',e,.agg vs,h1,h2,h3,⟨vs,rfl,h4,?_⟩,λ β=>?_⟩
     . rw[CV];intro u hu';obtain⟨i,hi⟩:=H7 hu'
       have:i<cs.toList.length:=by rw[<- h5];exact Ui hi
       exact(h6 i u _ hi (A3 this)).1
     . have:=Rel.agg (ι:=ι') (σ:=σ++e) (β:=β) vs cs.toList h5 (λ u hu'=>by
        obtain⟨i,hi⟩:=H7 hu'
        have:i<cs.toList.length:=by rw[<- h5];exact Ui hi
        exact(h6 i u _ hi (A3 this)).1) (λ i u w hi hw=>(h6 i u w hi hw).2 β)
       simpa using this
   . rename_i k hu;cases ha;obtain⟨n,rfl⟩:=okWide_int hu hok;exact one rfl rfl
   . rename_i hu;cases ha;obtain⟨n,rfl⟩:=okWide_bool hu hok;exact one rfl rfl
   . rename_i hu;cases ha;obtain⟨n,rfl⟩:=okWide_string hu hok;exact one rfl rfl
   . rename_i el hu;cases ha;obtain⟨x,y,z,rfl⟩:=okWide_slice hu hok;exact one rfl rfl
   . cases ha
 . cases ha
theorem b9{d:Nat}:∀ {ts:List TypeId} {tys:List (Ty×Bool)},Oo P d ts=some tys->∀ {vs:List Value} {ds:List (DataW H)} {ps:List MemPlace},DataW.TrodAll enc P W 0 (λ _=>true) true ts vs ds ps ->
 (∀ (j:Nat) t v,ts[j]?=some t->vs[j]?=some v->Value.okWide P W r base t v)->∀ (ι:AA) (σ:Ab),HRel ι σ W->D7 σ ->
 ∃ ι' e us,HRel ι' (σ++e) W/\Keeps ι σ ι' (σ++e)/\D7 (σ++e)/\Oi (σ++e) tys us/\us.length=vs.length/\∀ (i:Nat) u v,us[i]?=some u->vs[i]?=some v->(∀ j o,u≠.box j o)/\∀ β,Rel ι' (σ++e) β u v
 | [],tys,h,vs,ds,ps,hd,_,ι,σ,H0,hro=>by
   obtain⟨rfl,_,_⟩:=trodAll_nil hd
   cases h
   exact⟨ι,[],[],by simpa using H0,by simpa using Keeps.refl ι σ,by simpa using hro,trivial,rfl,by simp⟩
 | t :: ts,tys,h,vs,ds,ps,hd,hok,ι,σ,H0,hro=>by
   obtain⟨v,vs',x,ds',p,q,rfl,rfl,rfl,h1,h2⟩:=trodAll_cons hd
   unfold Oo at h
   split at h
   . rename_i a b ha hb
     cases h
     obtain⟨ι1,e1,u,H1,K1,R1,A1,C1⟩:=xG ha h1 (hok 0 t v rfl rfl) ι σ H0 hro
     obtain⟨ι2,e2,us,H2,K2,R2,A2,L2,C2⟩:=b9 hb h2 (λ j t' v' hj hv=>hok (j+1) t' v' hj hv) ι1 (σ++e1) H1 R1
     refine⟨ι2,e1++e2,u::us,by rw[<- BP];exact H2,by rw[<- BP];exact K1.trans K2,by rw[<- BP];exact R2,by rw[<- BP];exact⟨A1.mono,A2⟩,by simp[L2],λ i u' v' hu hv=>?_⟩
     rw[<- BP]
     cases i with
     | zero=>
       simp at hu hv;subst hu;subst hv
       exact⟨A1.noBox,λ β=>(C1 β).mono K2 (λ j o e=>absurd e (A1.noBox j o))⟩
     |succ i=>exact C2 i u' v' (by simpa using hu) (by simpa using hv)
   . cases h
end
def X8(P:Program)(ts:List TypeId):Bool:=ts.all λ t=>P.readableRec t&&decide (t<P.types.size)
theorem aT{H:Type}{enc:TypeId×Value->H}{P:Program}(hl:laidOutB P=true){W W':World}{sp':Nat->Bool}:∀ {ts:List TypeId} {vs:List Value} {ds:List (DataW H)} {ps:List MemPlace},X8 P ts=true ->
 DataW.TrodAll enc P W 0 (λ _=>true) true ts vs ds ps->(∀ p∈ps,W.sameAt W' p)->(∀ p∈ps,sp' p.block=true)->DataW.TrodAll enc P W' 0 sp' true ts vs ds ps
 | [],vs,ds,ps,_,h,_,_=>by
   obtain⟨rfl,rfl,rfl⟩:=trodAll_nil h
   rfl
 | t::ts,vs,ds,ps,hr,h,h1,h2=>by
   obtain⟨v,vs',x,ds',p,q,rfl,rfl,rfl,g1,g2⟩:=trodAll_cons h
   unfold X8 at hr
   rw[EY,Ai,Ai,AB] at hr
   exact⟨p,q,WideElems.Trod_stays hl hr.1.1 hr.1.2 g1 (λ y hy=>h1 y (by simp[hy])) (λ y hy=>h2 y (by simp[hy])),aT hl hr.2 g2 (λ y hy=>h1 y (by simp[hy])) (λ y hy=>h2 y (by simp[hy])),rfl⟩
theorem sR {H:Type} {enc:TypeId×Value->H} {P:Program} {f:Func} {s:ChangeSpec} {apart fresh handsOn again:Bool} {W W':World} {args:Array Value} {v:Value} {ds gs:List (DataW H)} {before pa pv:List MemPlace}
 (hW:DataW.Whole enc P f.params.toList s.vars apart W args.toList ds gs before)
 (hres:∀ (b:Nat) (sp:Nat->Bool) (hd:Bool),DataW.TrodAll enc P W' b sp hd f.resultTypes.toList (v.resultList f.resultTypes.size) (s.fn H (ds++gs)).results [])
 (hargs:∀ sp:Nat->Bool,(∀ p∈before,sp p.block=true)->DataW.TrodAll enc P W' 0 sp true f.params.toList args.toList (s.fn H (ds++gs)).args pa)
 (hvars:∀ sp:Nat->Bool,(∀ p∈before,sp p.block=true)->DataW.TrodVars enc P W' sp s.vars (s.fn H (ds++gs)).vars pv)
 (hps:before=pa++pv) (hb:Below W.heap.size W W')
 (hok:∀ (j:Nat) (t:TypeId) (r:Value),f.resultTypes[j]?=some t->(v.resultList f.resultTypes.size)[j]?=some r->Value.okWide P W' .any 0 t r) :
 s.post enc P f apart fresh handsOn again W args v W':=by
 have hlt:∀ p∈before,p.block<W.heap.size:=λ p hp=>hW.lt p hp
 have hold:∀ p∈before,(λ b=>decide (b<W.heap.size)) p.block=true:=λ p hp=>by simpa using hlt p hp
 refine⟨ds,gs,before,[],pa,pv,hW,hres _ _ _,hargs _ hold,hvars _ hold,World.keptBut_mono (λ p hp=>⟨hp,?_⟩) (hb.frame (·∈before)),λ _=>?_⟩
 . rw[hps,D5] at hp
   exact Or.inr hp
 . obtain⟨_,_,_,_,_,hz,hn⟩:=hW
   refine⟨hok,_,_,([]++pa)++pv,⟨[]++pa,pv,trodAll_append (hargs _ (λ _ _=>rfl)) (hres _ _ _),hvars _ (λ _ _=>rfl),rfl,?_,?_⟩,?_⟩
   . intro b off hp
     have hin:MemPlace.cell b off∈before:=by rw[hps];simpa using hp
     rw[hb.frozen (hlt _ hin)];exact hz b off hin
   . intro ha;have:=hn ha;rw[hps] at this;simpa using this
   . intro p hp _;rw[hps];simpa using hp
theorem tM {H:Type} {enc:TypeId×Value->H} {P:Program} {f:FuncId} {fn:Func} {s:ChangeSpec} {apart fresh handsOn again:Bool} {sem:A7} {tys:List (Ty×Bool)} {d:Nat} {tb:TypeId}
 (hs:Aw P f sem) (has:Oo P d fn.params.toList=some tys) (hrows:X8 P fn.params.toList=true) (hl:laidOutB P=true)
 (hres:fn.resultTypes=#[tb]) (htb:P.underlying tb=some .bool) (hvars:s.vars=[])
 (hspec:∀ ds:List (DataW H),ds.length=tys.length->s.fn H ds={ results:=[.lit (.bool true)],args:=ds })
 (law:∀ (σ:Ab) (us:List V),D7 σ->Oi σ tys us->sem us σ λ r _=>r= .bool true)
 {W:World} {base:Nat} {args:Array Value} {ds gs:List (DataW H)} {before:List MemPlace}
 (hval:∀ (j:Nat) t v,fn.params[j]?=some t->args[j]?=some v->Value.okWide P W .any base t v)
 (hW:DataW.Whole enc P fn.params.toList s.vars apart W args.toList ds gs before) (hgl:GlW P W) :
 Calls P f args W λ e W'=>∃ v,e= .returned v/\s.post enc P fn apart fresh handsOn again W args v W':=by
 have hW':=hW
 obtain⟨p,q,hA,hV,rfl,hfz,hnd⟩:=hW
 rw[hvars] at hV
 obtain⟨rfl,rfl⟩:=trodVars_none hV
 rw[Om] at hW'
 obtain⟨ι,e,us,H1,_,R1,A1,L1,C1⟩:=b9 (d:=d) has hA (λ j t v hj hv=>hval j t v (by simpa using hj) (by simpa using hv)) (λ _=>⟨0,0,0⟩) [] ⟨by simp,by simp,by simp,by simp⟩ (λ l b h=>by simp at h)
 simp only[CA] at H1 R1 A1 C1
 have hc:=hs Phm.no ι e W us args.toList _ (.no e) (by rw[P9];exact H1) (by rw[P9];exact⟨L1,λ i u v hu hv=>(C1 i u v hu hv).2⟩) (law e us R1 A1) ⟨hgl,λ nm hn g hg l blk hl hk=>by rw[P9] at hl;have:=R1 l blk hl;rw[hk] at this;cases this⟩
 have hlen:ds.length=tys.length:=by
  have h1:∀ {ts:List TypeId} {tys:List (Ty×Bool)},Oo P d ts=some tys->tys.length=ts.length:=by
   intro ts
   induction ts with
   |nil=>intro tys h;cases h;rfl
   | cons t ts ih=>
     intro tys h;unfold Oo at h;split at h
     . rename_i a b _ hb;cases h;simp[ih hb]
     . cases h
  have h2:∀ {ts:List TypeId} {vs:List Value} {ds:List (DataW H)} {ps:List MemPlace},DataW.TrodAll enc P W 0 (λ _=>true) true ts vs ds ps->ds.length=ts.length:=by
   intro ts
   induction ts with
   |nil=>intro vs ds ps h;obtain⟨_,rfl,_⟩:=trodAll_nil h;rfl
   | cons t ts ih=>
     intro vs ds ps h;obtain⟨v,vs',x,ds',p,q,rfl,rfl,rfl,_,g2⟩:=trodAll_cons h;simp[ih g2]
  rw[h1 has,h2 hA]
 refine(Calls.mono (by simpa using hc) λ en W' hd=>?_:Calls P f args W _)
 obtain⟨x,r,σ',ι',rfl,rfl,_,hx,_,hstep⟩:=hd
 rw[P9,P9] at hstep
 have hx':=hx (λ _=>0)
 cases hx'
 have hb:Below W.heap.size W W':=⟨hstep.os,hstep.tape,hstep.output,hstep.size,λ k hk=>hstep.frame k hk λ l blk hl hk'=>by have:=R1 l blk hl;rw[hk'] at this;cases this⟩
 have hfn:=hspec (ds++[]) (by simpa using hlen)
 have hlt:∀ x∈p,x.block<W.heap.size:=λ x hx=>hW'.lt x hx
 refine⟨_,rfl,sR (pa:=p) (pv:=[]) hW' (λ _ _ _=>?_) (λ sp hsp=>?_) (λ sp _=>?_) (by simp) hb (ok_one hres rfl (okWide_bool_mk htb true))⟩
 . rw[hfn,hres]
   exact trodAll_cons_mk (shut_bool htb true) trodAll_mk0
 . rw[hfn]
   simp only[Om];exact aT hl hrows hA (λ x hx=>hb.same (hlt x hx)) hsp
 . rw[hfn,hvars]
   rfl
open Go.ChangeShapes
mutual
def CT.wf:(t:CT)->t.D->Prop
 |.int k,n=>(Lit.int k n).wf=true
 |.bool,_=>True
 |.str,s=>s.length<=maxLen
 |.ifc,_=>True
 |.sl r,l=>@List.length r.D l<=maxLen/\∀ x:r.D,@Membership.mem r.D (List r.D) inferInstance l x->RT.wf r x
 |.slf _,_=>False
def RT.wf:(r:RT)->r.D->Prop
 |.one t,x=>CT.wf t x
 |.cons t r,x=>CT.wf t x.1/\RT.wf r x.2
end
def AgX.wf:(l:List (Ql×CT))->AgX l->Prop
 |[],_=>True
 |[a],x=>a.2.wf x
 |a::b::r,x=>a.2.wf x.1/\AgX.wf (b::r) x.2
def HT.wf:(h:HT)->h.D->Prop
 |.one _ t,x=>t.wf x
 |.agg l,x=>AgX.wf l x
def TuX.wf:(l:List HT)->TuX l->Prop
 |[],_=>True
 |[a],x=>a.wf x
 |a::b::r,x=>a.wf x.1/\TuX.wf (b::r) x.2
def F7:List CT->RT
 |[]=>.one .bool
 |[a]=>.one a
 |a::b::r=>.cons a (F7 (b::r))
def Ty.cts:Ty->List CT
 |.int k=>[.int k]
 |.bool=>[.bool]
 |.str=>[.str]
 |.sl t=>[.sl (F7 t.cts)]
 |.unit=>[]
 |.pair a b=>a.cts++b.cts
def Ty.good:Ty->Bool
 |.sl t=>Nat.blt 0 t.w&&t.good
 |.pair a b=>a.good&&b.good
 |_=>true
def Lh:Ty×Bool->HT
 |(ty,true)=>.agg (ty.cts.map λ t=>(.frz,t))
 |(ty,false)=>match ty.cts with|[c]=>.one .frz c|_=>.agg []
def T1:Ty×Bool->Bool
 |(ty,true)=>ty.good
 |(ty,false)=>ty.good&&ty.cts.length == 1
def DL:List CT->Type
 |[]=>Unit
 |a::r=>a.D×DL r
def DL.wf:(l:List CT)->DL l->Prop
 |[],_=>True
 |a::r,x=>a.wf x.1/\DL.wf r x.2
def DL.enc:(l:List CT)->DL l->List PV
 |[],_=>[]
 |a::r,x=>CT.enc a x.1::DL.enc r x.2
def DL.encF:(l:List CT)->DL l->List PV
 |[],_=>[]
 |a::r,x=>(CT.dv .frz a x.1).enc::DL.encF r x.2
def DL.app:(l m:List CT)->DL l->DL m->DL (l++m)
 |[],_,_,y=>y
 |_::l,m,x,y=>(x.1,DL.app l m x.2 y)
theorem DL.app_enc:∀ (l m:List CT) (x:DL l) (y:DL m),DL.enc (l++m) (DL.app l m x y)=DL.enc l x++DL.enc m y
 |[],_,_,_=>rfl
 | a::l,m,x,y=>by
   show CT.enc a x.1::DL.enc (l++m) (DL.app l m x.2 y)=CT.enc a x.1::(DL.enc l x.2++DL.enc m y)
   rw[DL.app_enc l m x.2 y]
theorem DL.app_encF:∀ (l m:List CT) (x:DL l) (y:DL m),DL.encF (l++m) (DL.app l m x y)=DL.encF l x++DL.encF m y
 |[],_,_,_=>rfl
 | a::l,m,x,y=>by
   show (CT.dv .frz a x.1).enc::DL.encF (l++m) (DL.app l m x.2 y)=(CT.dv .frz a x.1).enc::(DL.encF l x.2++DL.encF m y)
   rw[DL.app_encF l m x.2 y]
theorem DL.app_wf:∀ (l m:List CT) (x:DL l) (y:DL m),DL.wf l x->DL.wf m y->DL.wf (l++m) (DL.app l m x y)
 |[],_,_,_,_,h=>h
 |_::l,m,x,y,h,h'=>⟨h.1,DL.app_wf l m x.2 y h.2 h'⟩
theorem DL.len:∀ (l:List CT) (x:DL l),(DL.enc l x).length=l.length
 |[],_=>rfl
 |_::l,x=>by show _+1=_+1;rw[DL.len l x.2]
theorem DL.lenF:∀ (l:List CT) (x:DL l),(DL.encF l x).length=l.length
 |[],_=>rfl
 |_::l,x=>by show _+1=_+1;rw[DL.lenF l x.2]
def DL.rt:(l:List CT)->DL l->(F7 l).D
 |[],_=>false
 |[_],x=>x.1
 |_::b::r,x=>(x.1,DL.rt (b::r) x.2)
theorem DL.rt_enc:∀ (l:List CT) (x:DL l),l≠[]->RT.enc (F7 l) (DL.rt l x)=DL.enc l x
 |[],_,h=>absurd rfl h
 |[_],_,_=>rfl
 | a::b::r,x,_=>by
   show CT.enc a x.1::RT.enc (F7 (b::r)) (DL.rt (b::r) x.2)=CT.enc a x.1::DL.enc (b::r) x.2
   rw[DL.rt_enc (b::r) x.2 (by simp)]
theorem DL.rt_wf:∀ (l:List CT) (x:DL l),l≠[]->DL.wf l x->RT.wf (F7 l) (DL.rt l x)
 |[],_,h,_=>absurd rfl h
 |[_],_,_,h=>h.1
 |a::b::r,x,_,h=>⟨h.1,DL.rt_wf (b::r) x.2 (by simp) h.2⟩
def DL.ag:(l:List CT)->DL l->AgX (l.map λ t=>(Ql.frz,t))
 |[],_=>()
 |[_],x=>x.1
 |_::b::r,x=>(x.1,DL.ag (b::r) x.2)
theorem DL.ag_enc:∀ (l:List CT) (x:DL l),DV.encL (OK (l.map λ t=>(Ql.frz,t)) (DL.ag l x))=DL.encF l x
 |[],_=>rfl
 |[_],_=>rfl
 | a::b::r,x=>by
   show (CT.dv .frz a x.1).enc::DV.encL (OK ((b::r).map λ t=>(Ql.frz,t)) (DL.ag (b::r) x.2))=(CT.dv .frz a x.1).enc::DL.encF (b::r) x.2
   rw[DL.ag_enc (b::r) x.2]
theorem DL.ag_wf:∀ (l:List CT) (x:DL l),DL.wf l x->AgX.wf (l.map λ t=>(Ql.frz,t)) (DL.ag l x)
 |[],_,_=>trivial
 |[_],_,h=>h.1
 |a::b::r,x,h=>⟨h.1,DL.ag_wf (b::r) x.2 h.2⟩
theorem JJ:∀ (t:Ty),t.cts.length=t.w
 |.int _|.bool|.str|.sl _|.unit=>rfl
 |.pair a b=>by simp only[Ty.cts,Ty.w,DR,JJ a,JJ b]
def ωro(σ:Ab):Nat->W:=λ l=>if l<σ.length then .frz else .none
theorem ωro_frz{σ:Ab}{l:Nat}{b:Blk}(h:σ[l]?=some b):ωro σ l= .frz:=by
 unfold ωro;rw[Ac (Bj h)]
theorem SO:∀ (a b:List PV) (i:Nat),i<a.length->Aa (a++b) i=Aa a i
 |[],_,_,h=>by cases h
 |_::_,_,0,_=>rfl
 |_::a,b,i+1,h=>SO a b i (by simpa using h)
theorem SL:∀ (a b:List PV) (i:Nat),Aa (a++b) (a.length+i)=Aa b i
 |[],_,_=>by simp
 | _::a,b,i=>by
   have:=SL a b i
   simp only[CP,Bi,YD]
   exact this
theorem VY:∀ (a b:List V) (i:Nat),i<a.length->get (a++b) i=get a i
 |[],_,_,h=>by cases h
 |_::_,_,0,_=>rfl
 |_::a,b,i+1,h=>VY a b i (by simpa using h)
theorem VT:∀ (a b:List V) (i:Nat),get (a++b) (a.length+i)=get b i
 |[],_,_=>by simp
 | _::a,b,i=>by
   have:=VT a b i
   simp only[CP,Bi,YD]
   exact this
theorem VU:∀ (l:List V) (o n i:Nat),i<n->get ((l.drop o).take n) i=get l (o+i)
 |[],o,n,i,_=>by simp[get]
 |c::r,0,0,i,h=>by cases h
 |c::r,0,n+1,0,_=>rfl
 | c::r,0,n+1,i+1,h=>by
   have:=VU r 0 n i (by omega)
   simp only[Bv] at this
   simp only[Hs,Yv,get,Bv]
   simpa using this
 | c::r,o+1,n,i,h=>by
   have:=VU r o n i h
   rw[List.drop_succ_cons,this,YD]
   rfl
theorem dc{w:Nat}:∀ (es:List (List PV)) (i j:Nat),(∀ e∈es,e.length=w)->j<w->i<es.length->Aa es.flatten (i*w+j)=Aa (Bb es i) j
 |[],i,_,_,_,h=>by cases h
 | e::r,0,j,hw,hj,_=>by
   have he:=hw e (KT ..)
   rw[JI,Bv,GA,SO _ _ _ (by omega)]
   rfl
 | e::r,i+1,j,hw,hj,h=>by
   have he:=hw e (KT ..)
   rw[GA,show (i+1)*w+j=e.length+(i*w+j) by rw[he,L4];omega,SL]
   exact dc r i j (λ e h=>hw e (List.mem_cons_of_mem _ h)) hj (by simpa using h)
theorem dC {α:Type}(f:α->List PV):∀ (l:List α) (i:Nat) (h:i<l.length),Bb (l.map f) i=f l[i]
 |[],_,h=>by cases h
 |_::_,0,_=>rfl
 |_::l,i+1,h=>dC f l i (by simpa using h)
theorem Qa{σ:Ab}:∀ (ty:Ty) {cs:List V},ty.good=true->Sh σ ty cs->∃ x:DL ty.cts,DL.wf ty.cts x /\
 (∀ i,RC σ (ωro σ) .fz (Aa (DL.enc ty.cts x) i) (get cs i))/\∀ i hd p,RC σ (ωro σ) (.at hd p) (Aa (DL.encF ty.cts x) i) (get cs i)
 | .int k,cs,_,⟨n,h,hw⟩=>by
   subst h;exact⟨(n,()),⟨hw,trivial⟩,λ i=>by cases i<;>first|exact .v _ _ rfl|exact .undef _ _,λ i hd p=>by cases i<;>first|exact .v _ _ rfl|exact .undef _ _⟩
 | .bool,cs,_,⟨b,h⟩=>by
   subst h;exact⟨(b,()),⟨trivial,trivial⟩,λ i=>by cases i<;>first|exact .v _ _ rfl|exact .undef _ _,λ i hd p=>by cases i<;>first|exact .v _ _ rfl|exact .undef _ _⟩
 | .str,cs,_,⟨s,h,hl⟩=>by
   subst h;exact⟨(s,()),⟨hl,trivial⟩,λ i=>by cases i<;>first|exact .v _ _ rfl|exact .undef _ _,λ i hd p=>by cases i<;>first|exact .v _ _ rfl|exact .undef _ _⟩
 | .unit,cs,_,h=>by
   have h:cs=[]:=h;subst h;exact⟨(),trivial,λ i=>.undef _ _,λ i hd p=>.undef _ _⟩
 | .pair a b,cs,hg,⟨xs,ys,h,h1,h2⟩=>by
   simp only[Ty.good,Ai] at hg;obtain⟨x,x1,x2,x3⟩:=Qa a hg.1 h1;obtain⟨y,y1,y2,y3⟩:=Qa b hg.2 h2;have hl:=h1.len;subst h;refine⟨DL.app _ _ x y,DL.app_wf _ _ x y x1 y1,λ i=>?_,λ i hd p=>?_⟩
   . simp only[Ty.cts];rw[DL.app_enc];by_cases hi:i<a.w
     . rw[SO _ _ _ (by rw[DL.len,JJ];exact hi),VY _ _ _ (by rw[hl];exact hi)];exact x2 i
     . obtain⟨j,rfl⟩:=Nat.exists_eq_add_of_le (Nat.le_of_not_lt hi);have e1:=SL (DL.enc a.cts x) (DL.enc b.cts y) j;have e2:=VT xs ys j;rw[DL.len,JJ] at e1;rw[hl] at e2;rw[e1,e2];exact y2 j
   . simp only[Ty.cts];rw[DL.app_encF];by_cases hi:i<a.w
     . rw[SO _ _ _ (by rw[DL.lenF,JJ];exact hi),VY _ _ _ (by rw[hl];exact hi)];exact x3 i hd p
     . obtain⟨j,rfl⟩:=Nat.exists_eq_add_of_le (Nat.le_of_not_lt hi);have e1:=SL (DL.encF a.cts x) (DL.encF b.cts y) j;have e2:=VT xs ys j;rw[DL.lenF,JJ] at e1;rw[hl] at e2;rw[e1,e2];exact y3 j hd p
 | .sl t,cs,hg,h=>by
   simp only[Ty.good,Ai] at hg;have hw0:0<t.w:=CR hg.1
   have hne:t.cts≠[]:=by intro e;have:=JJ t;rw[e] at this;simp only[Bp] at this;omega
   rcases h with h|⟨l,n,bs,h,hb,hbl,hn,he⟩
   . subst h;refine⟨(([]:List (F7 t.cts).D),()),⟨⟨FW _,λ x hx=>by cases hx⟩,trivial⟩,λ i=>?_,λ i hd p=>?_⟩
     . cases i<;>first|exact .nil _ _|exact .undef _ _
     . cases i<;>first|exact .nil _ _|exact .undef _ _
   . subst h
     have ex:∀ i,∃ x:DL t.cts,i<n->DL.wf t.cts x/\(∀ k,RC σ (ωro σ) .fz (Aa (DL.enc t.cts x) k) (get ((bs.drop (i*t.w)).take t.w) k)):=by
      intro i;by_cases hi:i<n
      . obtain⟨x,h1,h2,_⟩:=Qa t hg.2 (he i hi);exact⟨x,λ _=>⟨h1,h2⟩⟩
      . have h0:∀ l:List CT,Nonempty (DL l):=by
         intro l
         induction l with
         |nil=>exact⟨()⟩
         |cons a r ih=>obtain⟨y⟩:=ih;exact⟨(a.dflt,y)⟩
        obtain⟨y⟩:=h0 t.cts;exact⟨y,λ h=>absurd h hi⟩
     let f:Nat->DL t.cts:=λ i=>Classical.choose (ex i)
     have hf:∀ i,i<n->DL.wf t.cts (f i)/\∀ k,RC σ (ωro σ) .fz (Aa (DL.enc t.cts (f i)) k) (get ((bs.drop (i*t.w)).take t.w) k):=λ i hi=>Classical.choose_spec (ex i) hi
     let L:List (F7 t.cts).D:=(List.range n).map λ i=>DL.rt t.cts (f i)
     have hL:L.length=n:=by simp[L]
     have hLw:∀ e∈L.map (RT.enc (F7 t.cts)),e.length=t.w:=by
      intro e he;obtain⟨y,hy,rfl⟩:=List.mem_map.mp he;obtain⟨i,_,rfl⟩:=List.mem_map.mp hy;rw[DL.rt_enc _ _ hne,DL.len,JJ]
     have hcell:∀ k,k<L.length*t.w->RC σ (ωro σ) .fz (Aa (L.map (RT.enc (F7 t.cts))).flatten k) (get bs (0+k)):=by
      intro k hk
      have hdm:k / t.w*t.w+k % t.w=k:=by rw[JR];exact Mi k t.w
      have hmod:=GC k hw0
      have hdiv:k / t.w<n:=by rw[hL] at hk;exact(Qm hw0).2 hk
      have e1:=dc (L.map (RT.enc (F7 t.cts))) (k / t.w) (k % t.w) hLw hmod (by rw[Ba,hL];exact hdiv);rw[hdm] at e1;rw[e1,dC _ _ _ (by rw[hL];exact hdiv),Bv];have e2:=VU bs (k / t.w*t.w) t.w (k % t.w) hmod;rw[hdm] at e2
      have e3:L[k / t.w]'(by rw[hL];exact hdiv)=DL.rt t.cts (f (k / t.w)):=by simp[L]
      rw[e3,DL.rt_enc _ _ hne,<- e2];exact(hf _ hdiv).2 _
     have hwf:∀ x∈L,RT.wf (F7 t.cts) x:=by
      intro x hx;obtain⟨i,hi,rfl⟩:=List.mem_map.mp hx;exact DL.rt_wf _ _ hne (hf i (List.mem_range.mp hi)).1
     have hle:0+(L.map (RT.enc (F7 t.cts))).length*t.w<=bs.length:=by rw[Ba,hL,hbl];omega
     refine⟨(L,()),⟨⟨by rw[hL];exact hn,hwf⟩,trivial⟩,λ i=>?_,λ i hd p=>?_⟩
     . cases i with
       |succ i=>exact .undef _ _
       |zero=>exact .sl _ _ _ _ _ _ _ hb (by simp) (ωro_frz hb) (λ e=>by cases e) (by rw[Ba,hL]) hLw hle λ k hk=>hcell k (by rw[Ba] at hk;exact hk)
     . cases i with
       |succ i=>exact .undef _ _
       |zero=>exact .sl _ _ _ _ _ _ _ hb (by simp) (ωro_frz hb) (λ _ e=>by rcases e with e|⟨_,_,e⟩<;>cases e) (by rw[Ba,hL]) hLw hle λ k hk=>hcell k (by rw[Ba] at hk;exact hk)
structure ArgD (σ:Ab) (v:PV) (u:V):Prop where
 rc:∀ hd p c,RC σ (ωro σ) (.at hd p) (v.fcell c) (u.fcell c)
 sh:AX v u
 nx:∀ c i pb tp,(v.fcell c).q≠some (.bor (.x i) pb tp)
theorem Za8{v:V}(h:v.cell=true):(∀ us,v≠.agg us)/\∀ us,v≠.tup us:=by
 constructor<;>rintro us rfl<;>cases h
theorem YU:∀ (l:List CT) (x:DL l) (i:Nat) (a:Hd) (pb:List Nat) (tp:Bool),(Aa (DL.encF l x) i).q≠some (.bor a pb tp)
 |[],_,_,_,_,_=>by simp[DL.encF,Aa,PV.q]
 |c::r,x,0,a,pb,tp=>by cases c<;>simp[DL.encF,Aa,CT.dv,DV.enc,PV.q]
 |_::r,x,i+1,a,pb,tp=>YU r x.2 i a pb tp
theorem eT{σ:Ab}{a:Ty×Bool}{u:V}(hg:T1 a=true)(h:ArgOk σ a u):∃ x:(Lh a).D,(Lh a).wf x/\ArgD σ ((Lh a).dv x).enc u:=by
 obtain⟨ty,b⟩:=a
 cases b with
 | true=>
   obtain⟨cs,rfl,hs,hc⟩:=h;obtain⟨x,h1,_,h3⟩:=Qa ty hg hs;have hle:=hs.len;refine⟨DL.ag ty.cts x,DL.ag_wf _ _ h1,?_⟩
   have he:((Lh (ty,true)).dv (DL.ag ty.cts x)).enc= .agg (DL.encF ty.cts x):=by
    show PV.agg _=PV.agg _;rw[DL.ag_enc]
   rw[he];refine⟨λ hd p c=>?_,⟨cs,rfl,by rw[hle,DL.lenF,JJ]⟩,λ c i pb tp=>?_⟩
   . match c with
     |[]=>exact .undef _ _
     |[c]=>exact h3 c hd p
     |_::_::_=>exact .undef _ _
   . match c with
     |[]=>simp[PV.fcell,PV.q]
     |[c]=>exact YU _ _ _ _ _ _
     |_::_::_=>simp[PV.fcell,PV.q]
 | false =>
   obtain⟨hs,hc⟩:=h;simp only[T1,Ai,A6] at hg;obtain⟨x,h1,_,h3⟩:=Qa ty hg.1 hs
   have key:∀ (l:List CT) (x:DL l),l.length=1->DL.wf l x->(∀ i hd p,RC σ (ωro σ) (.at hd p) (Aa (DL.encF l x) i) (get [u] i)) ->
    ∃ y:(match l with|[c]=>HT.one .frz c|_=>HT.agg []).D,(match l with|[c]=>HT.one .frz c|_=>HT.agg []).wf y/\ArgD σ ((match l with|[c]=>HT.one .frz c|_=>HT.agg []).dv y).enc u:=by
    intro l x hl hwf h3
    match l,x,hl,hwf,h3 with
    | [c],x,_,hwf,h3=>
      have hsc:=Za8 hc
      have hnf:∀ p,p≠[0]->((CT.dv .frz c x.1).enc).fcell p= .fl .undef:=by
       intro p hp;cases c<;>(match p with|[]=>rfl|[0]=>exact absurd rfl hp|(_+1)::_=>rfl|0::_::_=>rfl)
      have hf0:((CT.dv .frz c x.1).enc).fcell [0]=(CT.dv .frz c x.1).enc:=by cases c<;>rfl
      have hu0:u.fcell [0]=u:=by cases u<;>first|rfl|exact absurd rfl (hsc.1 _)|exact absurd rfl (hsc.2 _)
      refine⟨x.1,hwf.1,⟨λ hd p q=>?_,?_,λ q i pb tp=>?_⟩⟩
      . by_cases hq:q=[0]
        . subst hq;show RC σ (ωro σ) (.at hd p) (((CT.dv .frz c x.1).enc).fcell [0]) (u.fcell [0]);rw[hf0,hu0];exact h3 0 hd p
        . show RC σ (ωro σ) (.at hd p) (((CT.dv .frz c x.1).enc).fcell q) (u.fcell q);rw[hnf q hq];exact .undef _ _
      . show AX ((CT.dv .frz c x.1).enc) u;cases c<;>exact hsc
      . show (((CT.dv .frz c x.1).enc).fcell q).q≠_;by_cases hq:q=[0]
        . subst hq;rw[hf0];exact YU [c] x 0 _ _ _
        . rw[hnf q hq];simp[PV.q]
   exact key ty.cts x hg.2 h1 h3
theorem Wx{σ:Ab}:∀ {tys:List (Ty×Bool)} {us:List V},tys.all T1=true->Oi σ tys us->∃ x:TuX (tys.map Lh),TuX.wf _ x/\us.length=tys.length /\
 ∀ t,ArgD σ (Aa (DV.encL (EG (tys.map Lh) x)) t) (get us t)
 |[],[],_,_=>⟨(),trivial,rfl,λ t=>⟨λ hd p c=>by
  have:(PV.fl V.undef).fcell c= .fl .undef:=by match c with|[]=>rfl|[0]=>rfl|(_+1)::_=>rfl|0::_::_=>rfl
  show RC σ (ωro σ) (.at hd p) ((PV.fl V.undef).fcell c) _
  rw[this];exact .undef _ _,trivial,λ c i pb tp=>by
  have:(PV.fl V.undef).fcell c= .fl .undef:=by match c with|[]=>rfl|[0]=>rfl|(_+1)::_=>rfl|0::_::_=>rfl
  show ((PV.fl V.undef).fcell c).q≠_
  rw[this];simp[PV.q]⟩⟩
 | [a],[u],hg,h=>by
   simp only[EY,UC,MD] at hg;obtain⟨x,h1,h2⟩:=eT hg h.1;obtain⟨_,_,_,h4⟩:=Wx (σ:=σ) (tys:=[]) (us:=[]) rfl trivial;refine⟨x,h1,rfl,λ t=>?_⟩
   cases t with
   |zero=>exact h2
   |succ t=>exact h4 t
 | a::b::r,u::us,hg,h=>by
   rw[EY,Ai] at hg;obtain⟨x,h1,h2⟩:=eT hg.1 h.1;obtain⟨y,h3,h4,h5⟩:=Wx (tys:=b::r) (us:=us) hg.2 h.2;refine⟨(x,y),⟨h1,h3⟩,by simp[h4],λ t=>?_⟩
   cases t with
   |zero=>exact h2
   |succ t=>exact h5 t
 |[_],_::_::_,_,h=>h.2.elim
 |[_],[],_,h=>h.elim
 |_::_::_,[],_,h=>h.elim
 |[],_::_,_,h=>h.elim
theorem Zce{σ:Ab}{as:List PV}{us:List V}(hl:as.length=us.length)(h:∀ t,ArgD σ (Aa as t) (get us t)):RS σ (ωro σ) (ωro σ) (λ _=>0) ⟨as,[],[]⟩ ⟨us,[],σ⟩ X0:=by
 have no:∀ l hd p,ωro σ l≠.own hd p:=by intro l hd p e;unfold ωro at e;split at e<;>cases e
 have nop:∀ l i,ωro σ l≠.ptr i:=by intro l i e;unfold ωro at e;split at e<;>cases e
 have hund:∀ c,(PV.fl V.undef).fcell c= .fl .undef:=by
  intro c;match c with|[]=>rfl|[0]=>rfl|(_+1)::_=>rfl|0::_::_=>rfl
 have cat:∀ (c:List Nat) (l:List V),(A8 [] l c).1= .fl .undef:=by
  intro c l;match c with|[]=>rfl|[_]=>rfl|_::_::_=>rfl
 refine⟨⟨λ hd p=>?_,λ l l' hd p e=>absurd e (no l hd p),λ l l' i e=>absurd e (nop l i),λ l e=>?_,λ l e=>?_⟩,λ t=>(h t).sh,λ i=>trivial,hl,rfl,λ i=>rfl,λ i c=>rfl,λ i c=>rfl,λ i hi=>(by cases hi),λ l i e=>absurd e (nop l i),λ l i p e=>absurd e (no l _ p),⟨Bt _,λ l _ _=>⟨rfl,rfl⟩,λ l hlt e=>(by rw[e];simp),λ l i e=>e⟩,λ hd p i pb tp=>?_⟩
 . cases hd with
   |s t=>exact(h t).rc _ _ _
   |b i=>show RC σ (ωro σ) _ (A8 [] (AR [] i) p).1 _;rw[cat];exact .undef _ _
   |h i=>show RC σ (ωro σ) _ (A8 [] _ p).1 _;rw[cat];exact .undef _ _
   |x i=>show RC σ (ωro σ) _ ((PV.fl V.undef).fcell p) _;rw[hund];exact .undef _ _
 . rcases e with⟨hd,p,e⟩|⟨i,e⟩
   . exact absurd e (no l hd p)
   . exact absurd e (nop l i)
 . unfold ωro at e;split at e
   . assumption
   . cases e
 . cases hd with
   |s t=>exact(h t).nx p i pb tp
   |b j=>show (A8 [] (AR [] j) p).1.q≠_;rw[cat];simp[PV.q]
   |h j=>show (A8 [] _ p).1.q≠_;rw[cat];simp[PV.q]
   |x j=>show ((PV.fl V.undef).fcell p).q≠_;rw[hund];simp[PV.q]
theorem ZbP {f:DFun} {tys:List (Ty×Bool)} {hs:List HT} {s:A7} (hsp:Mp s (N8 f.er)) (hhs:tys.map Lh=hs) (hg:tys.all T1=true) (ho:AllD f.body.obs)
 (hst:OJ f hs (.one (.one .own .bool))=true) (hc:∀ x,Ox f hs (.one (.one .own .bool)) x=true)
 (law:∀ x:TuX hs,TuX.wf hs x->MO f hs (.one (.one .own .bool)) x/\MU f hs (.one (.one .own .bool)) x=true) (σ:Ab) (us:List V) (hro:D7 σ) (ha:Oi σ tys us):s us σ λ r _=>r= .bool true:=by
 subst hhs
 obtain⟨x,h1,h2,h3⟩:=Wx hg ha
 obtain⟨l1,l2⟩:=law x h1
 have hlen:(DV.encL (EG (tys.map Lh) x)).length=us.length:=by rw[Fg,TE,Ba,h2]
 refine hsp σ (ωro σ) (λ _=>0) _ us [] (λ r _=>r= .fl (.bool true)) _ (Zce hlen h3) (λ l hd p e=>?_) ?_ λ u h' r H' ω' ρ' hQ R' _=>?_
 . exfalso;unfold ωro at e;split at e<;>cases e
 . refine ez ho hst x (hc x) l1 λ H=>?_
   rw[l2];rfl
 . subst hQ
   have r:=R'.core.rc (.x 0) [0];have hs:=R'.shx 0;have r:RC h' ω' (.at (.x 0) [0]) (.fl (.bool true)) (u.fcell [0]):=r
   have hu:u.fcell [0]=u:=by
    have hs:AX (.fl (.bool true)) u:=hs
    cases u<;>first|rfl|exact absurd rfl (hs.1 _)|exact absurd rfl (hs.2 _)
   rw[hu] at r;cases r;rfl
theorem Zcf(x:V)(r:List V):get (x::r) 0=x:=id rfl
theorem Zcj(x:V)(r:List V)(n:Nat):get (x::r) (n+1)=get r n:=id rfl
theorem Zc7(s:List V)(n:Nat):(Opnd.t n).ev s=get s n:=id rfl
theorem Zc8(s:List V)(v:V):(Opnd.c v).ev s=v:=id rfl
def rk(pu:Bool)(res:List ARes)(h0:Ab)(Q:V->Ab->Prop):B6:=UX ⟨0,0,0,pu,res,.skip⟩ h0 Q
theorem HR{np ns nb:Nat}{pu:Bool}{res:List ARes}{body:ACode}{args:List V}{h:Ab}{Q:V->Ab->Prop}(hl:args.length=np)(hb:BB body (rk pu res h Q) ⟨args++DY (ns-np),F8 nb,h⟩) :
 E3 ⟨np,ns,nb,pu,res,body⟩ args h Q:=⟨hl,hb⟩
theorem yy(k:B6)(st:St):BB .skip k st=k .normal st:=rfl
theorem wg(o:List AOper)(k:B6)(st:St):BB (.region o) k st=Bw o (k .normal) st:=rfl
theorem Zaw(a b:ACode)(k:B6)(st:St):BB (.seq a b) k st=BB a (E6 (BB b k) k) st:=rfl
theorem xY(i:Nat)(a:ACode)(k:B6)(st:St):BB (.block i a) k st=BB a (Ht i k) st:=rfl
theorem yO(i:Nat)(k:B6)(st:St):BB (.exit i) k st=k (.exit i) st:=rfl
theorem ZaD(k:B6)(st:St):BB .ret k st=k .ret st:=rfl
theorem zq{c:Opnd}{a b:ACode}{k:B6}{st:St}(h:c.ev st.sl= .bool true):BB (.cond c a b) k st=BB a k st:=by simp only[BB,h,A9]
theorem xW{c:Opnd}{a b:ACode}{k:B6}{st:St}(h:c.ev st.sl= .bool false):BB (.cond c a b) k st=BB b k st:=by simp only[BB,h];rfl
theorem uO(n:St->Prop)(k:B6)(st:St):E6 n k .normal st=n st:=rfl
theorem zC(n:St->Prop)(k:B6)(st:St):E6 n k .ret st=k .ret st:=rfl
theorem wB(n:St->Prop)(k:B6)(i:Nat)(st:St):E6 n k (.exit i) st=k (.exit i) st:=rfl
theorem sF(i:Nat)(k:B6)(st:St):Ht i k .normal st=k .normal st:=rfl
theorem vm(i:Nat)(k:B6)(st:St):Ht i k .ret st=k .ret st:=rfl
theorem uF(i j:Nat)(k:B6)(st:St):Ht i k (.exit j) st=if j=i then k .normal st else k (.exit j) st:=rfl
theorem yM(n:St->Prop)(k:B6):E6 n k .normal=n:=rfl
theorem vL(i:Nat)(k:B6):Ht i k .normal=k .normal:=rfl
theorem zw(k:St->Prop)(st:St):Bw [] k st=k st:=rfl
theorem ze{i:Nat}{d:Option Nat}{o:AOp}{a:List Nat}{r:List AOper}{k:St->Prop}{st:St}:Bw (⟨i,d,o,none,a⟩::r) k st=AE o d (Bw r k) st:=rfl
theorem ZaH{i:Nat}{d:Option Nat}{o:AOp}{g:Nat}{w:Bool}{a:List Nat}{r:List AOper}{k:St->Prop}{st:St}(h:get st.sl g= .bool w):Bw (⟨i,d,o,some (g,w),a⟩::r) k st=AE o d (Bw r k) st:=by
 simp only[Bw,B3,h,A9]
theorem eC{i:Nat}{d:Option Nat}{o:AOp}{g:Nat}{w b:Bool}{a:List Nat}{r:List AOper}{k:St->Prop}{st:St}(h:get st.sl g= .bool b)(hn:b≠w):Bw (⟨i,d,o,some (g,w),a⟩::r) k st=Bw r k (st.put d (.tup [])):=by
 simp only[Bw,B3,h,Af hn]
theorem w8{i:Nat}{d:Option Nat}{o:AOp}{g:Nat}{a:List Nat}{r:List AOper}{k:St->Prop}{st:St}(h:get st.sl g= .bool false):Bw (⟨i,d,o,some (g,true),a⟩::r) k st=Bw r k (st.put d (.tup [])):=eC h (by decide)
theorem xT{i:Nat}{d:Option Nat}{o:AOp}{g:Nat}{a:List Nat}{r:List AOper}{k:St->Prop}{st:St}(h:get st.sl g= .bool true):Bw (⟨i,d,o,some (g,false),a⟩::r) k st=Bw r k (st.put d (.tup [])):=eC h (by decide)
theorem zy{i:Nat}{d:Option Nat}{o:AOp}{g:Nat}{w:Bool}{a:List Nat}{r:List AOper}{k:St->Prop}{st:St}(h:get st.sl g= .tup []):Bw (⟨i,d,o,some (g,w),a⟩::r) k st=Bw r k (st.put d (.tup [])):=by
 simp only[Bw,B3,h]
theorem xt{i:Nat}{d:Option Nat}{o:AOp}{g:Nat}{w:Bool}{a:List Nat}{r:List AOper}{k:St->Prop}{st:St}{b:Bool}(_h:get st.sl g= .bool b)(h1:b=true->Bw (⟨i,d,o,some (g,w),a⟩::r) k st)(h2:b=false->Bw (⟨i,d,o,some (g,w),a⟩::r) k st) :
 Bw (⟨i,d,o,some (g,w),a⟩::r) k st:=by
 cases b
 . exact h2 rfl
 . exact h1 rfl
theorem zF{c:Opnd}{x y:ACode}{k:B6}{st:St}{b:Bool}(_h:c.ev st.sl= .bool b)(h1:b=true->BB (.cond c x y) k st)(h2:b=false->BB (.cond c x y) k st):BB (.cond c x y) k st:=by
 cases b
 . exact h2 rfl
 . exact h1 rfl
theorem Zbu(pu:Bool)(res:List ARes)(h0:Ab)(Q:V->Ab->Prop)(st:St):rk pu res h0 Q .ret st=(match Ep st res with
 |some v=>if pu then v.flat2=true/\st.hp.take h0.length=h0/\Q v h0 else Q v st.hp
 |none=>False):=rfl
theorem w9(pu:Bool)(res:List ARes)(h0:Ab)(Q:V->Ab->Prop)(st:St):rk pu res h0 Q .normal st=(match Ep st res with
 |some v=>if pu then v.flat2=true/\st.hp.take h0.length=h0/\Q v h0 else Q v st.hp
 |none=>False):=rfl
def Lm{α:Type}(_:α):Type:=Unit
def Dk{α:Type}(a:α):Lm a:=()
def oV(o:Option V)(f:V->Prop)(_:Lm f):Prop:=match o with
 |some v=>f v
 |none=>False
theorem Zad(v:V)(f:V->Prop)(t:Lm f):oV (some v) f t=f v:=rfl
theorem ZaE(f:V->Prop)(t:Lm f):oV none f t=False:=rfl
def oS(o:Option (V×List (List V)×Ab))(s:List V)(d:Option Nat)(k:St->Prop)(_:Lm k):Prop:=match o with
 |some (v,bx,hp)=>k (St.put ⟨s,bx,hp⟩ d v)
 |none=>False
theorem Zax(v:V)(bx:List (List V))(hp:Ab)(s:List V)(d:Option Nat)(k:St->Prop)(t:Lm k):oS (some (v,bx,hp)) s d k t=k (St.put ⟨s,bx,hp⟩ d v):=rfl
@[congr] theorem Zdl {c:ACode} {k:B6} {st st':St} (h:st=st'):BB c k st=BB c k st':=by rw[h]
@[congr] theorem Zdh {o:List AOper} {k:St->Prop} {st st':St} (h:st=st'):Bw o k st=Bw o k st':=by rw[h]
@[congr] theorem Zdk {o:AOp} {d:Option Nat} {k:St->Prop} {st st':St} (h:st=st'):AE o d k st=AE o d k st':=by rw[h]
@[congr] theorem Zdj {n:St->Prop} {k:B6} {e e':AExit} {st st':St} (he:e=e') (h:st=st'):E6 n k e st=E6 n k e' st':=by rw[he,h]
@[congr] theorem Zde {i:Nat} {k:B6} {e e':AExit} {st st':St} (he:e=e') (h:st=st'):Ht i k e st=Ht i k e' st':=by rw[he,h]
@[congr] theorem Zdm {pu:Bool} {res:List ARes} {h0:Ab} {Q:V->Ab->Prop} {e e':AExit} {st st':St} (he:e=e') (h:st=st'):rk pu res h0 Q e st=rk pu res h0 Q e' st':=by rw[he,h]
def gQ(k:IntKind):V->Option V
 |.int _ n=>some (.int k (k.wrap n))
 |_=>none
def W2(off:Nat):V->Option V
 |.box i o=>some (.box i (o+off))
 |.ptr l o=>some (.ptr l (o+off))
 |_=>none
def fe(off:Nat)(n:Option Nat):V->Option V
 |.agg cs=>if off+n.getD 1<=cs.length then Ci n ((cs.drop off).take (n.getD 1)) else none
 |_=>none
def dN(w:Nat):V->V->Option V
 |.slice l o n,.int _ j=>if 0<=j/\j<n then some (.ptr l (o+j.toNat*w)) else none
 |_,_=>none
def MB:V->Option V
 |.nils=>some (.int .i64 0)
 |.slice _ _ n=>some (.int .i64 n)
 |_=>none
def PD(i:Nat):V->Option V
 |.tup vs=>vs[i]?
 |_=>none
def fQ(bx:List (List V))(i:Nat)(n:Option Nat):V->Option V
 |.box j o=>if i=j/\o+n.getD 1<=(AR bx i).length then Ci n (((AR bx i).drop o).take (n.getD 1)) else none
 |_=>none
def JK(hp:Ab)(n:Option Nat):V->Option V
 |.ptr l o=>(rd hp l o (n.getD 1)).bind λ cs=>Ci n cs
 |_=>none
def Xv(zs:List V)(cs:Option (List V)):Option V:=if zs.all V.cell then cs.bind λ cs=>some (.agg cs) else none
def Xj(bx:List (List V))(hp:Ab)(i n:Nat)(a x:V):Option (V×List (List V)×Ab):=match a with
 |.box j o=>if i=j/\i<bx.length/\x.cells.length=n/\o+n<=(AR bx i).length/\x.cells.all V.cell then some (.undef,Cr bx i (splice (AR bx i) o x.cells),hp) else none
 |_=>none
def DJ(bx:List (List V))(hp:Ab)(n:Nat)(a x:V):Option (V×List (List V)×Ab):=match a with
 |.ptr l o=>if x.cells.length=n/\x.cells.all V.cell then (wr hp l o x.cells).bind λ h=>some (.undef,bx,h) else none
 |_=>none
def Td(bx:List (List V))(hp:Ab)(w n:Nat)(zs:List V)(cs:Option (List V)):Option (V×List (List V)×Ab):=
 if n=0 then some (.nils,bx,hp)
 else if zs.all V.cell/\zs.length=n*w/\0<w then cs.bind λ cs=>some (.slice hp.length 0 n,bx,hp++[⟨.own,w,cs⟩])
 else none
def Yo(bx:List (List V))(hp:Ab)(i n:Nat)(x:V):Option (V×List (List V)×Ab):=
 if i<bx.length/\x.cells.length=n/\x.cells.all V.cell then some (.box i 0,Cr bx i x.cells,hp) else none
def WT(bx:List (List V))(hp:Ab)(i:Nat)(zs:List V):Option (V×List (List V)×Ab):=
 if i<bx.length/\zs.all V.cell then some (.box i 0,Cr bx i zs,hp) else none
def QC(bx:List (List V))(hp:Ab)(w:Nat)(x y:V):Option (V×List (List V)×Ab):=
 if 0<w then (app hp w x y).bind fun(v,h)=>some (v,bx,h) else none
def iy(f:A7)(args:List V)(d:Option Nat)(k:St->Prop)(st:St)(_:Lm k):Prop:=f args st.hp λ r h=>k (St.put { st with hp:=h } d r)
theorem WW{o:Option V}{k:St->Prop}{st:St}{d:Option Nat} :
 (match o.bind (λ v=>(some (v,st.bx,st.hp):Option (V×List (List V)×Ab))) with
 |some (v,bx,hp)=>k (St.put { sl:=st.sl,bx,hp } d v)
 |none=>False)=oV o (λ v=>k (st.put d v)) (Dk _):=by
 cases o<;>rfl
theorem PQ{o:Option (V×List (List V)×Ab)}{s:List V}{k:St->Prop}{d:Option Nat} :
 (match o with
 |some (v,bx,hp)=>k (St.put { sl:=s,bx,hp } d v)
 |none=>False)=oS o s d k (Dk k):=by
 cases o<;>rfl
theorem Zby{c:Prop}{_:Decidable c}{v:V}{k:St->Prop}{st:St}{d:Option Nat} :
 (match (if c then some (v,st.bx,st.hp) else (none:Option (V×List (List V)×Ab))) with
 |some (v,bx,hp)=>k (St.put { sl:=st.sl,bx,hp } d v)
 |none=>False)=oV (if c then some v else none) (λ v=>k (st.put d v)) (Dk _):=by
 by_cases h:c<;>simp only[h,A9,Bs]<;>rfl
theorem fU {c:Prop}{_:Decidable c}{o:Option V}{k:St->Prop}{st:St}{d:Option Nat} :
 (match (if c then o.bind (λ v=>(some (v,st.bx,st.hp):Option (V×List (List V)×Ab))) else none) with
 |some (v,bx,hp)=>k (St.put { sl:=st.sl,bx,hp } d v)
 |none=>False)=oV (if c then o else none) (λ v=>k (st.put d v)) (Dk _):=by
 by_cases h:c<;>simp only[h,A9,Bs]
 . cases o<;>rfl
 . rfl
theorem bind_some{α:Type}(o:Option α):(o.bind λ x=>some x)=o:=by cases o<;>rfl
section
variable {d:Option Nat} {k:St->Prop} {st:St}
theorem ZbO(x:Opnd):AE (.mv x) d k st=k (st.put d (x.ev st.sl)):=rfl
theorem th{c a b:Opnd}(h:c.ev st.sl= .bool true):AE (.pick c a b) d k st=k (st.put d (a.ev st.sl)):=by simp only[AE,Ad,h];rfl
theorem sj{c a b:Opnd}(h:c.ev st.sl= .bool false):AE (.pick c a b) d k st=k (st.put d (b.ev st.sl)):=by simp only[AE,Ad,h];rfl
theorem sI{c a b:Opnd}{t:Bool}(_h:c.ev st.sl= .bool t)(h1:t=true->AE (.pick c a b) d k st)(h2:t=false->AE (.pick c a b) d k st):AE (.pick c a b) d k st:=by
 cases t
 . exact h2 rfl
 . exact h1 rfl
theorem Zbj(op:BinOp)(x y:Opnd):AE (.bin op x y) d k st=oV (Ca op (x.ev st.sl) (y.ev st.sl)) (λ v=>k (st.put d v)) (Dk _):=WW
theorem ZbM(op:UnOp)(x:Opnd):AE (.un op x) d k st=oV (Hy op (x.ev st.sl)) (λ v=>k (st.put d v)) (Dk _):=WW
theorem yC(q:IntKind)(x:Opnd):AE (.conv q x) d k st=oV (gQ q (x.ev st.sl)) (λ v=>k (st.put d v)) (Dk _):=by simp only[AE,Ad];cases x.ev st.sl<;>rfl
theorem vw(off:Nat)(x:Opnd):AE (.fieldA off x) d k st=oV (W2 off (x.ev st.sl)) (λ v=>k (st.put d v)) (Dk _):=by simp only[AE,Ad];cases x.ev st.sl<;>rfl
theorem wD(off:Nat)(n:Option Nat)(x:Opnd):AE (.field off n x) d k st=oV (fe off n (x.ev st.sl)) (λ v=>k (st.put d v)) (Dk _):=by
 simp only[AE,Ad]
 cases x.ev st.sl<;>try rfl
 exact fU
theorem vO(w:Nat)(x i:Opnd):AE (.indexA w x i) d k st=oV (dN w (x.ev st.sl) (i.ev st.sl)) (λ v=>k (st.put d v)) (Dk _):=by
 simp only[AE,Ad]
 cases x.ev st.sl<;>try rfl
 cases i.ev st.sl<;>try rfl
 exact Zby
theorem Zaa(x:Opnd):AE (.len x) d k st=oV (MB (x.ev st.sl)) (λ v=>k (st.put d v)) (Dk _):=by simp only[AE,Ad];cases x.ev st.sl<;>rfl
theorem uC(x:Opnd)(i:Nat):AE (.extract x i) d k st=oV (PD i (x.ev st.sl)) (λ v=>k (st.put d v)) (Dk _):=by
 simp only[AE,Ad]
 cases x.ev st.sl<;>try rfl
 rename_i vs;simp only[PD];cases vs[i]?<;>rfl
theorem xP(i:Nat)(n:Option Nat)(a:Opnd):AE (.loadB i n a) d k st=oV (fQ st.bx i n (a.ev st.sl)) (λ v=>k (st.put d v)) (Dk _):=by
 simp only[AE,Ad]
 cases a.ev st.sl<;>try rfl
 exact fU
theorem xo(n:Option Nat)(a:Opnd):AE (.loadH n a) d k st=oV (JK st.hp n (a.ev st.sl)) (λ v=>k (st.put d v)) (Dk _):=by
 simp only[AE,Ad]
 cases a.ev st.sl<;>try rfl
 simp only[JK];rename_i l o
 cases rd st.hp l o (n.getD 1)<;>try rfl
 exact WW
theorem wK(zs:List V)(ps:List (Nat×Nat×Opnd)):AE (.build zs ps) d k st=oV (Xv zs (Dj st.sl zs ps)) (λ v=>k (st.put d v)) (Dk _):=by
 simp only[AE,Ad,Xv];by_cases h:zs.all V.cell=true
 . simp only[h,A9];cases Dj st.sl zs ps<;>rfl
 . simp only[h];rfl
theorem vi(i n:Nat)(a x:Opnd):AE (.storeB i n a x) d k st=oS (Xj st.bx st.hp i n (a.ev st.sl) (x.ev st.sl)) st.sl d k (Dk k):=by
 simp only[AE,Ad,Xj]
 cases a.ev st.sl<;>first|rfl|exact PQ
theorem vr(n:Nat)(a x:Opnd):AE (.storeH n a x) d k st=oS (DJ st.bx st.hp n (a.ev st.sl) (x.ev st.sl)) st.sl d k (Dk k):=by
 simp only[AE,Ad,DJ]
 cases a.ev st.sl<;>first|rfl|exact PQ
theorem tR(w n:Nat)(zs:List V)(ps:List (Nat×Nat×Opnd)):AE (.litSlice w n zs ps) d k st=oS (Td st.bx st.hp w n zs (Dj st.sl zs ps)) st.sl d k (Dk k):=by
 simp only[AE,Ad,Td];by_cases h:n=0<;>simp only[h,A9,Bs]
 . rfl
 . by_cases h2:zs.all V.cell=true/\zs.length=n*w/\0<w<;>simp only[h2,A9,Bs,and_self]
   . cases Dj st.sl zs ps<;>rfl
   . rfl
theorem y8(i n:Nat)(x:Opnd):AE (.boxB i n x) d k st=oS (Yo st.bx st.hp i n (x.ev st.sl)) (clearBox i st.sl) d k (Dk k):=by
 simp only[AE,Ad,Yo];exact PQ
theorem wo(i:Nat)(zs:List V):AE (.allocB i zs) d k st=oS (WT st.bx st.hp i zs) (clearBox i st.sl) d k (Dk k):=by
 simp only[AE,Ad,WT];exact PQ
theorem Zbh(w:Nat)(x y:Opnd):AE (.app w x y) d k st=oS (QC st.bx st.hp w (x.ev st.sl) (y.ev st.sl)) st.sl d k (Dk k):=by
 simp only[AE,Ad,QC];exact PQ
theorem zp(f:A7)(args:List Opnd):AE (.call f args) d k st=((args.map (·.ev st.sl)).all V.ok1=true/\iy f (args.map (·.ev st.sl)) d k st (Dk k)):=rfl
end
section
variable {k:IntKind}
theorem wC(q:IntKind)(n:Int):gQ q (.int k n)=some (.int q (q.wrap n)):=rfl
theorem tn(off i o:Nat):W2 off (.box i o)=some (.box i (o+off)):=rfl
theorem tH(off l o:Nat):W2 off (.ptr l o)=some (.ptr l (o+off)):=rfl
theorem vj(off:Nat)(n:Option Nat)(cs:List V):fe off n (.agg cs)=if off+n.getD 1<=cs.length then Ci n ((cs.drop off).take (n.getD 1)) else none:=rfl
theorem wj:MB .nils=some (.int .i64 0):=rfl
theorem zm(l o n:Nat):MB (.slice l o n)=some (.int .i64 n):=rfl
theorem tZ(v:V)(vs:List V):PD 0 (.tup (v::vs))=some v:=rfl
theorem uI(i:Nat)(v:V)(vs:List V):PD (i+1) (.tup (v::vs))=PD i (.tup vs):=rfl
theorem vY(bx:List (List V))(i:Nat)(n:Option Nat)(j o:Nat):fQ bx i n (.box j o)=if i=j/\o+n.getD 1<=(AR bx i).length then Ci n (((AR bx i).drop o).take (n.getD 1)) else none:=rfl
theorem uP(bx:List (List V))(hp:Ab)(i n j o:Nat)(x:V):Xj bx hp i n (.box j o) x=if i=j/\i<bx.length/\x.cells.length=n/\o+n<=(AR bx i).length/\x.cells.all V.cell then some (.undef,Cr bx i (splice (AR bx i) o x.cells),hp) else none:=rfl
theorem xh(a b:Int):Ca .add (.int k a) (.int k b)=some (.int k (k.wrap (a+b))):=by simp[Ca,DA]
theorem xE(a b:Int):Ca .sub (.int k a) (.int k b)=some (.int k (k.wrap (a-b))):=by simp[Ca,DA]
theorem wv(a b:Int):Ca .mul (.int k a) (.int k b)=some (.int k (k.wrap (a*b))):=by simp[Ca,DA]
theorem xU(a b:Int):Ca .rem (.int k a) (.int k b)=if b=0 then none else some (.int k (a.tmod b)):=by simp[Ca,DA]
theorem yi(a b:Int):Ca .eql (.int k a) (.int k b)=some (.bool (a == b)):=by simp[Ca,DA]
theorem xZ(a b:Int):Ca .neq (.int k a) (.int k b)=some (.bool (a != b)):=by simp[Ca,DA]
theorem xf(a b:Int):Ca .lss (.int k a) (.int k b)=some (.bool (decide (a<b))):=by simp[Ca,DA]
theorem xR(a b:Int):Ca .leq (.int k a) (.int k b)=some (.bool (decide (a<=b))):=by simp[Ca,DA]
theorem ym(a b:Int):Ca .gtr (.int k a) (.int k b)=some (.bool (decide (a > b))):=by simp[Ca,DA]
theorem xm(a b:Int):Ca .geq (.int k a) (.int k b)=some (.bool (decide (a>=b))):=by simp[Ca,DA]
theorem yS(b:Bool):Hy .not (.bool b)=some (.bool (!b)):=rfl
theorem za(n:Int):Hy .neg (.int k n)=some (.int k (k.wrap (0-n))):=rfl
theorem tx(d:Nat):DP d none=some d:=rfl
theorem wq(d:Nat)(i:Int):DP d (some (.int k i))=if 0<=i then some i.toNat else none:=rfl
theorem vS(n:Nat)(cs:List V):Ci (some n) cs=some (.agg cs):=rfl
theorem vG(v:V):Ci none [v]=some v:=rfl
end
theorem V.cell_undef:V.cell V.undef=false:=rfl
theorem V.cells_undef:V.cells V.undef=[V.undef]:=rfl
theorem V.ok1_undef:V.ok1 V.undef=false:=rfl
theorem V.flat_undef:V.flat V.undef=false:=rfl
theorem V.flat1_undef:V.flat1 V.undef=false:=rfl
theorem V.flat2_undef:V.flat2 V.undef=false:=rfl
theorem V.isBox_undef(i:Nat):V.isBox i V.undef=false:=rfl
theorem V.cell_bool(b:Bool):V.cell (V.bool b)=true:=rfl
theorem V.cells_bool(b:Bool):V.cells (V.bool b)=[(V.bool b)]:=rfl
theorem V.ok1_bool(b:Bool):V.ok1 (V.bool b)=true:=rfl
theorem V.flat_bool(b:Bool):V.flat (V.bool b)=true:=rfl
theorem V.flat1_bool(b:Bool):V.flat1 (V.bool b)=true:=rfl
theorem V.flat2_bool(b:Bool):V.flat2 (V.bool b)=true:=rfl
theorem V.isBox_bool(i:Nat)(b:Bool):V.isBox i (V.bool b)=false:=rfl
theorem V.cell_int(k:IntKind)(n:Int):V.cell (V.int k n)=true:=rfl
theorem V.cells_int(k:IntKind)(n:Int):V.cells (V.int k n)=[(V.int k n)]:=rfl
theorem V.ok1_int(k:IntKind)(n:Int):V.ok1 (V.int k n)=true:=rfl
theorem V.flat_int(k:IntKind)(n:Int):V.flat (V.int k n)=true:=rfl
theorem V.flat1_int(k:IntKind)(n:Int):V.flat1 (V.int k n)=true:=rfl
theorem V.flat2_int(k:IntKind)(n:Int):V.flat2 (V.int k n)=true:=rfl
theorem V.isBox_int(i:Nat)(k:IntKind)(n:Int):V.isBox i (V.int k n)=false:=rfl
theorem V.cell_str(s:Ij):V.cell (V.str s)=true:=rfl
theorem V.cells_str(s:Ij):V.cells (V.str s)=[(V.str s)]:=rfl
theorem V.ok1_str(s:Ij):V.ok1 (V.str s)=true:=rfl
theorem V.flat_str(s:Ij):V.flat (V.str s)=true:=rfl
theorem V.flat1_str(s:Ij):V.flat1 (V.str s)=true:=rfl
theorem V.flat2_str(s:Ij):V.flat2 (V.str s)=true:=rfl
theorem V.isBox_str(i:Nat)(s:Ij):V.isBox i (V.str s)=false:=rfl
theorem V.cell_nils:V.cell V.nils=true:=rfl
theorem V.cells_nils:V.cells V.nils=[V.nils]:=rfl
theorem V.ok1_nils:V.ok1 V.nils=true:=rfl
theorem V.flat_nils:V.flat V.nils=true:=rfl
theorem V.flat1_nils:V.flat1 V.nils=true:=rfl
theorem V.flat2_nils:V.flat2 V.nils=true:=rfl
theorem V.isBox_nils(i:Nat):V.isBox i V.nils=false:=rfl
theorem V.cell_slice(l o n:Nat):V.cell (V.slice l o n)=true:=rfl
theorem V.cells_slice(l o n:Nat):V.cells (V.slice l o n)=[(V.slice l o n)]:=rfl
theorem V.ok1_slice(l o n:Nat):V.ok1 (V.slice l o n)=true:=rfl
theorem V.flat_slice(l o n:Nat):V.flat (V.slice l o n)=false:=rfl
theorem V.flat1_slice(l o n:Nat):V.flat1 (V.slice l o n)=false:=rfl
theorem V.flat2_slice(l o n:Nat):V.flat2 (V.slice l o n)=false:=rfl
theorem V.isBox_slice(i:Nat)(l o n:Nat):V.isBox i (V.slice l o n)=false:=rfl
theorem V.cell_box(j o:Nat):V.cell (V.box j o)=false:=rfl
theorem V.cells_box(j o:Nat):V.cells (V.box j o)=[(V.box j o)]:=rfl
theorem V.ok1_box(j o:Nat):V.ok1 (V.box j o)=false:=rfl
theorem V.flat_box(j o:Nat):V.flat (V.box j o)=false:=rfl
theorem V.flat1_box(j o:Nat):V.flat1 (V.box j o)=false:=rfl
theorem V.flat2_box(j o:Nat):V.flat2 (V.box j o)=false:=rfl
theorem V.isBox_box(i:Nat)(j o:Nat):V.isBox i (V.box j o)=(i == j):=rfl
theorem V.cell_ptr(l o:Nat):V.cell (V.ptr l o)=true:=rfl
theorem V.cells_ptr(l o:Nat):V.cells (V.ptr l o)=[(V.ptr l o)]:=rfl
theorem V.ok1_ptr(l o:Nat):V.ok1 (V.ptr l o)=true:=rfl
theorem V.flat_ptr(l o:Nat):V.flat (V.ptr l o)=false:=rfl
theorem V.flat1_ptr(l o:Nat):V.flat1 (V.ptr l o)=false:=rfl
theorem V.flat2_ptr(l o:Nat):V.flat2 (V.ptr l o)=false:=rfl
theorem V.isBox_ptr(i:Nat)(l o:Nat):V.isBox i (V.ptr l o)=false:=rfl
theorem V.cell_ifc(b:Bool):V.cell (V.ifc b)=true:=rfl
theorem V.cells_ifc(b:Bool):V.cells (V.ifc b)=[(V.ifc b)]:=rfl
theorem V.ok1_ifc(b:Bool):V.ok1 (V.ifc b)=true:=rfl
theorem V.flat_ifc(b:Bool):V.flat (V.ifc b)=true:=rfl
theorem V.flat1_ifc(b:Bool):V.flat1 (V.ifc b)=true:=rfl
theorem V.flat2_ifc(b:Bool):V.flat2 (V.ifc b)=true:=rfl
theorem V.isBox_ifc(i:Nat)(b:Bool):V.isBox i (V.ifc b)=false:=rfl
theorem V.cell_agg(cs:List V):V.cell (V.agg cs)=false:=rfl
theorem V.cells_agg(cs:List V):V.cells (V.agg cs)=cs:=rfl
theorem V.ok1_agg(cs:List V):V.ok1 (V.agg cs)=cs.all V.cell:=rfl
theorem V.flat_agg(cs:List V):V.flat (V.agg cs)=false:=rfl
theorem V.flat1_agg(cs:List V):V.flat1 (V.agg cs)=cs.all V.flat:=rfl
theorem V.flat2_agg(cs:List V):V.flat2 (V.agg cs)=cs.all V.flat:=rfl
theorem V.isBox_agg(i:Nat)(cs:List V):V.isBox i (V.agg cs)=false:=rfl
theorem V.cell_tup(cs:List V):V.cell (V.tup cs)=false:=rfl
theorem V.cells_tup(cs:List V):V.cells (V.tup cs)=[(V.tup cs)]:=rfl
theorem V.ok1_tup(cs:List V):V.ok1 (V.tup cs)=false:=rfl
theorem V.flat_tup(cs:List V):V.flat (V.tup cs)=false:=rfl
theorem V.flat1_tup(cs:List V):V.flat1 (V.tup cs)=false:=rfl
theorem V.flat2_tup(cs:List V):V.flat2 (V.tup cs)=cs.all V.flat1:=rfl
theorem V.isBox_tup(i:Nat)(cs:List V):V.isBox i (V.tup cs)=false:=rfl
theorem J9{f:A7}{args:List V}{d:Option Nat}{k:St->Prop}{st:St}{t:Lm k}(p:f args st.hp λ r h=>k (St.put ⟨st.sl,st.bx,h⟩ d r)):iy f args d k st t:=p
theorem da {body:ACode} {live:List Nat} {k:B6} (I:Nat->St->Prop)
 (hs:∀ (m:Nat) (st:St) (next:St->Prop),I m st->(∀ (m':Nat) (st':St),m'<m->I m' { st' with sl:=keep live 0 st'.sl }->next st')->BB body (E6 next k) st) :
 ∀ (fuel m:Nat) (st:St),m<fuel->I m { st with sl:=keep live 0 st.sl }->ML (BB body) live k fuel st
 |0,m,st,h,_=>absurd h (Mf m)
 |fuel+1,m,st,h,hI=>hs m _ _ hI λ m' st' hm hI'=>da I hs fuel m' st' (by omega) hI'
theorem ZaX {body:ACode} {live:List Nat} {k:B6} {st:St} (I:Nat->St->Prop) (m:Nat) (h0:I m { st with sl:=keep live 0 st.sl })
 (hs:∀ (m:Nat) (st:St) (next:St->Prop),I m st->(∀ (m':Nat) (st':St),m'<m->I m' { st' with sl:=keep live 0 st'.sl }->next st')->BB body (E6 next k) st) :
 BB (.loop live body) k st:=⟨m+1,da I hs (m+1) m st (Qq m) h0⟩
theorem KL {body:ACode} {live:List Nat} {k:B6} {st:St} (n:Nat) (I:Nat->St->Prop) (h0:I 0 { st with sl:=keep live 0 st.sl })
 (hs:∀ (i:Nat) (st:St) (next:St->Prop),i<=n->I i st->(∀ st':St,i<n->I (i+1) { st' with sl:=keep live 0 st'.sl }->next st')->BB body (E6 next k) st) :
 BB (.loop live body) k st:=by
 refine ZaX (λ m st=>∃ i,i<=n/\m=n-i/\I i st) n ⟨0,FW n,rfl,h0⟩ λ m st next hI hn=>?_
 obtain⟨i,hi,hm,hI⟩:=hI
 exact hs i st next hi hI λ st' hlt hI'=>hn (n-(i+1)) st' (by omega) ⟨i+1,by omega,rfl,hI'⟩
attribute [go_sem] B5 yy wg Zaw xY yO ZaD uO zC wB sF vm uF yM vL zw ze ZaH w8 xT eq_self zy zq xW ZbO th sj Zbj ZbM yC vw wD vO Zaa Zbh uC wo y8 wK tR xP xo vi vr zp Zad ZaE Zax wC tn tH vj wj zm tZ uI vY Xv uP Yo WT xh xE wv xU yi xZ xf xR ym xm yS za tx wq vS vG Zbu w9 Ep F4 Ek Zc7 Zc8 Zcf Zcj put AR Cr splice V.cell_undef V.cells_undef V.ok1_undef V.flat_undef V.flat1_undef V.flat2_undef V.isBox_undef V.cell_bool V.cells_bool V.ok1_bool V.flat_bool V.flat1_bool V.flat2_bool V.isBox_bool V.cell_int V.cells_int V.ok1_int V.flat_int V.flat1_int V.flat2_int V.isBox_int V.cell_str V.cells_str V.ok1_str V.flat_str V.flat1_str V.flat2_str V.isBox_str V.cell_nils V.cells_nils V.ok1_nils V.flat_nils V.flat1_nils V.flat2_nils V.isBox_nils V.cell_slice V.cells_slice V.ok1_slice V.flat_slice V.flat1_slice V.flat2_slice V.isBox_slice V.cell_box V.cells_box V.ok1_box V.flat_box V.flat1_box V.flat2_box V.isBox_box V.cell_ptr V.cells_ptr V.ok1_ptr V.flat_ptr V.flat1_ptr V.flat2_ptr V.isBox_ptr V.cell_ifc V.cells_ifc V.ok1_ifc V.flat_ifc V.flat1_ifc V.flat2_ifc V.isBox_ifc V.cell_agg V.cells_agg V.ok1_agg V.flat_agg V.flat1_agg V.flat2_agg V.isBox_agg V.cell_tup V.cells_tup V.ok1_tup V.flat_tup V.flat1_tup V.flat2_tup V.isBox_tup clearBox keep St.put AOp.clears DY F8 CP CA List.map EY UC MD Uq Bool.not_false JO Option.bind Option.getD_none HZ A9 Bs Hg not_false_eq_true L7 Bd Bool.true_eq_false Bi Bp List.take List.drop KN Gp Dj H4 decide_true decide_false Int.lt_irrefl Int.le_refl beq_self_eq_true Bv Ej Bt
section
variable {α:Type}
def AP(f:α->Int->α×Int):List α->Int->List α×Int
 |[],m=>([],m)
 |a::r,m=>((f a m).1::(AP f r (f a m).2).1,(AP f r (f a m).2).2)
def A4(f:α->Int->α×Int)(l:List α)(m:Int)(i:Nat):List α×Int:=((AP f (l.take i) m).1++l.drop i,(AP f (l.take i) m).2)
theorem FY(f:α->Int->α×Int):∀ (l:List α) (m:Int),(AP f l m).1.length=l.length
 |[],_=>rfl
 |a::r,m=>by simp only[AP,Bi,FY f r]
theorem bK(f:α->Int->α×Int):∀ (l k:List α) (m:Int),AP f (l++k) m=((AP f l m).1++(AP f k (AP f l m).2).1,(AP f k (AP f l m).2).2)
 |[],k,m=>rfl
 |a::r,k,m=>by simp only[CP,AP,bK f r k]
theorem Kv(f:α->Int->α×Int)(l:List α)(m:Int):A4 f l m 0=(l,m):=rfl
theorem Hb(f:α->Int->α×Int)(l:List α)(m:Int):A4 f l m l.length=AP f l m:=by simp[A4]
theorem Ey(f:α->Int->α×Int)(l:List α)(m:Int)(i:Nat):(A4 f l m i).1.length=l.length:=by
 simp only[A4,DR,FY,CJ,Mh];omega
theorem wG(f:α->Int->α×Int)(l:List α)(m:Int)(i:Nat)(d:α):(A4 f l m i).1.getD i d=l.getD i d:=by
 simp only[A4,CQ];rcases Br i l.length with h|h
 . rw[CF (by rw[FY,CJ];omega),FY,CJ,JP];congr 2;omega
 . rw[Bz (by simp[FY];omega),Bz h]
theorem Pz(f:α->Int->α×Int)(l:List α)(m:Int){i:Nat}(hi:i<l.length)(d:α) :
 A4 f l m (i+1)=((A4 f l m i).1.set i (f (l.getD i d) (A4 f l m i).2).1,(f (l.getD i d) (A4 f l m i).2).2):=by
 have h1:l.take (i+1)=l.take i++[l.getD i d]:=by
  rw[Ur,CQ,A3 hi];rfl
 simp only[A4,h1,bK,AP]
 refine Prod.ext ?_ rfl
 have h2:(AP f (l.take i) m).1.length=i:=by rw[FY,CJ];omega
 simp only
 rw[List.set_append_right _ _ (by omega),h2,UE,On hi,List.set_cons_zero,BP]
 rfl
end
def Zcm:IntKind->Int->Int
 |.i64,m=>m
 |k,m=>k.wrap m
mutual
def CT.mkI:(t:CT)->t.D->Int->t.D×Int
 |.int k,_,m=>(Zcm k m,IntKind.i64.wrap (m+1))
 |.bool,_,m=>((m.tmod 3 == 0:Bool),IntKind.i64.wrap (m+1))
 |.str,s,m=>(s,m)
 |.ifc,b,m=>(b,m)
 |.sl r,l,m=>AP (RT.mkI r) l m
 |.slf _,l,m=>(l,m)
def RT.mkI:(r:RT)->r.D->Int->r.D×Int
 |.one t,x,m=>CT.mkI t x m
 |.cons t r,x,m=>(((CT.mkI t x.1 m).1,(RT.mkI r x.2 (CT.mkI t x.1 m).2).1),(RT.mkI r x.2 (CT.mkI t x.1 m).2).2)
end
def CT.mkT:(t:CT)->t.D->Int->t.D×Int
 |.sl r,l,m=>AP (RT.mkI r) l m
 |_,x,m=>(x,m)
def RT.mkT:(r:RT)->r.D->Int->r.D×Int
 |.one t,x,m=>CT.mkT t x m
 |.cons t r,x,m=>(((CT.mkT t x.1 m).1,(RT.mkT r x.2 (CT.mkT t x.1 m).2).1),(RT.mkT r x.2 (CT.mkT t x.1 m).2).2)
mutual
def CT.wl:(t:CT)->t.D->Prop
 |.sl r,l=>l.length<=9223372036854775807/\∀ a:r.D,List.Mem a l->RT.wl r a
 |_,_=>True
def RT.wl:(r:RT)->r.D->Prop
 |.one t,x=>CT.wl t x
 |.cons t r,x=>CT.wl t x.1/\RT.wl r x.2
end
section
variable {h h':Ab} {ω:Nat->W} {hd:Hd} {p:List Nat}
abbrev Fo (ω:Nat->W) (hd:Hd) (p:List Nat):Nat->Prop:=λ l=>∃ q,ω l= .own hd (p++q)
abbrev MS (h:Ab) (ω:Nat->W) (hd:Hd) (p:List Nat) (r:RT) (l:List r.D) (u:V):Prop:=RM h ω hd p (.sl .own (l.map r.enc)) u
theorem MS.rc{r:RT}{l:List r.D}{u:V}(M:MS h ω hd p r l u){i:Nat}(hi:i<l.length):RC h ω (.inn hd p) (.sl .own (l.map r.enc)) u:=by
 rcases M with M|⟨e,_⟩
 . exact M
 . have:(l.map r.enc).length=0:=by rw[(PV.sl.inj e).2];rfl
   rw[Ba] at this;omega
theorem RM.back{es0 es:List (List PV)}{u:V}(h0:RC h ω (.inn hd p) (.sl .own es0) u)(hr:RM h' ω hd p (.sl .own es) u):RC h' ω (.inn hd p) (.sl .own es) u:=by
 rcases hr with r|⟨_,l,o,rfl⟩
 . exact r
 . cases h0 with
   |sl _ _ _ _ _ _ b h1 hk hc hne hn=>exact absurd (Dc hn.symm) (hne rfl (.inl rfl))
theorem MS.len{r:RT}{l:List r.D}{u:V}(M:MS h ω hd p r l u):MB u=some (.int .i64 (l.length:Int)):=by
 have e:=RM.ln M;rw[Ba] at e;rw[<- e];rcases M with M|⟨_,l',o,rfl⟩
 . clear e;generalize l.map r.enc=es at M;cases M<;>rfl
 . rfl
theorem MS.ok1{r:RT}{l:List r.D}{u:V}(M:MS h ω hd p r l u):u.ok1=true/\u.cell=true:=by
 rcases M with M|⟨_,l',o,rfl⟩
 . generalize l.map r.enc=es at M;cases M<;>exact⟨rfl,rfl⟩
 . exact⟨rfl,rfl⟩
theorem MS.slice{r:RT}{l:List r.D}{u:V}(M:MS h ω hd p r l u)(hl:0<l.length):∃ b,u= .slice b 0 l.length:=by
 have e:=RM.ln M;rw[Ba] at e;replace M:=M.rc hl;generalize l.map r.enc=es at M
 cases M with
 |nil=>rw[<- e] at hl;cases hl
 | sl _ _ _ b o n bk h1 hk hc hne hn hw hle hr=>
   obtain⟨_,rfl,_⟩:=hc;exact⟨b,by rw[<- e];rfl⟩
theorem MS.upd {r:RT} {l:List r.D} {b n:Nat} (M:MS h ω hd p r l (.slice b 0 n)) {i off:Nat} (hi:i<l.length) (hoff:off<r.w) {y:r.D} {c:PV} (hy:r.enc y=AS (r.enc (l.getD i r.dflt)) off [c])
 {bk:Blk} (h1:h[b]?=some bk) {cs':List V} (h1':h'[b]?=some { bk with cs:=cs' }) (hcl:cs'.length=bk.cs.length) {v:V} (hcs:∀ k,get cs' k=if k=i*r.w+off then v else get bk.cs k)
 (hO:∀ x,x≠b->(∀ q,ω x≠.own hd (p++(i*r.w+off)::q))->h'[x]?=h[x]?) (hc:RC h' ω (.inn hd (p++[i*r.w+off])) c v):MS h' ω hd p r (l.set i y) (.slice b 0 n):=by
 replace M:=M.rc hi
 refine .inl ?_
 rw[<- WO,hy,<- JL r l i hi]
 generalize he:l.map r.enc=es at M
 have hl':l.length=es.length:=by rw[<- he,Ba]
 have hwr:∀ e∈es,e.length=r.w:=by rw[<- he];intro e h;obtain⟨x,_,rfl⟩:=List.mem_map.1 h;exact JW r x
 have hi':i<es.length:=by rw[<- hl'];exact hi
 cases M with
 | sl _ _ _ _ o _ bk' h1b hk hch hne hn hw hle hr=>
   rw[h1] at h1b;cases h1b
   have hbw:bk.w=r.w:=by rw[<- hw _ (Eh (l:=es) hi')];exact hwr _ (Eh hi')
   have hel:=Ue hw hi';obtain⟨hb1,_,hb3⟩:=hch
   refine RC.sl _ .own _ b 0 n { bk with cs:=cs' } h1' hk ⟨hb1,rfl,hb3⟩ (λ _ _ h=>by have:=congrArg List.length h;rw[KH] at this;simp only[Bp] at this;omega) (by rw[KH];exact hn) (Yn hw (by rw[Gk];exact hel)) (by rw[KH];simp only[hcl];exact hle) λ k hk'=>?_
   simp only[KH] at hk';rw[di hw hi' (by rw[hbw];simp only[Bi,Bp];omega) k hk',Bv,hcs];simp only[Bi,Bp,hbw];by_cases hkk:k=i*r.w+off
   . subst hkk;rw[Ac ⟨by omega,by omega⟩,Ac rfl,UE];exact hc
   . rw[Af (by omega),Af hkk];have r0:=hr k hk';rw[Bv] at r0;refine r0.inn0 (f:=Ren.id) (T:=λ x=>x=b\/∃ q,ω x= .own hd (p++(i*r.w+off)::q)) ⟨λ x e=>⟨e,hO x (by rintro rfl;rw[hb1] at e;cases e) (λ q e'=>by rw[e] at e';cases e')⟩,λ x a q e hn=>⟨by rw[e];rfl,hO x (λ h=>hn (.inl h)) (λ q' e'=>hn (.inr ⟨q',e'⟩))⟩⟩ (λ x q e hT=>?_) (λ q=>rfl);rcases hT with rfl|⟨q',e'⟩
     . rw[hb1] at e;simp only[W.own.injEq] at e;have:=congrArg List.length e.2;simp at this
     . rw[e] at e';simp only[W.own.injEq,BP,CP,CA,List.append_cancel_left_eq,Hr] at e';exact hkk e'.2.1
theorem MS.store {r:RT} {l:List r.D} {b n:Nat} (M:MS h ω hd p r l (.slice b 0 n)) {i off:Nat} (hi:i<l.length) (hoff:off<r.w) {v:V} (hv:v.flat=true) (hvc:v.cells=[v]) {y:r.D} (hy:r.enc y=AS (r.enc (l.getD i r.dflt)) off [.fl v])
 (hinj:∀ l l' a q,ω l= .own a q->ω l'= .own a q->l=l') (bx:List (List V)):∃ h',DJ bx h 1 (.ptr b (i*r.w+off)) v=some (.undef,bx,h')/\Only (Fo ω hd p) h h'/\MS h' ω hd p r (l.set i y) (.slice b 0 n):=by
 have M0:=M.rc hi
 generalize he:l.map r.enc=es at M0
 have hl':l.length=es.length:=by rw[<- he,Ba]
 have hwr:∀ e∈es,e.length=r.w:=by rw[<- he];intro e h;obtain⟨x,_,rfl⟩:=List.mem_map.1 h;exact JW r x
 have hi':i<es.length:=by rw[<- hl'];exact hi
 cases M0 with
 | sl _ _ _ _ o _ bk h1 hk hch hne hn hw hle hr=>
   have hbw:bk.w=r.w:=by rw[<- hw _ (Eh (l:=es) hi')];exact hwr _ (Eh hi')
   obtain⟨hb1,_,hb3⟩:=hch
   have hlt:i*r.w+off<bk.cs.length:=by
    have:(i+1)*r.w<=es.length*r.w:=FZ _ hi';rw[Df,H6] at this;rw[hbw] at hle;omega
   have hb:b<h.length:=Bj h1
   have hset:∀ k,(h.set b { bk with cs:=splice bk.cs (i*r.w+off) [v] })[k]?=if k=b then some { bk with cs:=splice bk.cs (i*r.w+off) [v] } else h[k]?:=by
    intro k;rw[F0];by_cases hk:b=k
    . subst hk;simp[hb]
    . rw[Af hk,Af (λ h'=>hk h'.symm)]
   have hvcell:[v].all V.cell=true:=by
    cases v<;>first|rfl|(simp[V.flat] at hv)
   refine⟨h.set b { bk with cs:=splice bk.cs (i*r.w+off) [v] },?_,⟨by simp,λ x hx=>?_,λ x bx' hx=>?_⟩,M.upd hi hoff hy h1 (cs':=splice bk.cs (i*r.w+off) [v]) (v:=v) (by rw[hset,Ac rfl]) (FN _ _ _) (λ k=>?_) (λ x hx _=>by rw[hset,Af hx]) (.v _ _ hv)⟩
   . have hwr':wr h b (i*r.w+off) [v]=some (h.set b { bk with cs:=splice bk.cs (i*r.w+off) [v] }):=by
      rw[wr,h1];simp only;rw[Ac ⟨hb3,by simp only[Bi,Bp];omega⟩]
     simp only[DJ,hvc,hvcell,Bi,Bp,hwr'];rfl
   . rw[hset,Af];rintro rfl;exact hx ⟨[],by rw[hb1];simp⟩
   . by_cases hxb:x=b
     . subst hxb;rw[h1] at hx;cases hx;exact⟨{ bk with cs:=splice bk.cs (i*r.w+off) [v] },by rw[hset,Ac rfl],rfl,rfl,FN _ _ _⟩
     . exact⟨bx',by rw[hset,Af hxb];exact hx,rfl,rfl,rfl⟩
   . rw[S4 _ _ _ _ (by simp only[Bi,Bp];omega)];simp only[Bi,Bp];by_cases hkk:k=i*r.w+off
     . subst hkk;rw[Ac ⟨by omega,by omega⟩,Ac rfl,UE];rfl
     . rw[Af (by omega),Af hkk]
theorem MS.load{r:RT}{l:List r.D}{b n:Nat}(M:MS h ω hd p r l (.slice b 0 n)){i off:Nat}(hi:i<l.length)(hoff:off<r.w){r':RT}{l':List r'.D}(hx:Aa (r.enc (l.getD i r.dflt)) off= .sl .own (l'.map r'.enc)) :
 ∃ u,JK h none (.ptr b (i*r.w+off))=some u/\RC h ω (.inn hd (p++[i*r.w+off])) (.sl .own (l'.map r'.enc)) u/\∃ bk,h[b]?=some bk/\get bk.cs (i*r.w+off)=u:=by
 have M0:=M.rc hi
 rw[<- JL r l i hi] at hx
 generalize he:l.map r.enc=es at M0 hx
 have hl':l.length=es.length:=by rw[<- he,Ba]
 have hwr:∀ e∈es,e.length=r.w:=by rw[<- he];intro e h;obtain⟨x,_,rfl⟩:=List.mem_map.1 h;exact JW r x
 have hi':i<es.length:=by rw[<- hl'];exact hi
 cases M0 with
 | sl _ _ _ _ o _ bk h1 hk hch hne hn hw hle hr=>
   have hbw:bk.w=r.w:=by rw[<- hw _ (Eh (l:=es) hi')];exact hwr _ (Eh hi')
   have hm:(i+1)*r.w<=es.length*r.w:=FZ _ hi';rw[Df,H6] at hm
   have hlt:i*r.w+off<bk.cs.length:=by rw[hbw] at hle;omega
   have r0:=hr (i*r.w+off) (by rw[hbw];omega);rw[Bv] at r0;have hf:Aa es.flatten (i*r.w+off)=Aa (Bb es i) off:=JH (w:=r.w) (by rw[<- hbw];exact hw) i off hoff;rw[hf,hx] at r0;refine⟨get bk.cs (i*r.w+off),?_,r0,bk,h1,rfl⟩
   have e1:rd h b (i*r.w+off) 1=some ((bk.cs.drop (i*r.w+off)).take 1):=by
    rw[rd,h1];simp only;rw[Ac ⟨hk,by omega⟩]
   show (rd h b (i*r.w+off) 1).bind (Ci none)=_;rw[e1];rw[On hlt];simp only[Yv,List.take_zero,Hf,Ci,Co,A3 hlt];rfl
theorem MS.sub {r:RT} {l:List r.D} {b n:Nat} (M:MS h ω hd p r l (.slice b 0 n)) {i off:Nat} (hi:i<l.length) (hoff:off<r.w) {u:V} {bk:Blk} (h1:h[b]?=some bk) (hu:get bk.cs (i*r.w+off)=u)
 (hO:Only (Fo ω hd (p++[i*r.w+off])) h h') {r':RT} {l':List r'.D} {es0:List (List PV)} (hr0:RC h ω (.inn hd (p++[i*r.w+off])) (.sl .own es0) u) (hr:MS h' ω hd (p++[i*r.w+off]) r' l' u) {y:r.D} (hy:r.enc y=AS (r.enc (l.getD i r.dflt)) off [.sl .own (l'.map r'.enc)]) :
 Only (Fo ω hd p) h h'/\MS h' ω hd p r (l.set i y) (.slice b 0 n):=by
 have hb1:ω b= .own hd p:=by
  have M0:=M.rc hi;generalize l.map r.enc=es at M0
  cases M0 with
  |sl _ _ _ _ o _ bk h1 hk hch hne hn hw hle hr=>exact hch.1
 refine⟨hO.mono λ x ⟨q,e⟩=>⟨(i*r.w+off)::q,by rw[e];simp⟩,M.upd hi hoff hy h1 (cs':=bk.cs) (v:=u) ?_ rfl (λ k=>?_) (λ x _ hx=>hO.off x (fun⟨q,e⟩=>hx q (by rw[e];simp))) (RM.back hr0 hr)⟩
 . rw[hO.off b]
   . exact h1
   . rintro⟨q,e⟩;rw[hb1] at e;simp only[W.own.injEq] at e;have:=congrArg List.length e.2;simp at this
 . split
   . rename_i hk;rw[hk,hu]
   . rfl
theorem MS.frame{r:RT}{l:List r.D}{u:V}(M:MS h ω hd p r l u){i:Nat}(hi:i<l.length):MS h ω hd p r (l.set i (l.getD i r.dflt)) u:=by
 have:l.set i (l.getD i r.dflt)=l:=by
  rw[CQ,A3 hi];simp
 rw[this];exact M
theorem Wc{r:RT}{l:List r.D}{i:Nat}(hi:i<l.length)(x:r.D):(l.set i x).getD i r.dflt=x:=by
 rw[CQ,Yc (by simpa using hi)];rfl
theorem MS.st {r:RT} {l:List r.D} {b n i:Nat} {x:r.D} (M:MS h ω hd p r (l.set i x) (.slice b 0 n)) (hi:i<l.length) {off:Nat} (hoff:off<r.w) {v:V} (hv:v.flat=true) (hvc:v.cells=[v]) {y:r.D} (hy:r.enc y=AS (r.enc x) off [.fl v])
 (hinj:∀ l l' a q,ω l= .own a q->ω l'= .own a q->l=l') (bx:List (List V)):∃ h',DJ bx h 1 (.ptr b (i*r.w+off)) v=some (.undef,bx,h')/\Only (Fo ω hd p) h h'/\MS h' ω hd p r (l.set i y) (.slice b 0 n):=by
 obtain⟨h',e1,e2,e3⟩:=M.store (i:=i) (off:=off) (by simpa using hi) hoff hv hvc (y:=y) (by rw[Wc hi];exact hy) hinj bx
 rw[List.set_set] at e3
 exact⟨h',e1,e2,e3⟩
theorem MS.sb{r:RT}{l:List r.D}{b n i:Nat}{x:r.D}(M:MS h ω hd p r (l.set i x) (.slice b 0 n))(hi:i<l.length){off:Nat}(hoff:off<r.w){r':RT}{l':List r'.D}(hx:Aa (r.enc x) off= .sl .own (l'.map r'.enc)) :
 ∃ u,JK h none (.ptr b (i*r.w+off))=some u/\MS h ω hd (p++[i*r.w+off]) r' l' u /\
   ∀ (h':Ab) (l'':List r'.D) (y:r.D),Only (Fo ω hd (p++[i*r.w+off])) h h'->MS h' ω hd (p++[i*r.w+off]) r' l'' u->r.enc y=AS (r.enc x) off [.sl .own (l''.map r'.enc)]->Only (Fo ω hd p) h h'/\MS h' ω hd p r (l.set i y) (.slice b 0 n):=by
 obtain⟨u,e1,e2,bk,e3,e4⟩:=M.load (i:=i) (off:=off) (by simpa using hi) hoff (r':=r') (l':=l') (by rw[Wc hi];exact hx)
 refine⟨u,e1,.inl e2,λ h' l'' y hO hM hy=>?_⟩
 obtain⟨k1,k2⟩:=M.sub (i:=i) (off:=off) (by simpa using hi) hoff e3 e4 hO e2 hM (y:=y) (by rw[Wc hi];exact hy)
 rw[List.set_set] at k2
 exact⟨k1,k2⟩
theorem Mc{r:RT}{l:List r.D}(hw:CT.wl (.sl r) l){i:Nat}(hi:i<l.length):RT.wl r (l.getD i r.dflt):=by
 rw[CQ,A3 hi];exact hw.2 _ (Eh hi)
theorem RC.beside{m:Nat}{P:List Nat}{v:PV}{u:V}{S:Nat->Prop}(r:RC h ω (.inn hd (P++[m])) v u)(hO:Only S h h')(hS:∀ l,S l->∃ c q,c≠m/\ω l= .own hd (P++c::q)):RC h' ω (.inn hd (P++[m])) v u:=by
 refine r.inn0 (f:=Ren.id) (T:=S) ⟨λ l e=>⟨e,hO.off l λ hs=>?_⟩,λ l a q e hn=>⟨by rw[e];rfl,hO.off l hn⟩⟩ (λ l q e hs=>?_) (λ q=>rfl)
 . obtain⟨c,q,_,e'⟩:=hS l hs;rw[e] at e';cases e'
 . obtain⟨c,q',hc,e'⟩:=hS l hs;rw[e] at e';simp only[W.own.injEq,BP,CP,CA,List.append_cancel_left_eq,Hr] at e';exact hc e'.2.1.symm
theorem RM.beside{m:Nat}{P:List Nat}{v:PV}{u:V}{S:Nat->Prop}(r:RM h ω hd (P++[m]) v u)(hO:Only S h h')(hS:∀ l,S l->∃ c q,c≠m/\ω l= .own hd (P++c::q)):RM h' ω hd (P++[m]) v u:=r.imp (λ r=>r.beside hO hS) id
theorem RM.cellV{v:PV}{u:V}(r:RM h ω hd p v u)(h:v.argc=true):u.cell=true:=by
 rcases r with r|⟨_,l,o,rfl⟩
 . exact Uz r h
 . rfl
theorem RC.cellV{H:Ab}{m:Md}{v:PV}{u:V}(r:RC H ω m v u)(h:v.argc=true):u.cell=true:=Uz r h
theorem RC.own1{H:Ab}{m:Md}{es:List (List PV)}{u:V}(r:RC H ω m (.sl .own es) u):u.ok1=true/\u.cell=true/\u.cells=[u]:=by cases r<;>exact⟨rfl,rfl,rfl⟩
theorem RM.own1{es:List (List PV)}{u:V}(r:RM h ω hd p (.sl .own es) u):u.ok1=true/\u.cell=true/\u.cells=[u]:=by
 rcases r with r|⟨_,l,o,rfl⟩
 . exact r.own1
 . exact⟨rfl,rfl,rfl⟩
theorem RC.flat1{H:Ab}{m:Md}{x u:V}(r:RC H ω m (.fl x) u)(hx:x≠.undef):u=x:=by
 cases r with
 |undef=>exact absurd rfl hx
 |v=>rfl
theorem JY{x:Int}(h:-9223372036854775808<=x/\x<=9223372036854775807):IntKind.i64.wrap x=x:=by
 rw[IntKind.wrap_i64];omega
theorem E0{r:RT}{x:r.D}{j:Nat}(h:j<r.w):j<(r.enc x).length:=by rw[JW];exact h
theorem KJ{b n w:Nat}{i:Nat}(hi:i<n){k:IntKind}:dN w (.slice b 0 n) (.int k (i:Int))=some (.ptr b (i*w)):=by
 show (if 0<=(i:Int)/\(i:Int)<n then some (V.ptr b (0+(i:Int).toNat*w)) else none)=_;rw[Ac (by omega),AQ,Bv]
theorem LG{r:RT}{l:List r.D}{m:Int}{i:Nat}(hi:i<l.length){L:List r.D}{k:Int}(e:A4 r.mkI l m i=(L,k)):L.length=l.length/\A4 r.mkI l m (i+1)=(L.set i (r.mkI (L.getD i r.dflt) k).1,(r.mkI (L.getD i r.dflt) k).2)/\L.getD i r.dflt=l.getD i r.dflt:=by
 have h1:=Ey r.mkI l m i;have h2:=wG r.mkI l m i r.dflt;rw[e] at h1 h2;exact⟨h1,by rw[Pz r.mkI l m hi r.dflt,e,<- h2],h2⟩
end
theorem ZcB{us:List V}(h:us.length=2):∃ u0 u1,us=[u0,u1]:=by
 match us,h with
 |[u0,u1],_=>exact⟨u0,u1,rfl⟩
theorem Zcb{us:List V}(h:us.length=7):∃ u0 u1 u2 u3 u4 u5 u6,us=[u0,u1,u2,u3,u4,u5,u6]:=by
 match us,h with
 |[u0,u1,u2,u3,u4,u5,u6],_=>exact⟨u0,u1,u2,u3,u4,u5,u6,rfl⟩
def SlC(s:A7)(r:RT):Prop:=∀ (h:Ab) (ω:Nat->W) (hd:Hd) (p:List Nat) (l:List r.D) (u:V) (m:Int) (Q:V->Ab->Prop),CT.wl (.sl r) l->(∀ l l' a q,ω l= .own a q->ω l'= .own a q->l=l')->MS h ω hd p r l u ->
 (∀ h',Only (Fo ω hd p) h h'->MS h' ω hd p r (AP r.mkI l m).1 u->Q (.int .i64 (AP r.mkI l m).2) h')->s [u,.int .i64 m] h Q
def iZ(r:RT):DMk:=⟨.one (.sl r),false,λ l=>CT.wl (.sl r) l,λ l m=>AP r.mkI l m,false⟩
def Y8(r:RT):DMk:=⟨r,true,λ x=>RT.wl r x,λ x m=>r.mkT x m,false⟩
theorem Zbf(r:RT)(m:Int):(Y8 r).P.rv m= .int .i64 m:=rfl
attribute [go_sem] Zbf
theorem SlC.sound{s:A7}{r:RT}(hs:SlC s r):JQ s (iZ r).P:=by
 rintro h ω hd P b AH us u m K Q hinj hu hl hr ⟨x,rfl,hok,hK⟩ hQ;have hu:us=[u]:=hu;subst hu;have h0:=hr 0 (by show 0<1;omega)
 refine hs h ω hd (P++[b]) x u m Q hok hinj h0 λ h' hO hM=>?_
 refine hQ _ _ h' hK rfl (hO.mono λ l ⟨q,e⟩=>⟨0,_,q,by show 0<1;omega,rfl,by rw[e];simp⟩) λ c hc=>?_
 have:c=0:=by have:c<1:=hc;omega
 subst this;exact hM
abbrev Zda (ω:Nat->W) (hd:Hd) (P:List Nat) (b:Nat) (cs:List PV):Nat->Prop:=λ l=>∃ c es r,c<cs.length/\Aa cs c= .sl .own es/\ω l= .own hd (P++(b+c)::r)
structure Fn where
 d:DFun
 h:List HT
 q:QT
@[irreducible] def Fn.S(F:Fn):A7:=E3 F.d.er.er
@[irreducible] def Fn.P(F:Fn):C3:=N8 F.d.er
@[irreducible] def Fn.V(F:Fn)(x:TuX F.h):F.q.D:=(shut λ x=>MU F.d F.h F.q x).1 x
@[irreducible] def Fn.O(F:Fn)(x:TuX F.h):Prop:=(shut λ x=>MO F.d F.h F.q x).1 x
def Fn.D(F:Fn):Lj:=Yi F.h F.q F.O F.V
theorem Fn.v(F:Fn)(x:TuX F.h):F.V x=MU F.d F.h F.q x:=by unfold Fn.V;exact congrFun (shut _).2 x
theorem Fn.o(F:Fn)(x:TuX F.h):F.O x=MO F.d F.h F.q x:=by unfold Fn.O;exact congrFun (shut _).2 x
def Fn.A(F:Fn):Prop:=Mp F.S F.P
def Fn.B(F:Fn):Prop:=Um F.P F.D
theorem AN{F:Fn}(o:AllP F.d.er.body.obs):F.A:=by unfold Fn.A Fn.S Fn.P;exact vR o
theorem AO{F:Fn}(o:AllD F.d.body.obs)(st:OJ F.d F.h F.q=true)(c:∀ x,Ox F.d F.h F.q x=true):F.B:=by
 unfold Fn.B Fn.P;exact yg o st c (λ x h=>Eq.mp (F.o x) h) (λ x=>(F.v x).symm)
@[reducible] def oF (i d:Nat) (F:Fn) (args:List Opnd):DOper:=⟨i,some d,.call false F.S F.P F.D args,none,[]⟩
@[reducible] def xF (i d:Nat) (F:Fn) (args:List Opnd) (a:List Nat):DOper:=⟨i,some d,.call false F.S F.P F.D args,none,a⟩
theorem lF{P:Program}(hm:P.follows .mixedOrders=true){F:Fn}{f:FuncId}{fn:Func}{obs:List (FuncId×A7)}(hf:P.funcs[f]?=some fn)(hk:Fs P fn F.d.er.er=true)(ho:Ft P fn F.d.er.er=obs)(hob:AllSound P obs):Aw P f F.S:=by
 unfold Fn.S;exact G6 hm hf hk ho hob
section
set_option maxRecDepth 8000
def tw:DCode:=(.seq [2,1,0] (.region [oa 0 6 (.mv Ar)]) (.seq [6] (.region [om 0 7 0,om 1 8 1,oa 2 9 (.bin .geq (.t 7) (.t 8)),om 3 10 9,og 4 11 (.mv (.t 0)) 10 true,og 5 12 (.mv (.t 2)) 10 true,og 6 13 (.bin .leq (.t 11) (.t 12)) 10 true,oa 7 14 (.pick (.t 10) (.t 13) Ar),om 8 6 14]) .ret))
def Cc:Fn:=⟨⟨3,15,0,true,[.tmp 6],tw⟩,[.one .frz (.int .i64),.one .frz (.int .i64),.one .frz (.int .i64)],.one (.one .own (.bool))⟩
theorem HM:Cc.A:=AN trivial
def BZ:DX->Bool:=Cc.V
def Fb:DX->Prop:=Cc.O
theorem HK:Cc.B:=AO trivial (by kernel_rfl) (λ x=>by kernel_rfl)
def mZ:DCode:=(.seq [1] (.region [oa 0 1 (.boxB 0 4 (.t 0)),oa 1 2 (.mv Ar)]) (.seq [3,1] (.region [oa 0 6 (.fieldA 1 (.t 1)),oa 1 7 (.loadB 0 none (.t 6)),oF 2 8 Cc [(.t 7),AF,(.c (.int .i64 56))],om 3 3 8]) (.seq [4,3,1] (.region [oa 0 9 (.fieldA 2 (.t 1)),oa 1 10 (.loadB 0 none (.t 9)),oF 2 11 Cc [(.t 10),AF,(.c (.int .i64 15))],om 3 4 11]) (.seq [5,4,3,1] (.region [oa 0 12 (.fieldA 3 (.t 1)),oa 1 13 (.loadB 0 none (.t 12)),oF 2 14 Cc [(.t 13),AF,(.c (.int .i64 3))],om 3 5 14]) (.seq [] (.seq [16,5,4,3,1] (.region [oa 0 15 (.fieldA 0 (.t 1)),oa 1 16 (.loadB 0 none (.t 15))]) (.block 0 (.seq [17,16,5,4,3,1] (.seq [17,16,5,4,3,1] (.region [oa 0 18 (.bin .eql (.t 16) AL),om 1 17 18]) (.cond (.t 17) .skip (.seq [17,16,5,4,3,1] (.region [oa 0 19 (.bin .eql (.t 16) AF),om 1 17 19]) (.cond (.t 17) .skip (.region [oa 0 20 (.bin .eql (.t 16) (.c (.int .i64 10))),om 1 17 20]))))) (.cond (.t 17) (.seq [2] (.region [oa 0 21 (.fieldA 1 (.t 1)),oa 1 22 (.loadB 0 none (.t 21)),oa 2 23 (.bin .eql (.t 22) AL),om 3 24 23,og 4 25 (.fieldA 2 (.t 1)) 24 true,og 5 26 (.loadB 0 none (.t 25)) 24 true,og 6 27 (.bin .eql (.t 26) AL) 24 true,oa 7 28 (.pick (.t 24) (.t 27) Ar),om 8 29 28,og 9 30 (.fieldA 3 (.t 1)) 29 true,og 10 31 (.loadB 0 none (.t 30)) 29 true,og 11 32 (.bin .eql (.t 31) AL) 29 true,oa 12 33 (.pick (.t 29) (.t 32) Ar),om 13 2 33]) .ret) (.seq [34,16,5,4,3,1] (.region [oa 0 35 (.bin .eql (.t 16) (.c (.int .i64 2))),om 1 34 35]) (.cond (.t 34) (.seq [2] (.region [oa 0 36 (.fieldA 3 (.t 1)),oa 1 37 (.loadB 0 none (.t 36)),oa 2 38 (.bin .eql (.t 37) AL),om 3 39 38,og 4 40 (.mv (.t 3)) 39 true,og 5 41 (.mv (.t 40)) 39 true,og 6 42 (.fieldA 1 (.t 1)) 41 false,og 7 43 (.loadB 0 none (.t 42)) 41 false,og 8 44 (.bin .eql (.t 43) AL) 41 false,og 9 45 (.mv (.t 44)) 41 false,og 10 46 (.mv (.t 4)) 45 true,og 11 47 (.pick (.t 45) (.t 46) Ar) 41 false,og 12 48 (.pick (.t 41) AZ (.t 47)) 39 true,oa 13 49 (.pick (.t 39) (.t 48) Ar),om 14 50 49,og 15 51 (.mv (.t 4)) 50 true,og 16 52 (.mv (.t 51)) 50 true,og 17 53 (.fieldA 2 (.t 1)) 52 false,og 18 54 (.loadB 0 none (.t 53)) 52 false,og 19 55 (.bin .eql (.t 54) AL) 52 false,og 20 56 (.pick (.t 52) AZ (.t 55)) 50 true,oa 21 57 (.pick (.t 50) (.t 56) Ar),om 22 2 57]) .ret) (.seq [58,16,5,4,3,1] (.seq [58,16,5,4,3,1] (.region [oa 0 59 (.bin .eql (.t 16) (.c (.int .i64 3))),om 1 58 59]) (.cond (.t 58) .skip (.region [oa 0 60 (.bin .eql (.t 16) (.c (.int .i64 4))),om 1 58 60]))) (.cond (.t 58) (.seq [2] (.region [om 0 61 5,om 1 62 61,og 2 63 (.fieldA 1 (.t 1)) 62 true,og 3 64 (.loadB 0 none (.t 63)) 62 true,og 4 65 (.bin .eql (.t 64) AL) 62 true,oa 5 66 (.pick (.t 62) (.t 65) Ar),om 6 67 66,og 7 68 (.fieldA 2 (.t 1)) 67 true,og 8 69 (.loadB 0 none (.t 68)) 67 true,og 9 70 (.bin .eql (.t 69) AL) 67 true,oa 10 71 (.pick (.t 67) (.t 70) Ar),om 11 2 71]) .ret) (.seq [72,16,5,4,3,1] (.seq [72,16,5,4,3,1] (.region [oa 0 73 (.bin .eql (.t 16) (.c (.int .i64 5))),om 1 72 73]) (.cond (.t 72) .skip (.region [oa 0 74 (.bin .eql (.t 16) (.c (.int .i64 9))),om 1 72 74]))) (.cond (.t 72) (.seq [2] (.region [oa 0 75 (.fieldA 3 (.t 1)),oa 1 76 (.loadB 0 none (.t 75)),oF 2 77 Cc [(.t 76),AL,(.c (.int .i64 3))],om 3 78 77,og 4 79 (.fieldA 1 (.t 1)) 78 true,og 5 80 (.loadB 0 none (.t 79)) 78 true,og 6 81 (.bin .eql (.t 80) AL) 78 true,oa 7 82 (.pick (.t 78) (.t 81) Ar),om 8 83 82,og 9 84 (.fieldA 2 (.t 1)) 83 true,og 10 85 (.loadB 0 none (.t 84)) 83 true,og 11 86 (.bin .eql (.t 85) AL) 83 true,oa 12 87 (.pick (.t 83) (.t 86) Ar),om 13 2 87]) .ret) (.seq [88,16,5,4,3,1] (.region [oa 0 89 (.bin .eql (.t 16) (.c (.int .i64 6))),om 1 88 89]) (.cond (.t 88) (.seq [2] (.region [om 0 90 3,om 1 91 90,og 2 92 (.mv (.t 4)) 91 true,oa 3 93 (.pick (.t 91) (.t 92) Ar),om 4 94 93,og 5 95 (.fieldA 3 (.t 1)) 94 true,og 6 96 (.loadB 0 none (.t 95)) 94 true,og 7 97 (.bin .eql (.t 96) AL) 94 true,oa 8 98 (.pick (.t 94) (.t 97) Ar),om 9 2 98]) .ret) (.seq [99,16,5,4,3,1] (.region [oa 0 100 (.bin .eql (.t 16) (.c (.int .i64 7))),om 1 99 100]) (.cond (.t 99) (.seq [2] (.region [om 0 101 3,om 1 102 101,og 2 103 (.mv (.t 5)) 102 true,oa 3 104 (.pick (.t 102) (.t 103) Ar),om 4 105 104,og 5 106 (.fieldA 2 (.t 1)) 105 true,og 6 107 (.loadB 0 none (.t 106)) 105 true,og 7 108 (.bin .eql (.t 107) AL) 105 true,oa 8 109 (.pick (.t 105) (.t 108) Ar),om 9 2 109]) .ret) (.seq [110,4,1] (.region [oa 0 111 (.bin .eql (.t 16) (.c (.int .i64 8))),om 1 110 111]) (.cond (.t 110) (.seq [2] (.region [om 0 112 4,om 1 113 112,og 2 114 (.fieldA 1 (.t 1)) 113 true,og 3 115 (.loadB 0 none (.t 114)) 113 true,og 4 116 (.bin .eql (.t 115) AL) 113 true,oa 5 117 (.pick (.t 113) (.t 116) Ar),om 6 118 117,og 7 119 (.fieldA 3 (.t 1)) 118 true,og 8 120 (.loadB 0 none (.t 119)) 118 true,og 9 121 (.bin .eql (.t 120) AL) 118 true,oa 10 122 (.pick (.t 118) (.t 121) Ar),om 11 2 122]) .ret) .skip)))))))))))))))) (.seq [2] (.region [oa 0 2 (.mv Ar)]) .ret))))))
def DF:Fn:=⟨⟨1,123,1,true,[.tmp 2],mZ⟩,[.agg [Av,Av,Av,Av]],.one (.one .own (.bool))⟩
theorem Se:DF.A:=AN ⟨HM,HM,HM,HM,trivial⟩
def Dx:Dv->Bool:=DF.V
def Lx:Dv->Prop:=DF.O
theorem RV:DF.B:=AO ⟨HK,HK,HK,HK,trivial⟩ (by kernel_rfl) (λ x=>by kernel_rfl)
def qG:DCode:=(.seq [0] (.region [oa 0 2 (.mv Ar)]) (.seq [2] (.region [om 0 3 0,oa 1 4 (.bin .geq (.t 3) AF),om 2 5 4,og 3 6 (.mv (.t 0)) 5 true,og 4 7 (.bin .leq (.t 6) (.c (.int .i64 56))) 5 true,oa 5 8 (.pick (.t 5) (.t 7) Ar),om 6 2 8]) .ret))
def EU:Fn:=⟨⟨1,9,0,true,[.tmp 2],qG⟩,[.one .frz (.int .i64)],.one (.one .own (.bool))⟩
theorem VN:EU.A:=AN trivial
def G4:Int->Bool:=EU.V
def Ns:Int->Prop:=EU.O
theorem VO:EU.B:=AO trivial (by kernel_rfl) (λ x=>by kernel_rfl)
def rS:DCode:=(.seq [0] (.region [oa 0 2 (.mv Ar)]) (.seq [2] (.region [om 0 3 0,oa 1 4 (.bin .geq (.t 3) AF),om 2 5 4,og 3 6 (.mv (.t 0)) 5 true,og 4 7 (.bin .leq (.t 6) (.c (.int .i64 15))) 5 true,oa 5 8 (.pick (.t 5) (.t 7) Ar),om 6 2 8]) .ret))
def DH:Fn:=⟨⟨1,9,0,true,[.tmp 2],rS⟩,[.one .frz (.int .i64)],.one (.one .own (.bool))⟩
theorem VM:DH.A:=AN trivial
def Nu:Int->Bool:=DH.V
def LB:Int->Prop:=DH.O
theorem VP:DH.B:=AO trivial (by kernel_rfl) (λ x=>by kernel_rfl)
def px:DCode:=(.seq [0] (.region [oa 0 2 (.mv Ar)]) (.seq [2] (.region [om 0 3 0,oa 1 4 (.bin .geq (.t 3) AF),om 2 5 4,og 3 6 (.mv (.t 0)) 5 true,og 4 7 (.bin .leq (.t 6) (.c (.int .i64 3))) 5 true,oa 5 8 (.pick (.t 5) (.t 7) Ar),om 6 2 8]) .ret))
def ER:Fn:=⟨⟨1,9,0,true,[.tmp 2],px⟩,[.one .frz (.int .i64)],.one (.one .own (.bool))⟩
theorem Z9:ER.A:=AN trivial
def SA:Int->Bool:=ER.V
def Pe:Int->Prop:=ER.O
theorem Z1:ER.B:=AO trivial (by kernel_rfl) (λ x=>by kernel_rfl)
def oB:DCode:=(.seq [1] (.region [oa 0 1 (.boxB 0 4 (.t 0)),oa 1 2 (.mv Ar)]) (.seq [] (.seq [4,1] (.region [oa 0 3 (.fieldA 0 (.t 1)),oa 1 4 (.loadB 0 none (.t 3))]) (.block 0 (.seq [5,4,1] (.seq [5,4,1] (.region [oa 0 6 (.bin .eql (.t 4) AL),om 1 5 6]) (.cond (.t 5) .skip (.seq [5,4,1] (.region [oa 0 7 (.bin .eql (.t 4) AF),om 1 5 7]) (.cond (.t 5) .skip (.region [oa 0 8 (.bin .eql (.t 4) (.c (.int .i64 10))),om 1 5 8]))))) (.cond (.t 5) (.seq [2] (.region [oa 0 9 (.fieldA 1 (.t 1)),oa 1 10 (.loadB 0 none (.t 9)),oa 2 11 (.bin .eql (.t 10) AL),om 3 12 11,og 4 13 (.fieldA 2 (.t 1)) 12 true,og 5 14 (.loadB 0 none (.t 13)) 12 true,og 6 15 (.bin .eql (.t 14) AL) 12 true,oa 7 16 (.pick (.t 12) (.t 15) Ar),om 8 17 16,og 9 18 (.fieldA 3 (.t 1)) 17 true,og 10 19 (.loadB 0 none (.t 18)) 17 true,og 11 20 (.bin .eql (.t 19) AL) 17 true,oa 12 21 (.pick (.t 17) (.t 20) Ar),om 13 2 21]) .ret) (.seq [22,4,1] (.region [oa 0 23 (.bin .eql (.t 4) (.c (.int .i64 2))),om 1 22 23]) (.cond (.t 22) (.seq [2] (.region [oa 0 24 (.fieldA 3 (.t 1)),oa 1 25 (.loadB 0 none (.t 24)),oa 2 26 (.bin .eql (.t 25) AL),om 3 27 26,og 4 28 (.fieldA 1 (.t 1)) 27 true,og 5 29 (.loadB 0 none (.t 28)) 27 true,og 6 30 (.bin .eql (.t 29) AL) 27 true,og 7 31 (.mv (.t 30)) 27 true,og 8 32 (.fieldA 1 (.t 1)) 31 false,og 9 33 (.loadB 0 none (.t 32)) 31 false,⟨10,some 34,.call false EU.S EU.P EU.D [(.t 33)],(some (31,false)),[]⟩,og 11 35 (.pick (.t 31) AZ (.t 34)) 27 true,oa 12 36 (.pick (.t 27) (.t 35) Ar),om 13 37 36,og 14 38 (.fieldA 2 (.t 1)) 37 true,og 15 39 (.loadB 0 none (.t 38)) 37 true,og 16 40 (.bin .eql (.t 39) AL) 37 true,og 17 41 (.mv (.t 40)) 37 true,og 18 42 (.fieldA 2 (.t 1)) 41 false,og 19 43 (.loadB 0 none (.t 42)) 41 false,⟨20,some 44,.call false DH.S DH.P DH.D [(.t 43)],(some (41,false)),[]⟩,og 21 45 (.pick (.t 41) AZ (.t 44)) 37 true,oa 22 46 (.pick (.t 37) (.t 45) Ar),om 23 47 46,og 24 48 (.fieldA 1 (.t 1)) 47 true,og 25 49 (.loadB 0 none (.t 48)) 47 true,og 26 50 (.bin .neq (.t 49) AL) 47 true,og 27 51 (.mv (.t 50)) 47 true,og 28 52 (.fieldA 2 (.t 1)) 51 false,og 29 53 (.loadB 0 none (.t 52)) 51 false,og 30 54 (.bin .neq (.t 53) AL) 51 false,og 31 55 (.pick (.t 51) AZ (.t 54)) 47 true,oa 32 56 (.pick (.t 47) (.t 55) Ar),om 33 2 56]) .ret) (.seq [57,4,1] (.seq [57,4,1] (.region [oa 0 58 (.bin .eql (.t 4) (.c (.int .i64 3))),om 1 57 58]) (.cond (.t 57) .skip (.region [oa 0 59 (.bin .eql (.t 4) (.c (.int .i64 4))),om 1 57 59]))) (.cond (.t 57) (.seq [2] (.region [oa 0 60 (.fieldA 1 (.t 1)),oa 1 61 (.loadB 0 none (.t 60)),oa 2 62 (.bin .eql (.t 61) AL),om 3 63 62,og 4 64 (.fieldA 2 (.t 1)) 63 true,og 5 65 (.loadB 0 none (.t 64)) 63 true,og 6 66 (.bin .eql (.t 65) AL) 63 true,oa 7 67 (.pick (.t 63) (.t 66) Ar),om 8 68 67,og 9 69 (.fieldA 3 (.t 1)) 68 true,og 10 70 (.loadB 0 none (.t 69)) 68 true,⟨11,some 71,.call false ER.S ER.P ER.D [(.t 70)],(some (68,true)),[]⟩,oa 12 72 (.pick (.t 68) (.t 71) Ar),om 13 2 72]) .ret) (.seq [73,4,1] (.region [oa 0 74 (.bin .eql (.t 4) (.c (.int .i64 5))),om 1 73 74]) (.cond (.t 73) (.seq [2] (.region [oa 0 75 (.fieldA 1 (.t 1)),oa 1 76 (.loadB 0 none (.t 75)),oa 2 77 (.bin .eql (.t 76) AL),om 3 78 77,og 4 79 (.fieldA 2 (.t 1)) 78 true,og 5 80 (.loadB 0 none (.t 79)) 78 true,og 6 81 (.bin .eql (.t 80) AL) 78 true,oa 7 82 (.pick (.t 78) (.t 81) Ar),om 8 83 82,og 9 84 (.fieldA 3 (.t 1)) 83 true,og 10 85 (.loadB 0 none (.t 84)) 83 true,og 11 86 (.bin .geq (.t 85) AL) 83 true,oa 12 87 (.pick (.t 83) (.t 86) Ar),om 13 88 87,og 14 89 (.fieldA 3 (.t 1)) 88 true,og 15 90 (.loadB 0 none (.t 89)) 88 true,og 16 91 (.bin .leq (.t 90) (.c (.int .i64 3))) 88 true,oa 17 92 (.pick (.t 88) (.t 91) Ar),om 18 2 92]) .ret) (.seq [93,4,1] (.region [oa 0 94 (.bin .eql (.t 4) (.c (.int .i64 9))),om 1 93 94]) (.cond (.t 93) (.seq [2] (.region [oa 0 95 (.fieldA 1 (.t 1)),oa 1 96 (.loadB 0 none (.t 95)),oa 2 97 (.bin .eql (.t 96) AL),om 3 98 97,og 4 99 (.fieldA 2 (.t 1)) 98 true,og 5 100 (.loadB 0 none (.t 99)) 98 true,og 6 101 (.bin .eql (.t 100) AL) 98 true,oa 7 102 (.pick (.t 98) (.t 101) Ar),om 8 103 102,og 9 104 (.fieldA 3 (.t 1)) 103 true,og 10 105 (.loadB 0 none (.t 104)) 103 true,og 11 106 (.bin .geq (.t 105) AL) 103 true,oa 12 107 (.pick (.t 103) (.t 106) Ar),om 13 108 107,og 14 109 (.fieldA 3 (.t 1)) 108 true,og 15 110 (.loadB 0 none (.t 109)) 108 true,og 16 111 (.bin .leq (.t 110) (.c (.int .i64 3))) 108 true,oa 17 112 (.pick (.t 108) (.t 111) Ar),om 18 2 112]) .ret) (.seq [113,4,1] (.region [oa 0 114 (.bin .eql (.t 4) (.c (.int .i64 6))),om 1 113 114]) (.cond (.t 113) (.seq [2] (.region [oa 0 115 (.fieldA 1 (.t 1)),oa 1 116 (.loadB 0 none (.t 115)),oF 2 117 EU [(.t 116)],om 3 118 117,og 4 119 (.fieldA 2 (.t 1)) 118 true,og 5 120 (.loadB 0 none (.t 119)) 118 true,⟨6,some 121,.call false DH.S DH.P DH.D [(.t 120)],(some (118,true)),[]⟩,oa 7 122 (.pick (.t 118) (.t 121) Ar),om 8 123 122,og 9 124 (.fieldA 3 (.t 1)) 123 true,og 10 125 (.loadB 0 none (.t 124)) 123 true,og 11 126 (.bin .eql (.t 125) AL) 123 true,oa 12 127 (.pick (.t 123) (.t 126) Ar),om 13 2 127]) .ret) (.seq [128,4,1] (.region [oa 0 129 (.bin .eql (.t 4) (.c (.int .i64 7))),om 1 128 129]) (.cond (.t 128) (.seq [2] (.region [oa 0 130 (.fieldA 1 (.t 1)),oa 1 131 (.loadB 0 none (.t 130)),oF 2 132 EU [(.t 131)],om 3 133 132,og 4 134 (.fieldA 2 (.t 1)) 133 true,og 5 135 (.loadB 0 none (.t 134)) 133 true,og 6 136 (.bin .eql (.t 135) AL) 133 true,oa 7 137 (.pick (.t 133) (.t 136) Ar),om 8 138 137,og 9 139 (.fieldA 3 (.t 1)) 138 true,og 10 140 (.loadB 0 none (.t 139)) 138 true,⟨11,some 141,.call false ER.S ER.P ER.D [(.t 140)],(some (138,true)),[]⟩,oa 12 142 (.pick (.t 138) (.t 141) Ar),om 13 2 142]) .ret) (.seq [143,1] (.region [oa 0 144 (.bin .eql (.t 4) (.c (.int .i64 8))),om 1 143 144]) (.cond (.t 143) (.seq [2] (.region [oa 0 145 (.fieldA 1 (.t 1)),oa 1 146 (.loadB 0 none (.t 145)),oa 2 147 (.bin .eql (.t 146) AL),om 3 148 147,og 4 149 (.fieldA 2 (.t 1)) 148 true,og 5 150 (.loadB 0 none (.t 149)) 148 true,⟨6,some 151,.call false DH.S DH.P DH.D [(.t 150)],(some (148,true)),[]⟩,oa 7 152 (.pick (.t 148) (.t 151) Ar),om 8 153 152,og 9 154 (.fieldA 3 (.t 1)) 153 true,og 10 155 (.loadB 0 none (.t 154)) 153 true,og 11 156 (.bin .eql (.t 155) AL) 153 true,oa 12 157 (.pick (.t 153) (.t 156) Ar),om 13 2 157]) .ret) .skip)))))))))))))))))) (.seq [2] (.region [oa 0 2 (.mv Ar)]) .ret)))
def EO:Fn:=⟨⟨1,158,1,true,[.tmp 2],oB⟩,[.agg [Av,Av,Av,Av]],.one (.one .own (.bool))⟩
theorem VB:EO.A:=AN ⟨VN,VM,Z9,VN,VM,VN,Z9,VM,trivial⟩
def Dp:Dv->Bool:=EO.V
def Nj:Dv->Prop:=EO.O
theorem Vv:EO.B:=AO ⟨VO,VP,Z1,VO,VP,VO,Z1,VP,trivial⟩ (by kernel_rfl) (λ x=>by kernel_rfl)
def nF:DCode:=(.seq [3,2] (.region [oa 0 2 (.boxB 0 4 (.t 0)),oa 1 3 (.boxB 1 4 (.t 1)),oa 2 4 (.mv Ar)]) (.seq [3,2] (.seq [9,3,2] (.region [oa 0 5 (.fieldA 0 (.t 2)),oa 1 6 (.loadB 0 none (.t 5)),oa 2 7 (.fieldA 0 (.t 3)),oa 3 8 (.loadB 1 none (.t 7)),oa 4 9 (.bin .neq (.t 6) (.t 8))]) (.cond (.t 9) (.seq [4] (.region [oa 0 4 (.mv Ar)]) .ret) .skip)) (.seq [3,2] (.seq [14,3,2] (.region [oa 0 10 (.fieldA 1 (.t 2)),oa 1 11 (.loadB 0 none (.t 10)),oa 2 12 (.fieldA 1 (.t 3)),oa 3 13 (.loadB 1 none (.t 12)),oa 4 14 (.bin .neq (.t 11) (.t 13))]) (.cond (.t 14) (.seq [4] (.region [oa 0 4 (.mv Ar)]) .ret) .skip)) (.seq [3,2] (.seq [19,3,2] (.region [oa 0 15 (.fieldA 2 (.t 2)),oa 1 16 (.loadB 0 none (.t 15)),oa 2 17 (.fieldA 2 (.t 3)),oa 3 18 (.loadB 1 none (.t 17)),oa 4 19 (.bin .neq (.t 16) (.t 18))]) (.cond (.t 19) (.seq [4] (.region [oa 0 4 (.mv Ar)]) .ret) .skip)) (.seq [] (.seq [24] (.region [oa 0 20 (.fieldA 3 (.t 2)),oa 1 21 (.loadB 0 none (.t 20)),oa 2 22 (.fieldA 3 (.t 3)),oa 3 23 (.loadB 1 none (.t 22)),oa 4 24 (.bin .neq (.t 21) (.t 23))]) (.cond (.t 24) (.seq [4] (.region [oa 0 4 (.mv Ar)]) .ret) .skip)) (.seq [4] (.region [oa 0 4 (.mv AZ)]) .ret))))))
def G1:Fn:=⟨⟨2,25,2,true,[.tmp 4],nF⟩,[.agg [Av,Av,Av,Av],.agg [Av,Av,Av,Av]],.one (.one .own (.bool))⟩
theorem ZY:G1.A:=AN trivial
def HI:ir->Bool:=G1.V
def Nf:ir->Prop:=G1.O
theorem ZW:G1.B:=AO trivial (by kernel_rfl) (λ x=>by kernel_rfl)
end
section
set_option maxRecDepth 100000
theorem V0 (x):BZ x=(bAnd (iGe x.1 x.2.1) (iLe x.1 x.2.2)):=(Cc.v x).trans (by kernel_rfl)
theorem VZ (x):Fb x=True:=(Cc.o x).trans (by kernel_rfl)
theorem oU (x):Dx x=(bSel (bOr (iEq x.1 0) (bOr (iEq x.1 1) (iEq x.1 10))) (bAnd (iEq x.2.1 0) (bAnd (iEq x.2.2.1 0) (iEq x.2.2.2 0))) (bSel (iEq x.1 2) (bAnd (iEq x.2.2.2 0) (bSel (BZ (x.2.1,1,56)) (bOr (BZ (x.2.2.1,1,15)) (iEq x.2.2.1 0)) (bAnd (iEq x.2.1 0) (bAnd (BZ (x.2.2.1,1,15)) (bOr (BZ (x.2.2.1,1,15)) (iEq x.2.2.1 0)))))) (bSel (bOr (iEq x.1 3) (iEq x.1 4)) (bAnd (BZ (x.2.2.2,1,3)) (bAnd (iEq x.2.1 0) (iEq x.2.2.1 0))) (bSel (bOr (iEq x.1 5) (iEq x.1 9)) (bAnd (BZ (x.2.2.2,0,3)) (bAnd (iEq x.2.1 0) (iEq x.2.2.1 0))) (bSel (iEq x.1 6) (bAnd (BZ (x.2.1,1,56)) (bAnd (BZ (x.2.2.1,1,15)) (iEq x.2.2.2 0))) (bSel (iEq x.1 7) (bAnd (BZ (x.2.1,1,56)) (bAnd (BZ (x.2.2.2,1,3)) (iEq x.2.2.1 0))) (bAnd (iEq x.1 8) (bAnd (BZ (x.2.2.1,1,15)) (bAnd (iEq x.2.1 0) (iEq x.2.2.2 0)))))))))):=(DF.v x).trans (by kernel_rfl)
theorem nS (x):Lx x=((Fb (x.2.1,1,56))/\((Fb (x.2.2.1,1,15))/\((Fb (x.2.2.2,1,3))/\(((bOr (iEq x.1 0) (bOr (iEq x.1 1) (iEq x.1 10)))=true->True)/\((bOr (iEq x.1 0) (bOr (iEq x.1 1) (iEq x.1 10)))=false->(((iEq x.1 2)=true->True)/\((iEq x.1 2)=false->(((bOr (iEq x.1 3) (iEq x.1 4))=true->True)/\((bOr (iEq x.1 3) (iEq x.1 4))=false->(((bOr (iEq x.1 5) (iEq x.1 9))=true->(Fb (x.2.2.2,0,3)))/\((bOr (iEq x.1 5) (iEq x.1 9))=false->True))))))))))):=(DF.o x).trans (by kernel_rfl)
theorem aD (x):G4 x=(bAnd (iGe x 1) (iLe x 56)):=(EU.v x).trans (by kernel_rfl)
theorem rZ (x):Ns x=True:=(EU.o x).trans (by kernel_rfl)
theorem qW (x):Nu x=(bAnd (iGe x 1) (iLe x 15)):=(DH.v x).trans (by kernel_rfl)
theorem rX (x):LB x=True:=(DH.o x).trans (by kernel_rfl)
theorem qj (x):SA x=(bAnd (iGe x 1) (iLe x 3)):=(ER.v x).trans (by kernel_rfl)
theorem pI (x):Pe x=True:=(ER.o x).trans (by kernel_rfl)
theorem ZT (x):Dp x=(bSel (bOr (iEq x.1 0) (bOr (iEq x.1 1) (iEq x.1 10))) (bAnd (iEq x.2.1 0) (bAnd (iEq x.2.2.1 0) (iEq x.2.2.2 0))) (bSel (iEq x.1 2) (bAnd (iEq x.2.2.2 0) (bSel (iEq x.2.1 0) (bSel (iEq x.2.2.1 0) (bOr (iNe x.2.1 0) (iNe x.2.2.1 0)) (bAnd (Nu x.2.2.1) (bOr (iNe x.2.1 0) (iNe x.2.2.1 0)))) (bAnd (G4 x.2.1) (bSel (iEq x.2.2.1 0) (bOr (iNe x.2.1 0) (iNe x.2.2.1 0)) (bAnd (Nu x.2.2.1) (bOr (iNe x.2.1 0) (iNe x.2.2.1 0))))))) (bSel (bOr (iEq x.1 3) (iEq x.1 4)) (bAnd (iEq x.2.1 0) (bAnd (iEq x.2.2.1 0) (SA x.2.2.2))) (bSel (iEq x.1 5) (bAnd (iEq x.2.1 0) (bAnd (iEq x.2.2.1 0) (bAnd (iGe x.2.2.2 0) (iLe x.2.2.2 3)))) (bSel (iEq x.1 9) (bAnd (iEq x.2.1 0) (bAnd (iEq x.2.2.1 0) (bAnd (iGe x.2.2.2 0) (iLe x.2.2.2 3)))) (bSel (iEq x.1 6) (bAnd (G4 x.2.1) (bAnd (Nu x.2.2.1) (iEq x.2.2.2 0))) (bSel (iEq x.1 7) (bAnd (G4 x.2.1) (bAnd (iEq x.2.2.1 0) (SA x.2.2.2))) (bAnd (iEq x.1 8) (bAnd (iEq x.2.1 0) (bAnd (Nu x.2.2.1) (iEq x.2.2.2 0))))))))))):=(EO.v x).trans (by kernel_rfl)
theorem mE (x):Nj x=(((bOr (iEq x.1 0) (bOr (iEq x.1 1) (iEq x.1 10)))=true->True)/\((bOr (iEq x.1 0) (bOr (iEq x.1 1) (iEq x.1 10)))=false->(((iEq x.1 2)=true->(((iEq x.2.2.2 0)=true->(((iEq x.2.1 0)=true->(((iEq x.2.2.1 0)=true->True)/\((iEq x.2.2.1 0)=false->(LB x.2.2.1))))/\((iEq x.2.1 0)=false->((Ns x.2.1)/\(((G4 x.2.1)=true->(((iEq x.2.2.1 0)=true->True)/\((iEq x.2.2.1 0)=false->(LB x.2.2.1))))/\((G4 x.2.1)=false->True))))))/\((iEq x.2.2.2 0)=false->True)))/\((iEq x.1 2)=false->(((bOr (iEq x.1 3) (iEq x.1 4))=true->(((iEq x.2.1 0)=true->(((iEq x.2.2.1 0)=true->(Pe x.2.2.2))/\((iEq x.2.2.1 0)=false->True)))/\((iEq x.2.1 0)=false->True)))/\((bOr (iEq x.1 3) (iEq x.1 4))=false->(((iEq x.1 5)=true->True)/\((iEq x.1 5)=false->(((iEq x.1 9)=true->True)/\((iEq x.1 9)=false->(((iEq x.1 6)=true->((Ns x.2.1)/\(((G4 x.2.1)=true->(LB x.2.2.1))/\((G4 x.2.1)=false->True))))/\((iEq x.1 6)=false->(((iEq x.1 7)=true->((Ns x.2.1)/\(((G4 x.2.1)=true->(((iEq x.2.2.1 0)=true->(Pe x.2.2.2))/\((iEq x.2.2.1 0)=false->True)))/\((G4 x.2.1)=false->True))))/\((iEq x.1 7)=false->(((iEq x.1 8)=true->(((iEq x.2.1 0)=true->(LB x.2.2.1))/\((iEq x.2.1 0)=false->True)))/\((iEq x.1 8)=false->True)))))))))))))))):=(EO.o x).trans (by kernel_rfl)
theorem nX (x):HI x=(bAnd (bNot (iNe x.1.1 x.2.1)) (bAnd (bNot (iNe x.1.2.1 x.2.2.1)) (bAnd (bNot (iNe x.1.2.2.1 x.2.2.2.1)) (bNot (iNe x.1.2.2.2 x.2.2.2.2))))):=(G1.v x).trans (by kernel_rfl)
theorem ot (x):Nf x=True:=(G1.o x).trans (by kernel_rfl)
attribute [irreducible] BZ Fb Dx Lx G4 Ns Nu LB SA Pe Dp Nj HI Nf
end
section
set_option maxRecDepth 8000
def pL:DCode:=(.seq [1,0] (.region [oi 0 4 0]) (.seq [1] (.region [om 0 5 1,on 1 6 0,oa 2 7 (.len (.t 6)),oa 3 8 (.bin .sub (.t 5) (.t 7)),om 4 1 8]) (.seq [1] (.seq [10,1] (.region [om 0 9 1,oa 1 10 (.bin .lss (.t 9) AL)]) (.cond (.t 10) (.seq [4] (.region [oi 0 4 (-1)]) .ret) .skip)) (.seq [4] (.region [om 0 11 1,om 1 4 11]) .ret))))
def Ji:Fn:=⟨⟨2,12,0,true,[.tmp 4],pL⟩,[.one .frz (.sl AY),.one .frz (.int .i64)],.one (.one .own (.int .i64))⟩
theorem qb:Ji.A:=AN trivial
def Ko:D8->Int:=Ji.V
def Sw:D8->Prop:=Ji.O
theorem pc:Ji.B:=AO trivial (by kernel_rfl) (λ x=>by kernel_rfl)
def nk:DCode:=(.seq [2,1] (.region [oa 0 1 (.boxB 0 4 (.t 0)),oa 1 2 (.allocB 1 [An,An,An,An])]) (.seq [3,2,1] (.region [oa 0 3 (.allocB 2 [An,An,An,An])]) (.seq [3,2,1] (.region [oa 0 4 (.fieldA 0 (.t 1)),ob 1 5 (.loadB 0 none (.t 4)),oa 2 6 (.fieldA 0 (.t 3)),os 3 (.storeB 2 1 (.t 6) (.t 5))]) (.seq [3,2,1] (.region [oa 0 7 (.fieldA 1 (.t 1)),ob 1 8 (.loadB 0 none (.t 7)),oa 2 9 (.fieldA 1 (.t 3)),os 3 (.storeB 2 1 (.t 9) (.t 8))]) (.seq [3,2,1] (.region [oa 0 10 (.fieldA 2 (.t 1)),ob 1 11 (.loadB 0 none (.t 10)),oa 2 12 (.fieldA 2 (.t 3)),os 3 (.storeB 2 1 (.t 12) (.t 11))]) (.seq [3,2] (.region [oa 0 13 (.fieldA 3 (.t 1)),ob 1 14 (.loadB 0 none (.t 13)),oa 2 15 (.fieldA 3 (.t 3)),os 3 (.storeB 2 1 (.t 15) (.t 14))]) (.seq [2] (.region [ob 0 16 (.loadB 2 (some 4) (.t 3)),os 1 (.storeB 1 4 (.t 2) (.t 16))]) .ret)))))))
def G2:Fn:=⟨⟨1,17,3,true,[.cell 2 (some 4)],nk⟩,[.agg [Av,Av,Av,Av]],.one (.agg [BI,BI,BI,BI])⟩
theorem ZJ:G2.A:=AN trivial
def Eu:Dv->Int×Int×Int×Int:=G2.V
def Nh:Dv->Prop:=G2.O
theorem ZQ:G2.B:=AO trivial (by kernel_rfl) (λ x=>by kernel_rfl)
def rj:DCode:=(.seq [2,1] (.region [oa 0 1 (.boxB 0 5 (.t 0)),oa 1 2 (.allocB 1 [An,An,An,An,An])]) (.seq [3,2,1] (.region [oa 0 3 (.allocB 2 [An,An,An,An,An])]) (.seq [3,2,1] (.region [oa 0 4 (.fieldA 0 (.t 1)),ob 1 5 (.loadB 0 none (.t 4)),oa 2 6 (.fieldA 0 (.t 3)),os 3 (.storeB 2 1 (.t 6) (.t 5))]) (.seq [3,2] (.region [oa 0 7 (.fieldA 1 (.t 1)),oa 1 8 (.loadB 0 (some 4) (.t 7)),oF 2 9 G2 [(.t 8)],oa 3 10 (.fieldA 1 (.t 3)),os 4 (.storeB 2 4 (.t 10) (.t 9))]) (.seq [2] (.region [ob 0 11 (.loadB 2 (some 5) (.t 3)),os 1 (.storeB 1 5 (.t 2) (.t 11))]) .ret)))))
def Jr:Fn:=⟨⟨1,12,3,true,[.cell 2 (some 5)],rj⟩,[.agg [Av,Av,Av,Av,Av]],.one (.agg [BI,BI,BI,BI,BI])⟩
theorem rp:Jr.A:=AN ⟨ZJ,trivial⟩
def Fa:C0->Int×Int×Int×Int×Int:=Jr.V
def Pm:C0->Prop:=Jr.O
theorem si:Jr.B:=AO ⟨ZQ,trivial⟩ (by kernel_rfl) (λ x=>by kernel_rfl)
def pA:DCode:=(.seq [0] (.region [oa 0 2 (.mv (.c .nils))]) (.seq [3,0] (.region [on 0 5 0,oa 1 6 (.len (.t 5)),⟨2,some 7,.a false (.mkSlice 5 [An,An,An,An,An] (.t 6)) (some AY),none,[]⟩,om 3 3 7]) (.seq [3] (.seq [4,3,0] (.region [oi 0 4 0]) (.block 0 (.loop [0,3,4] 1 (.seq [4,3,0] (.seq [11,4,3,0] (.region [om 0 8 4,on 1 9 0,oa 2 10 (.len (.t 9)),oa 3 11 (.bin .lss (.t 8) (.t 10))]) (.cond (.t 11) .skip (.exit 0))) (.seq [4,3,0] (.block 1 (.region [on 0 14 3,om 1 15 4,on 2 16 0,om 3 17 4,oa 4 18 (.indexA 5 (.t 16) (.t 17)),oa 5 19 (.loadH (some 5) (.t 18)),oF 6 20 Jr [(.t 19)],oa 7 21 (.indexA 5 (.t 14) (.t 15)),os 8 (.storeH 5 (.t 21) (.t 20))])) (.region [om 0 12 4,oa 1 13 (.bin .add (.t 12) AF),om 2 4 13])))))) (.seq [2] (.region [om 0 22 3,om 1 2 22]) .ret))))
def Je:Fn:=⟨⟨1,23,0,false,[.tmp 2],pA⟩,[.one .frz (.sl AY)],.one (.one .own (.sl AY))⟩
theorem qf:Je.A:=AN ⟨rp,trivial⟩
def SN:Be->List C0:=Je.V
def Sv:Be->Prop:=Je.O
theorem qc:Je.B:=AO ⟨si,trivial⟩ (by kernel_rfl) (λ x=>by kernel_rfl)
def kZ:DCode:=(.seq [1] (.region [oa 0 1 (.boxB 0 4 (.t 0)),oa 1 2 (.mv Ar)]) (.seq [2] (.region [oa 0 3 (.loadB 0 (some 4) (.t 1)),oF 1 4 DF [(.t 3)],om 2 5 4,og 3 6 (.fieldA 0 (.t 1)) 5 true,og 4 7 (.loadB 0 none (.t 6)) 5 true,og 5 8 (.bin .eql (.t 7) (.c (.int .i64 6))) 5 true,og 6 9 (.mv (.t 8)) 5 true,og 7 10 (.fieldA 0 (.t 1)) 9 false,og 8 11 (.loadB 0 none (.t 10)) 9 false,og 9 12 (.bin .eql (.t 11) (.c (.int .i64 7))) 9 false,og 10 13 (.pick (.t 9) AZ (.t 12)) 5 true,oa 11 14 (.pick (.t 5) (.t 13) Ar),om 12 2 14]) .ret))
def GW:Fn:=⟨⟨1,15,1,true,[.tmp 2],kZ⟩,[.agg [Av,Av,Av,Av]],.one (.one .own (.bool))⟩
theorem lj:GW.A:=AN ⟨Se,trivial⟩
def Ng:Dv->Bool:=GW.V
def RG:Dv->Prop:=GW.O
theorem mh:GW.B:=AO ⟨RV,trivial⟩ (by kernel_rfl) (λ x=>by kernel_rfl)
def qM:DCode:=(.seq [0] (.region [oa 0 2 (.mv Ar)]) (.seq [3,0] (.region [oi 0 3 0]) (.seq [] (.seq [4,3,0] (.region [oi 0 4 0]) (.block 0 (.loop [0,3,4] 1 (.seq [4,3,0] (.seq [9,4,3,0] (.region [om 0 6 4,on 1 7 0,oa 2 8 (.len (.t 7)),oa 3 9 (.bin .lss (.t 6) (.t 8))]) (.cond (.t 9) .skip (.exit 0))) (.seq [4,3,0] (.block 1 (.seq [5,4,3,0] (.region [on 0 12 0,om 1 13 4,oa 2 14 (.indexA 5 (.t 12) (.t 13)),oa 3 15 (.fieldA 1 (.t 14)),ob 4 16 (.loadH (some 4) (.t 15)),oa 5 5 (.allocB 0 [An,An,An,An]),os 6 (.storeB 0 4 (.t 5) (.t 16))]) (.seq [4,3,0] (.seq [48,4,3,0] (.region [on 0 17 0,om 1 18 4,oa 2 19 (.indexA 5 (.t 17) (.t 18)),oa 3 20 (.fieldA 0 (.t 19)),oa 4 21 (.loadH none (.t 20)),oF 5 22 Cc [(.t 21),AL,(.c (.int .i64 31))],oa 6 23 (.un .not (.t 22)),om 7 24 23,og 8 25 (.mv (.t 3)) 24 false,⟨9,some 26,.a true (.mv (.t 0)) none,(some (24,false)),[]⟩,og 10 27 (.mv (.t 4)) 24 false,og 11 28 (.indexA 5 (.t 26) (.t 27)) 24 false,og 12 29 (.fieldA 0 (.t 28)) 24 false,og 13 30 (.loadH none (.t 29)) 24 false,og 14 31 (.bin .shr (.t 25) (.t 30)) 24 false,og 15 32 (.bin .and (.t 31) AF) 24 false,og 16 33 (.bin .eql (.t 32) AF) 24 false,oa 17 34 (.pick (.t 24) AZ (.t 33)),om 18 35 34,og 19 36 (.loadB 0 (some 4) (.t 5)) 35 false,⟨20,some 37,.call false DF.S DF.P DF.D [(.t 36)],(some (35,false)),[]⟩,og 21 38 (.un .not (.t 37)) 35 false,oa 22 39 (.pick (.t 35) AZ (.t 38)),om 23 40 39,og 24 41 (.fieldA 0 (.t 5)) 40 false,og 25 42 (.loadB 0 none (.t 41)) 40 false,og 26 43 (.bin .eql (.t 42) AF) 40 false,oa 27 44 (.pick (.t 40) AZ (.t 43)),om 28 45 44,og 29 46 (.loadB 0 (some 4) (.t 5)) 45 false,⟨30,some 47,.call false GW.S GW.P GW.D [(.t 46)],(some (45,false)),[]⟩,oa 31 48 (.pick (.t 45) AZ (.t 47))]) (.cond (.t 48) (.seq [2] (.region [oa 0 2 (.mv Ar)]) .ret) .skip)) (.region [om 0 49 3,on 1 50 0,om 2 51 4,oa 3 52 (.indexA 5 (.t 50) (.t 51)),oa 4 53 (.fieldA 0 (.t 52)),oa 5 54 (.loadH none (.t 53)),oa 6 55 (.bin .shl AF (.t 54)),oa 7 56 (.bin .or (.t 49) (.t 55)),om 8 3 56])))) (.region [om 0 10 4,oa 1 11 (.bin .add (.t 10) AF),om 2 4 11])))))) (.seq [2] (.region [oa 0 2 (.mv AZ)]) .ret))))
def FG:Fn:=⟨⟨1,57,1,true,[.tmp 2],qM⟩,[.one .frz (.sl AY)],.one (.one .own (.bool))⟩
theorem aB:FG.A:=AN ⟨HM,Se,lj,trivial⟩
def Jz:Be->Bool:=FG.V
def Pn:Be->Prop:=FG.O
theorem az:FG.B:=AO ⟨HK,RV,mh,trivial⟩ (by kernel_rfl) (λ x=>by kernel_rfl)
def uD:DCode:=(.seq [1,0] (.region [oi 0 4 0]) (.seq [4] (.region [om 0 5 0,om 1 6 1,oa 2 7 (.bin .shr (.t 5) (.t 6)),oa 3 8 (.bin .and (.t 7) AF),om 4 4 8]) .ret))
def Ha:Fn:=⟨⟨2,9,0,true,[.tmp 4],uD⟩,[.one .frz (.int .i64),.one .frz (.int .i64)],.one (.one .own (.int .i64))⟩
theorem ud:Ha.A:=AN trivial
def JB:Aq->Int:=Ha.V
def V9:Aq->Prop:=Ha.O
theorem uz:Ha.B:=AO trivial (by kernel_rfl) (λ x=>by kernel_rfl)
def rG:DCode:=(.seq [0] (.region [oa 0 2 (.mv Ar)]) (.seq [3,0] (.region [oi 0 3 0]) (.seq [] (.seq [8,7,6,3] (.region [on 0 6 0,oa 1 7 (.len (.t 6)),oi 2 8 0]) (.block 0 (.loop [3,6,7,8] 1 (.seq [9,8,7,6,3] (.region [oa 0 9 (.bin .lss (.t 8) (.t 7))]) (.seq [8,7,6,3] (.cond (.t 9) .skip (.exit 0)) (.seq [8,7,6,3] (.block 1 (.seq [8,7,6,5,3] (.region [oa 0 10 (.indexA 5 (.t 6) (.t 8)),ob 1 11 (.loadH (some 5) (.t 10)),oa 2 5 (.allocB 0 [An,An,An,An,An]),os 3 (.storeB 0 5 (.t 5) (.t 11))]) (.seq [8,7,6,5,3] (.seq [32,8,7,6,5,3] (.region [oa 0 12 (.fieldA 0 (.t 5)),oa 1 13 (.loadB 0 none (.t 12)),oa 2 14 (.bin .lss (.t 13) AL),om 3 15 14,og 4 16 (.fieldA 0 (.t 5)) 15 false,og 5 17 (.loadB 0 none (.t 16)) 15 false,og 6 18 (.bin .gtr (.t 17) (.c (.int .i64 31))) 15 false,oa 7 19 (.pick (.t 15) AZ (.t 18)),om 8 20 19,og 9 21 (.mv (.t 3)) 20 false,og 10 22 (.fieldA 0 (.t 5)) 20 false,og 11 23 (.loadB 0 none (.t 22)) 20 false,⟨12,some 24,.call false Ha.S Ha.P Ha.D [(.t 21),(.t 23)],(some (20,false)),[]⟩,og 13 25 (.bin .eql (.t 24) AF) 20 false,oa 14 26 (.pick (.t 20) AZ (.t 25)),om 15 27 26,og 16 28 (.fieldA 1 (.t 5)) 27 false,og 17 29 (.loadB 0 (some 4) (.t 28)) 27 false,⟨18,some 30,.call false EO.S EO.P EO.D [(.t 29)],(some (27,false)),[]⟩,og 19 31 (.un .not (.t 30)) 27 false,oa 20 32 (.pick (.t 27) AZ (.t 31))]) (.cond (.t 32) (.seq [2] (.region [oa 0 2 (.mv Ar)]) .ret) .skip)) (.seq [8,7,6,5,3] (.seq [35,8,7,6,5,3] (.region [oa 0 33 (.fieldA 1 (.t 5)),oa 1 34 (.fieldA 0 (.t 33)),oa 2 35 (.loadB 0 none (.t 34))]) (.block 2 (.seq [36,8,7,6,5,3] (.seq [36,35,8,7,6,5,3] (.region [oa 0 37 (.bin .eql (.t 35) AF),om 1 36 37]) (.cond (.t 36) .skip (.seq [36,35,8,7,6,5,3] (.region [oa 0 38 (.bin .eql (.t 35) (.c (.int .i64 6))),om 1 36 38]) (.cond (.t 36) .skip (.region [oa 0 39 (.bin .eql (.t 35) (.c (.int .i64 7))),om 1 36 39]))))) (.cond (.t 36) (.seq [2] (.region [oa 0 2 (.mv Ar)]) .ret) .skip)))) (.region [om 0 40 3,oa 1 41 (.fieldA 0 (.t 5)),oa 2 42 (.loadB 0 none (.t 41)),oa 3 43 (.bin .shl AF (.t 42)),oa 4 44 (.bin .or (.t 40) (.t 43)),om 5 3 44]))))) (.region [oa 0 45 (.bin .add (.t 8) AF),om 1 8 45]))))))) (.seq [2] (.region [oa 0 2 (.mv AZ)]) .ret))))
def FJ:Fn:=⟨⟨1,46,1,true,[.tmp 2],rG⟩,[.one .frz (.sl AY)],.one (.one .own (.bool))⟩
theorem ax:FJ.A:=AN ⟨ud,VB,trivial⟩
def Gi:Be->Bool:=FJ.V
def Pj:Be->Prop:=FJ.O
theorem ay:FJ.B:=AO ⟨uz,Vv,trivial⟩ (by kernel_rfl) (λ x=>by kernel_rfl)
def rR:DCode:=(.seq [3,2] (.region [oa 0 2 (.boxB 0 5 (.t 0)),oa 1 3 (.boxB 1 5 (.t 1)),oa 2 4 (.mv Ar)]) (.seq [3,2] (.seq [9,3,2] (.region [oa 0 5 (.fieldA 0 (.t 2)),oa 1 6 (.loadB 0 none (.t 5)),oa 2 7 (.fieldA 0 (.t 3)),oa 3 8 (.loadB 1 none (.t 7)),oa 4 9 (.bin .neq (.t 6) (.t 8))]) (.cond (.t 9) (.seq [4] (.region [oa 0 4 (.mv Ar)]) .ret) .skip)) (.seq [] (.seq [15] (.region [oa 0 10 (.fieldA 1 (.t 2)),oa 1 11 (.loadB 0 (some 4) (.t 10)),oa 2 12 (.fieldA 1 (.t 3)),oa 3 13 (.loadB 1 (some 4) (.t 12)),oF 4 14 G1 [(.t 11),(.t 13)],oa 5 15 (.un .not (.t 14))]) (.cond (.t 15) (.seq [4] (.region [oa 0 4 (.mv Ar)]) .ret) .skip)) (.seq [4] (.region [oa 0 4 (.mv AZ)]) .ret))))
def Jt:Fn:=⟨⟨2,16,2,true,[.tmp 4],rR⟩,[.agg [Av,Av,Av,Av,Av],.agg [Av,Av,Av,Av,Av]],.one (.one .own (.bool))⟩
theorem rq:Jt.A:=AN ⟨ZY,trivial⟩
def Jq:iq->Bool:=Jt.V
def Pg:iq->Prop:=Jt.O
theorem rA:Jt.B:=AO ⟨ZW,trivial⟩ (by kernel_rfl) (λ x=>by kernel_rfl)
def qi:DCode:=(.seq [1,0] (.region [oa 0 4 (.mv Ar)]) (.seq [1,0] (.seq [10,1,0] (.region [on 0 6 0,oa 1 7 (.len (.t 6)),on 2 8 1,oa 3 9 (.len (.t 8)),oa 4 10 (.bin .neq (.t 7) (.t 9))]) (.cond (.t 10) (.seq [4] (.region [oa 0 4 (.mv Ar)]) .ret) .skip)) (.seq [] (.seq [5,1,0] (.region [oi 0 5 0]) (.block 0 (.loop [0,1,5] 1 (.seq [5,1,0] (.seq [14,5,1,0] (.region [om 0 11 5,on 1 12 0,oa 2 13 (.len (.t 12)),oa 3 14 (.bin .lss (.t 11) (.t 13))]) (.cond (.t 14) .skip (.exit 0))) (.seq [5,1,0] (.block 1 (.seq [26,5,1,0] (.region [on 0 17 0,om 1 18 5,xA 2 19 (.indexA 5 (.t 17) (.t 18)) (rg 2),xA 3 20 (.loadH (some 5) (.t 19)) (rg 3),on 4 21 1,om 5 22 5,xA 6 23 (.indexA 5 (.t 21) (.t 22)) [4,5],xA 7 24 (.loadH (some 5) (.t 23)) [4,5,6],xF 8 25 Jt [(.t 20),(.t 24)] (rg 8),xA 9 26 (.un .not (.t 25)) (rg 9)]) (.cond (.t 26) (.seq [4] (.region [oa 0 4 (.mv Ar)]) .ret) .skip))) (.region [om 0 15 5,oa 1 16 (.bin .add (.t 15) AF),om 2 5 16])))))) (.seq [4] (.region [oa 0 4 (.mv AZ)]) .ret))))
def Jb:Fn:=⟨⟨2,27,0,true,[.tmp 4],qi⟩,[.one .frz (.sl AY),.one .frz (.sl AY)],.one (.one .own (.bool))⟩
theorem pQ:Jb.A:=AN ⟨rq,trivial⟩
def SJ:iz->Bool:=Jb.V
def Sr:iz->Prop:=Jb.O
theorem pe:Jb.B:=AO ⟨rA,trivial⟩ (by kernel_rfl) (λ x=>by kernel_rfl)
end
section
set_option maxRecDepth 100000
theorem p6 (x):Ko x=(bSel (iLt (iSub .i64 x.2 (lLen x.1)) 0) (-1) (iSub .i64 x.2 (lLen x.1))):=(Ji.v x).trans (by kernel_rfl)
theorem pH (x):Sw x=True:=(Ji.o x).trans (by kernel_rfl)
theorem oA (x):Eu x=(x.1,x.2.1,x.2.2.1,x.2.2.2):=(G2.v x).trans (by kernel_rfl)
theorem oe (x):Nh x=True:=(G2.o x).trans (by kernel_rfl)
theorem sz (x):Fa x=(x.1,(Eu (x.2.1,x.2.2.1,x.2.2.2.1,x.2.2.2.2)).1,(Eu (x.2.1,x.2.2.1,x.2.2.2.1,x.2.2.2.2)).2.1,(Eu (x.2.1,x.2.2.1,x.2.2.2.1,x.2.2.2.2)).2.2.1,(Eu (x.2.1,x.2.2.1,x.2.2.2.1,x.2.2.2.2)).2.2.2):=(Jr.v x).trans (by kernel_rfl)
theorem qE (x):Pm x=(Nh (x.2.1,x.2.2.1,x.2.2.2.1,x.2.2.2.2)):=(Jr.o x).trans (by kernel_rfl)
theorem o7 (x):SN x=(Ap (fun(x0:D8)=>(iLt x0.2 (lLen x))) (fun(x0:D8)=>((lSet x0.1 (iNat x0.2) ((Fa ((lGet x (iNat x0.2) (0,0,0,0,0)).1,(lGet x (iNat x0.2) (0,0,0,0,0)).2.1,(lGet x (iNat x0.2) (0,0,0,0,0)).2.2.1,(lGet x (iNat x0.2) (0,0,0,0,0)).2.2.2.1,(lGet x (iNat x0.2) (0,0,0,0,0)).2.2.2.2)).1,(Fa ((lGet x (iNat x0.2) (0,0,0,0,0)).1,(lGet x (iNat x0.2) (0,0,0,0,0)).2.1,(lGet x (iNat x0.2) (0,0,0,0,0)).2.2.1,(lGet x (iNat x0.2) (0,0,0,0,0)).2.2.2.1,(lGet x (iNat x0.2) (0,0,0,0,0)).2.2.2.2)).2.1,(Fa ((lGet x (iNat x0.2) (0,0,0,0,0)).1,(lGet x (iNat x0.2) (0,0,0,0,0)).2.1,(lGet x (iNat x0.2) (0,0,0,0,0)).2.2.1,(lGet x (iNat x0.2) (0,0,0,0,0)).2.2.2.1,(lGet x (iNat x0.2) (0,0,0,0,0)).2.2.2.2)).2.2.1,(Fa ((lGet x (iNat x0.2) (0,0,0,0,0)).1,(lGet x (iNat x0.2) (0,0,0,0,0)).2.1,(lGet x (iNat x0.2) (0,0,0,0,0)).2.2.1,(lGet x (iNat x0.2) (0,0,0,0,0)).2.2.2.1,(lGet x (iNat x0.2) (0,0,0,0,0)).2.2.2.2)).2.2.2.1,(Fa ((lGet x (iNat x0.2) (0,0,0,0,0)).1,(lGet x (iNat x0.2) (0,0,0,0,0)).2.1,(lGet x (iNat x0.2) (0,0,0,0,0)).2.2.1,(lGet x (iNat x0.2) (0,0,0,0,0)).2.2.2.1,(lGet x (iNat x0.2) (0,0,0,0,0)).2.2.2.2)).2.2.2.2)),(iAdd .i64 x0.2 1))) ((lRep (lLen x) (0,0,0,0,0)),0)).1:=(Je.v x).trans (by kernel_rfl)
theorem p8 (x):Sv x=((((0:Int)<=(lLen x))/\(AK ((Int.toNat (lLen x))*5)))/\(LoopOk (fun(x0:D8)=>(iLt x0.2 (lLen x))) (fun(x0:D8)=>((lSet x0.1 (iNat x0.2) ((Fa ((lGet x (iNat x0.2) (0,0,0,0,0)).1,(lGet x (iNat x0.2) (0,0,0,0,0)).2.1,(lGet x (iNat x0.2) (0,0,0,0,0)).2.2.1,(lGet x (iNat x0.2) (0,0,0,0,0)).2.2.2.1,(lGet x (iNat x0.2) (0,0,0,0,0)).2.2.2.2)).1,(Fa ((lGet x (iNat x0.2) (0,0,0,0,0)).1,(lGet x (iNat x0.2) (0,0,0,0,0)).2.1,(lGet x (iNat x0.2) (0,0,0,0,0)).2.2.1,(lGet x (iNat x0.2) (0,0,0,0,0)).2.2.2.1,(lGet x (iNat x0.2) (0,0,0,0,0)).2.2.2.2)).2.1,(Fa ((lGet x (iNat x0.2) (0,0,0,0,0)).1,(lGet x (iNat x0.2) (0,0,0,0,0)).2.1,(lGet x (iNat x0.2) (0,0,0,0,0)).2.2.1,(lGet x (iNat x0.2) (0,0,0,0,0)).2.2.2.1,(lGet x (iNat x0.2) (0,0,0,0,0)).2.2.2.2)).2.2.1,(Fa ((lGet x (iNat x0.2) (0,0,0,0,0)).1,(lGet x (iNat x0.2) (0,0,0,0,0)).2.1,(lGet x (iNat x0.2) (0,0,0,0,0)).2.2.1,(lGet x (iNat x0.2) (0,0,0,0,0)).2.2.2.1,(lGet x (iNat x0.2) (0,0,0,0,0)).2.2.2.2)).2.2.2.1,(Fa ((lGet x (iNat x0.2) (0,0,0,0,0)).1,(lGet x (iNat x0.2) (0,0,0,0,0)).2.1,(lGet x (iNat x0.2) (0,0,0,0,0)).2.2.1,(lGet x (iNat x0.2) (0,0,0,0,0)).2.2.2.1,(lGet x (iNat x0.2) (0,0,0,0,0)).2.2.2.2)).2.2.2.2)),(iAdd .i64 x0.2 1))) (fun(x0:D8)=>(((iLt x0.2 (lLen x))=true->((((0:Int)<=x0.2)/\(x0.2<(((List.length x):Int))))/\(((iNat x0.2)<(List.length x))/\((Pm ((lGet x (iNat x0.2) (0,0,0,0,0)).1,(lGet x (iNat x0.2) (0,0,0,0,0)).2.1,(lGet x (iNat x0.2) (0,0,0,0,0)).2.2.1,(lGet x (iNat x0.2) (0,0,0,0,0)).2.2.2.1,(lGet x (iNat x0.2) (0,0,0,0,0)).2.2.2.2))/\((((0:Int)<=x0.2)/\(x0.2<(((List.length x0.1):Int))))/\((iNat x0.2)<(List.length x0.1)))))))/\((iLt x0.2 (lLen x))=false->True))) ((lRep (lLen x) (0,0,0,0,0)),0))):=(Je.o x).trans (by kernel_rfl)
theorem lX (x):Ng x=(bAnd (Dx (x.1,x.2.1,x.2.2.1,x.2.2.2)) (bOr (iEq x.1 6) (iEq x.1 7))):=(GW.v x).trans (by kernel_rfl)
theorem lr (x):RG x=(Lx (x.1,x.2.1,x.2.2.1,x.2.2.2)):=(GW.o x).trans (by kernel_rfl)
theorem sx (x):Jz x=(bNot (iLt (Ap (fun(x0:Aq)=>(bAnd (iLt x0.2 (lLen x)) (bNot (bOr (bNot (BZ ((lGet x (iNat x0.2) (0,0,0,0,0)).1,0,31))) (bOr (iEq (iAnd .i64 (iShr .i64 x0.1 (lGet x (iNat x0.2) (0,0,0,0,0)).1) 1) 1) (bOr (bNot (Dx ((lGet x (iNat x0.2) (0,0,0,0,0)).2.1,(lGet x (iNat x0.2) (0,0,0,0,0)).2.2.1,(lGet x (iNat x0.2) (0,0,0,0,0)).2.2.2.1,(lGet x (iNat x0.2) (0,0,0,0,0)).2.2.2.2))) (bOr (iEq (lGet x (iNat x0.2) (0,0,0,0,0)).2.1 1) (Ng ((lGet x (iNat x0.2) (0,0,0,0,0)).2.1,(lGet x (iNat x0.2) (0,0,0,0,0)).2.2.1,(lGet x (iNat x0.2) (0,0,0,0,0)).2.2.2.1,(lGet x (iNat x0.2) (0,0,0,0,0)).2.2.2.2))))))))) (fun(x0:Aq)=>((iOr .i64 x0.1 (iShl .i64 1 (lGet x (iNat x0.2) (0,0,0,0,0)).1)),(iAdd .i64 x0.2 1))) (0,0)).2 (lLen x))):=(FG.v x).trans (by kernel_rfl)
theorem sk (x):Pn x=(LoopOk (fun(x0:Aq)=>(bAnd (iLt x0.2 (lLen x)) (bNot (bOr (bNot (BZ ((lGet x (iNat x0.2) (0,0,0,0,0)).1,0,31))) (bOr (iEq (iAnd .i64 (iShr .i64 x0.1 (lGet x (iNat x0.2) (0,0,0,0,0)).1) 1) 1) (bOr (bNot (Dx ((lGet x (iNat x0.2) (0,0,0,0,0)).2.1,(lGet x (iNat x0.2) (0,0,0,0,0)).2.2.1,(lGet x (iNat x0.2) (0,0,0,0,0)).2.2.2.1,(lGet x (iNat x0.2) (0,0,0,0,0)).2.2.2.2))) (bOr (iEq (lGet x (iNat x0.2) (0,0,0,0,0)).2.1 1) (Ng ((lGet x (iNat x0.2) (0,0,0,0,0)).2.1,(lGet x (iNat x0.2) (0,0,0,0,0)).2.2.1,(lGet x (iNat x0.2) (0,0,0,0,0)).2.2.2.1,(lGet x (iNat x0.2) (0,0,0,0,0)).2.2.2.2))))))))) (fun(x0:Aq)=>((iOr .i64 x0.1 (iShl .i64 1 (lGet x (iNat x0.2) (0,0,0,0,0)).1)),(iAdd .i64 x0.2 1))) (fun(x0:Aq)=>(((iLt x0.2 (lLen x))=true->((((0:Int)<=x0.2)/\(x0.2<(((List.length x):Int))))/\(((iNat x0.2)<(List.length x))/\(((((0:Int)<=x0.2)/\(x0.2<(((List.length x):Int))))/\(((iNat x0.2)<(List.length x))/\((Fb ((lGet x (iNat x0.2) (0,0,0,0,0)).1,0,31))/\(((bNot (BZ ((lGet x (iNat x0.2) (0,0,0,0,0)).1,0,31)))=true->True)/\((bNot (BZ ((lGet x (iNat x0.2) (0,0,0,0,0)).1,0,31)))=false->((((0:Int)<=x0.2)/\(x0.2<(((List.length x):Int))))/\(((iNat x0.2)<(List.length x))/\(((0:Int)<=(lGet x (iNat x0.2) (0,0,0,0,0)).1)/\(((iEq (iAnd .i64 (iShr .i64 x0.1 (lGet x (iNat x0.2) (0,0,0,0,0)).1) 1) 1)=true->True)/\((iEq (iAnd .i64 (iShr .i64 x0.1 (lGet x (iNat x0.2) (0,0,0,0,0)).1) 1) 1)=false->((Lx ((lGet x (iNat x0.2) (0,0,0,0,0)).2.1,(lGet x (iNat x0.2) (0,0,0,0,0)).2.2.1,(lGet x (iNat x0.2) (0,0,0,0,0)).2.2.2.1,(lGet x (iNat x0.2) (0,0,0,0,0)).2.2.2.2))/\(((bNot (Dx ((lGet x (iNat x0.2) (0,0,0,0,0)).2.1,(lGet x (iNat x0.2) (0,0,0,0,0)).2.2.1,(lGet x (iNat x0.2) (0,0,0,0,0)).2.2.2.1,(lGet x (iNat x0.2) (0,0,0,0,0)).2.2.2.2)))=true->True)/\((bNot (Dx ((lGet x (iNat x0.2) (0,0,0,0,0)).2.1,(lGet x (iNat x0.2) (0,0,0,0,0)).2.2.1,(lGet x (iNat x0.2) (0,0,0,0,0)).2.2.2.1,(lGet x (iNat x0.2) (0,0,0,0,0)).2.2.2.2)))=false->(((iEq (lGet x (iNat x0.2) (0,0,0,0,0)).2.1 1)=true->True)/\((iEq (lGet x (iNat x0.2) (0,0,0,0,0)).2.1 1)=false->(RG ((lGet x (iNat x0.2) (0,0,0,0,0)).2.1,(lGet x (iNat x0.2) (0,0,0,0,0)).2.2.1,(lGet x (iNat x0.2) (0,0,0,0,0)).2.2.2.1,(lGet x (iNat x0.2) (0,0,0,0,0)).2.2.2.2)))))))))))))))))/\(((bOr (bNot (BZ ((lGet x (iNat x0.2) (0,0,0,0,0)).1,0,31))) (bOr (iEq (iAnd .i64 (iShr .i64 x0.1 (lGet x (iNat x0.2) (0,0,0,0,0)).1) 1) 1) (bOr (bNot (Dx ((lGet x (iNat x0.2) (0,0,0,0,0)).2.1,(lGet x (iNat x0.2) (0,0,0,0,0)).2.2.1,(lGet x (iNat x0.2) (0,0,0,0,0)).2.2.2.1,(lGet x (iNat x0.2) (0,0,0,0,0)).2.2.2.2))) (bOr (iEq (lGet x (iNat x0.2) (0,0,0,0,0)).2.1 1) (Ng ((lGet x (iNat x0.2) (0,0,0,0,0)).2.1,(lGet x (iNat x0.2) (0,0,0,0,0)).2.2.1,(lGet x (iNat x0.2) (0,0,0,0,0)).2.2.2.1,(lGet x (iNat x0.2) (0,0,0,0,0)).2.2.2.2))))))=true->True)/\((bOr (bNot (BZ ((lGet x (iNat x0.2) (0,0,0,0,0)).1,0,31))) (bOr (iEq (iAnd .i64 (iShr .i64 x0.1 (lGet x (iNat x0.2) (0,0,0,0,0)).1) 1) 1) (bOr (bNot (Dx ((lGet x (iNat x0.2) (0,0,0,0,0)).2.1,(lGet x (iNat x0.2) (0,0,0,0,0)).2.2.1,(lGet x (iNat x0.2) (0,0,0,0,0)).2.2.2.1,(lGet x (iNat x0.2) (0,0,0,0,0)).2.2.2.2))) (bOr (iEq (lGet x (iNat x0.2) (0,0,0,0,0)).2.1 1) (Ng ((lGet x (iNat x0.2) (0,0,0,0,0)).2.1,(lGet x (iNat x0.2) (0,0,0,0,0)).2.2.1,(lGet x (iNat x0.2) (0,0,0,0,0)).2.2.2.1,(lGet x (iNat x0.2) (0,0,0,0,0)).2.2.2.2))))))=false->((((0:Int)<=x0.2)/\(x0.2<(((List.length x):Int))))/\(((iNat x0.2)<(List.length x))/\((0:Int)<=(lGet x (iNat x0.2) (0,0,0,0,0)).1)))))))))/\((iLt x0.2 (lLen x))=false->True))) (0,0)):=(FG.o x).trans (by kernel_rfl)
theorem tV (x):JB x=(iAnd .i64 (iShr .i64 x.1 x.2) 1):=(Ha.v x).trans (by kernel_rfl)
theorem uV (x):V9 x=((0:Int)<=x.2):=(Ha.o x).trans (by kernel_rfl)
theorem aC (x):Gi x=(bNot (iLt (Ap (fun(x0:Aq)=>(bAnd (iLt x0.2 (lLen x)) (bAnd (bNot (bOr (iLt (lGet x (iNat x0.2) (0,0,0,0,0)).1 0) (bOr (iGt (lGet x (iNat x0.2) (0,0,0,0,0)).1 31) (bOr (iEq (JB (x0.1,(lGet x (iNat x0.2) (0,0,0,0,0)).1)) 1) (bNot (Dp ((lGet x (iNat x0.2) (0,0,0,0,0)).2.1,(lGet x (iNat x0.2) (0,0,0,0,0)).2.2.1,(lGet x (iNat x0.2) (0,0,0,0,0)).2.2.2.1,(lGet x (iNat x0.2) (0,0,0,0,0)).2.2.2.2))))))) (bNot (bOr (iEq (lGet x (iNat x0.2) (0,0,0,0,0)).2.1 1) (bOr (iEq (lGet x (iNat x0.2) (0,0,0,0,0)).2.1 6) (iEq (lGet x (iNat x0.2) (0,0,0,0,0)).2.1 7))))))) (fun(x0:Aq)=>((iOr .i64 x0.1 (iShl .i64 1 (lGet x (iNat x0.2) (0,0,0,0,0)).1)),(iAdd .i64 x0.2 1))) (0,0)).2 (lLen x))):=(FJ.v x).trans (by kernel_rfl)
theorem rK (x):Pj x=(LoopOk (fun(x0:Aq)=>(bAnd (iLt x0.2 (lLen x)) (bAnd (bNot (bOr (iLt (lGet x (iNat x0.2) (0,0,0,0,0)).1 0) (bOr (iGt (lGet x (iNat x0.2) (0,0,0,0,0)).1 31) (bOr (iEq (JB (x0.1,(lGet x (iNat x0.2) (0,0,0,0,0)).1)) 1) (bNot (Dp ((lGet x (iNat x0.2) (0,0,0,0,0)).2.1,(lGet x (iNat x0.2) (0,0,0,0,0)).2.2.1,(lGet x (iNat x0.2) (0,0,0,0,0)).2.2.2.1,(lGet x (iNat x0.2) (0,0,0,0,0)).2.2.2.2))))))) (bNot (bOr (iEq (lGet x (iNat x0.2) (0,0,0,0,0)).2.1 1) (bOr (iEq (lGet x (iNat x0.2) (0,0,0,0,0)).2.1 6) (iEq (lGet x (iNat x0.2) (0,0,0,0,0)).2.1 7))))))) (fun(x0:Aq)=>((iOr .i64 x0.1 (iShl .i64 1 (lGet x (iNat x0.2) (0,0,0,0,0)).1)),(iAdd .i64 x0.2 1))) (fun(x0:Aq)=>(((iLt x0.2 (lLen x))=true->((((0:Int)<=x0.2)/\(x0.2<(((List.length x):Int))))/\(((iNat x0.2)<(List.length x))/\((((iLt (lGet x (iNat x0.2) (0,0,0,0,0)).1 0)=true->True)/\((iLt (lGet x (iNat x0.2) (0,0,0,0,0)).1 0)=false->(((iGt (lGet x (iNat x0.2) (0,0,0,0,0)).1 31)=true->True)/\((iGt (lGet x (iNat x0.2) (0,0,0,0,0)).1 31)=false->((V9 (x0.1,(lGet x (iNat x0.2) (0,0,0,0,0)).1))/\(((iEq (JB (x0.1,(lGet x (iNat x0.2) (0,0,0,0,0)).1)) 1)=true->True)/\((iEq (JB (x0.1,(lGet x (iNat x0.2) (0,0,0,0,0)).1)) 1)=false->(Nj ((lGet x (iNat x0.2) (0,0,0,0,0)).2.1,(lGet x (iNat x0.2) (0,0,0,0,0)).2.2.1,(lGet x (iNat x0.2) (0,0,0,0,0)).2.2.2.1,(lGet x (iNat x0.2) (0,0,0,0,0)).2.2.2.2)))))))))/\(((bOr (iLt (lGet x (iNat x0.2) (0,0,0,0,0)).1 0) (bOr (iGt (lGet x (iNat x0.2) (0,0,0,0,0)).1 31) (bOr (iEq (JB (x0.1,(lGet x (iNat x0.2) (0,0,0,0,0)).1)) 1) (bNot (Dp ((lGet x (iNat x0.2) (0,0,0,0,0)).2.1,(lGet x (iNat x0.2) (0,0,0,0,0)).2.2.1,(lGet x (iNat x0.2) (0,0,0,0,0)).2.2.2.1,(lGet x (iNat x0.2) (0,0,0,0,0)).2.2.2.2))))))=true->True)/\((bOr (iLt (lGet x (iNat x0.2) (0,0,0,0,0)).1 0) (bOr (iGt (lGet x (iNat x0.2) (0,0,0,0,0)).1 31) (bOr (iEq (JB (x0.1,(lGet x (iNat x0.2) (0,0,0,0,0)).1)) 1) (bNot (Dp ((lGet x (iNat x0.2) (0,0,0,0,0)).2.1,(lGet x (iNat x0.2) (0,0,0,0,0)).2.2.1,(lGet x (iNat x0.2) (0,0,0,0,0)).2.2.2.1,(lGet x (iNat x0.2) (0,0,0,0,0)).2.2.2.2))))))=false->(((bOr (iEq (lGet x (iNat x0.2) (0,0,0,0,0)).2.1 1) (bOr (iEq (lGet x (iNat x0.2) (0,0,0,0,0)).2.1 6) (iEq (lGet x (iNat x0.2) (0,0,0,0,0)).2.1 7)))=true->True)/\((bOr (iEq (lGet x (iNat x0.2) (0,0,0,0,0)).2.1 1) (bOr (iEq (lGet x (iNat x0.2) (0,0,0,0,0)).2.1 6) (iEq (lGet x (iNat x0.2) (0,0,0,0,0)).2.1 7)))=false->((0:Int)<=(lGet x (iNat x0.2) (0,0,0,0,0)).1)))))))))/\((iLt x0.2 (lLen x))=false->True))) (0,0)):=(FJ.o x).trans (by kernel_rfl)
theorem qK (x):Jq x=(bAnd (bNot (iNe x.1.1 x.2.1)) (bNot (bNot (HI ((x.1.2.1,x.1.2.2.1,x.1.2.2.2.1,x.1.2.2.2.2),x.2.2.1,x.2.2.2.1,x.2.2.2.2.1,x.2.2.2.2.2))))):=(Jt.v x).trans (by kernel_rfl)
theorem q9 (x):Pg x=(((iNe x.1.1 x.2.1)=true->True)/\((iNe x.1.1 x.2.1)=false->(Nf ((x.1.2.1,x.1.2.2.1,x.1.2.2.2.1,x.1.2.2.2.2),x.2.2.1,x.2.2.2.1,x.2.2.2.2.1,x.2.2.2.2.2)))):=(Jt.o x).trans (by kernel_rfl)
theorem pB (x):SJ x=(bAnd (bNot (iNe (lLen x.1) (lLen x.2))) (bNot (iLt (Ap (fun(x0:Int)=>(bAnd (iLt x0 (lLen x.1)) (bNot (bNot (Jq (((lGet x.1 (iNat x0) (0,0,0,0,0)).1,(lGet x.1 (iNat x0) (0,0,0,0,0)).2.1,(lGet x.1 (iNat x0) (0,0,0,0,0)).2.2.1,(lGet x.1 (iNat x0) (0,0,0,0,0)).2.2.2.1,(lGet x.1 (iNat x0) (0,0,0,0,0)).2.2.2.2),(lGet x.2 (iNat x0) (0,0,0,0,0)).1,(lGet x.2 (iNat x0) (0,0,0,0,0)).2.1,(lGet x.2 (iNat x0) (0,0,0,0,0)).2.2.1,(lGet x.2 (iNat x0) (0,0,0,0,0)).2.2.2.1,(lGet x.2 (iNat x0) (0,0,0,0,0)).2.2.2.2)))))) (fun(x0:Int)=>(iAdd .i64 x0 1)) 0) (lLen x.1)))):=(Jb.v x).trans (by kernel_rfl)
theorem o8 (x):Sr x=(((iNe (lLen x.1) (lLen x.2))=true->True)/\((iNe (lLen x.1) (lLen x.2))=false->(LoopOk (fun(x0:Int)=>(bAnd (iLt x0 (lLen x.1)) (bNot (bNot (Jq (((lGet x.1 (iNat x0) (0,0,0,0,0)).1,(lGet x.1 (iNat x0) (0,0,0,0,0)).2.1,(lGet x.1 (iNat x0) (0,0,0,0,0)).2.2.1,(lGet x.1 (iNat x0) (0,0,0,0,0)).2.2.2.1,(lGet x.1 (iNat x0) (0,0,0,0,0)).2.2.2.2),(lGet x.2 (iNat x0) (0,0,0,0,0)).1,(lGet x.2 (iNat x0) (0,0,0,0,0)).2.1,(lGet x.2 (iNat x0) (0,0,0,0,0)).2.2.1,(lGet x.2 (iNat x0) (0,0,0,0,0)).2.2.2.1,(lGet x.2 (iNat x0) (0,0,0,0,0)).2.2.2.2)))))) (fun(x0:Int)=>(iAdd .i64 x0 1)) (fun(x0:Int)=>(((iLt x0 (lLen x.1))=true->((((0:Int)<=x0)/\(x0<(((List.length x.1):Int))))/\(((iNat x0)<(List.length x.1))/\((((0:Int)<=x0)/\(x0<(((List.length x.2):Int))))/\(((iNat x0)<(List.length x.2))/\(Pg (((lGet x.1 (iNat x0) (0,0,0,0,0)).1,(lGet x.1 (iNat x0) (0,0,0,0,0)).2.1,(lGet x.1 (iNat x0) (0,0,0,0,0)).2.2.1,(lGet x.1 (iNat x0) (0,0,0,0,0)).2.2.2.1,(lGet x.1 (iNat x0) (0,0,0,0,0)).2.2.2.2),(lGet x.2 (iNat x0) (0,0,0,0,0)).1,(lGet x.2 (iNat x0) (0,0,0,0,0)).2.1,(lGet x.2 (iNat x0) (0,0,0,0,0)).2.2.1,(lGet x.2 (iNat x0) (0,0,0,0,0)).2.2.2.1,(lGet x.2 (iNat x0) (0,0,0,0,0)).2.2.2.2)))))))/\((iLt x0 (lLen x.1))=false->True))) 0))):=(Jb.o x).trans (by kernel_rfl)
attribute [irreducible] Ko Sw Eu Nh Fa Pm SN Sv Ng RG Jz Pn JB V9 Gi Pj Jq Pg SJ Sr
end
end
end Go.Ag
