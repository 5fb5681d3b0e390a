/- Part 5 of what FnPressed needs. No conditions. -/
import Derived.WalkKit
import Derived.ProofKit
import Derived.OpenShut
import Derived.Carry
import Derived.ChangeSame
import Derived.Attr
import Derived.KernelRfl
import Derived.Test.YtbkpfpcnjpggaaaGreatLibD
namespace Go.Ag
set_option linter.unusedSimpArgs false
set_option linter.unusedVariables false
noncomputable section
def XC(p:Cb)(D:Mp):Prop:=∀ (args:List DV) (g:PX) (v:DV) (Q:PV->List (List PV)->Prop),D args=some (g,v)->g.den->(∀ H,Q v.enc H)->p (DV.encL args) [] Q
def DN(p:Cb)(D:CL):Prop:=∀ (args:List DV) (b:List (List DV)) (g:PX) (v:DV) (H:List (List DV)) (Q:PV->List (List PV)->Prop),D args b=some (g,v,H)->g.den->Q v.enc (GG (IV b H))->p (DV.encL args) (GG b) Q
inductive ObD where
 |nv (p:Cb) (D:Mp)
 |wp (p:Cb) (D:CL)
def ObD.sound:ObD->Prop
 |.nv p D=>XC p D
 |.wp p D=>DN p D
def DOp.obs:DOp->List ObD
 |.a _ _ _=>[]
 |.aw _ _ _ _=>[]
 |.call _ _ p D _=>[.nv p D]
 |.mark _ _ _ _=>[]
 |.callp _ _ p D _=>[.wp p D]
 |.callv _ _ p D _ _ _=>[.wp p D]
 |.fz _=>[]
 |.clm _ _ _=>[]
 |.fzb _ _=>[]
def W3:List DOper->List ObD
 |[]=>[]
 |o::r=>o.op.obs++W3 r
def DCode.obs:DCode->List ObD
 |.skip=>[]
 |.region ops=>W3 ops
 |.regionU ops=>W3 ops
 |.seq _ a b=>a.obs++b.obs
 |.cond _ a b=>a.obs++b.obs
 |.block _ a=>a.obs
 |.scope a=>a.obs
 |.loop _ _ a=>a.obs
 |.exit _=>[]
 |.ret=>[]
def AllD:List ObD->Prop
 |[]=>True
 |o::r=>o.sound/\AllD r
theorem AllD.app:∀ {a b:List ObD},AllD (a++b)->AllD a/\AllD b
 |[],_,h=>⟨trivial,h⟩
 |_::_,_,⟨h1,h2⟩=>⟨⟨h1,(AllD.app h2).1⟩,(AllD.app h2).2⟩
theorem Xo{d:DS}{s:PS}(hs:ES d s):∀ (args:List Opnd),ID (FK d.sl args)=true->args.map (·.pev s.sl)=DV.encL (FK d.sl args)
 |[],_=>rfl
 | x::r,h=>by
   simp only[FK,ID,Ah] at h
   simp only[Cr,FK,DV.encL,Xo hs r h.2]
   rw[(x.dev_ev hs).of (by intro e;rw[e] at h;cases h.1)]
theorem Pe:∀ (l:List PV),l.any PV.hasPtr=PV.hasPtrL l
 |[]=>rfl
 |v::r=>by simp only[List.any_cons,PV.hasPtrL,Pe r]
theorem Xt:∀ (l:List PV),l.map PV.fz=PV.fzL l
 |[]=>rfl
 |v::r=>by simp only[Cr,PV.fzL,Xt r]
theorem aC:∀ (l:List PV),(l.all λ v=>!v.hold)=!PV.holdL l
 |[]=>rfl
 |v::r=>by simp only[GB,PV.holdL,aC r,Bool.not_or]
mutual
theorem lj:∀ (v:DV),v.deep=true->v.enc.deep=true
 |.undef,_|.bool _,_|.int _ _,_|.str _,_|.ifc _,_|.ptr _ _,_=>rfl
 |.nil q,h=>by cases q<;>first|rfl|cases h
 | .sl q r l,h=>by
   rw[DV.deep,Ah] at h
   obtain⟨h,h2⟩:=h
   cases q<;>first|(cases h;done)|exact aI r l h2
 |.agg cs,h=>aj cs h
 |.tup cs,h=>aj cs h
theorem aj:∀ (l:List DV),DV.deepL l=true->PV.deepL (DV.encL l)=true
 |[],_=>rfl
 | v::r,h=>by
   simp only[DV.deepL,Ah] at h
   simp only[DV.encL,PV.deepL,lj v h.1,aj r h.2,Dm]
end
theorem bO(v:DV):v.enc.retc=v.retc:=by
 cases v<;>first|rfl|skip
 case nil q=>cases q<;>rfl
 case sl q r l=>cases q<;>rfl
theorem mB:∀ (l:List DV),FM (DV.encL l)=JO l
 |[]=>rfl
 |v::r=>by simp only[DV.encL,FM,JO,bO v,mB r]
theorem ZaL(v:DV):v.enc.retok=v.retok:=by
 cases v<;>first|rfl|skip
 case nil q=>exact bO (.nil q)
 case sl q r l=>exact bO (.sl q r l)
 case agg cs=>exact mB cs
theorem Zbe{d:DS}{s:PS}(x:Opnd)(h:ES d s)(hk:∀ n,x= .t n->Bs d.sl n≠.any):ES (Fz x d).2 (fzOut x s).2:=by
 cases x with
 |c v=>exact h
 | t n=>
   simp only[Fz,Te,fzOut,Yn];have hg:=(h.sl.get n).of (hk n rfl);rw[hg,Jy,ZaL];by_cases ho:(Bs d.sl n).own=true
   . simp only[ho,AN];by_cases hr:(Bs d.sl n).retok=true
     . rw[Ac hr,Ac hr,<- XI];exact⟨(h.sl.put n (.inr rfl)).clr _,h.bx,h.hp⟩
     . rw[Ae hr,Ae hr];exact h
   . simp only[ho];exact h
theorem iB(v:DV):∀ (l:List DC) (k n:Nat),Bs l n= .any->k≠n->Bs (DX l k v) n= .any
 |[],_,_,_,_=>rfl
 |_::_,0,0,_,hn=>absurd rfl hn
 |_::_,0,_+1,h,_=>h
 |_::_,_+1,0,h,_=>h
 |_::r,k+1,n+1,h,hn=>iB v r k n h (by simpa using hn)
theorem im(hd:Hd):∀ (l:List DC) (n:Nat),Bs l n= .any->Bs (Dt hd l) n= .any
 |[],_,_=>rfl
 | c::_,0,h=>by
   have h:c.v= .any:=h
   simp only[Dt,h,DV.bor,AL,AQ,Bs]
 |_::r,n+1,h=>im hd r n h
theorem xH(x:Opnd)(d:DS)(n:Nat)(h:Bs d.sl n= .any):Bs (Fz x d).2.sl n= .any:=by
 cases x with
 |c v=>exact h
 | t k=>
   simp only[Fz,Te];split
   . rename_i ho;split
     . refine im _ _ _ (iB _ _ _ _ h ?_);rintro rfl;rw[h] at ho;cases ho
     . exact h
   . exact h
theorem iu:∀ (args:List Opnd) (d:DS) (n:Nat),Bs d.sl n= .any->Bs (E7 args d).sl n= .any
 |[],_,_,h=>h
 |x::r,d,n,h=>iu r _ n (xH x d n h)
theorem Wt:∀ (args:List Opnd) {d:DS} {s:PS},ES d s->(∀ x∈args,x.dev (E7 args d).sl≠.any)->ES (E7 args d) (fzArgs args s)
 |[],_,_,h,_=>h
 | x::r,d,s,h,hk=>by
   refine Wt r (Zbe x h λ n hx hn=>?_) λ y hy=>hk y (List.mem_cons_of_mem _ hy)
   subst hx
   exact hk (.t n) (G9 ..) (iu (.t n::r) d n hn)
theorem Wa{sl:List DC}:∀ {args:List Opnd},ID (FK sl args)=true->∀ x∈args,x.dev sl≠.any
 |[],_,_,hx=>by cases hx
 | a::r,h,x,hx=>by
   simp only[FK,ID,Ah] at h
   rcases Cz.mp hx with rfl|hx
   . intro e;rw[e] at h;cases h.1
   . exact Wa h.2 x hx
theorem DS.fzArgs_chg:∀ (args:List Opnd) (d:DS),ChgS d (E7 args d)
 |[],d=>ChgS.refl d
 |x::r,d=>(ChgS.fzOut x d).trans (DS.fzArgs_chg r _)
section
variable {E:AExit} {D':DS}
def Tl(E:AExit)(D':DS)(K:DS->DT)(k:PS->Prop):Prop:=∀ d s,ES d s->(K d).ok.den->(K d).lf=some (E,D')->k s
theorem ZbQ{A B:Type}(e:A=B)(h:List A=List B)(x:A)(l:List A):h.mp (x::l)=e.mp x::h.mp l:=by subst e;rfl
theorem Zdb{A B:Type}(e:A=B)(h:List A=List B):h.mp []=[]:=by subst e;rfl
theorem ZbM{A A' B B':Type}(e1:A=A')(e2:B=B')(h:(A×B)=(A'×B'))(x:A×B):h.mp x=(e1.mp x.1,e2.mp x.2):=by subst e1;subst e2;rfl
mutual
theorem nV:∀ (t:CT) (x:t.D),CT.enc t.nrm ((CT.D_nrm t).symm.mp x)=(CT.enc t x).ownr
 |.int _,_|.bool,_|.str,_|.ifc,_=>rfl
 | .sl r,l=>by
   show PV.sl .own _=PV.sl .own _
   rw[<- W7 r l];rfl
 | .slf r,l=>by
   show PV.sl .own _=PV.sl .own _
   rw[<- W7 r l];rfl
theorem nS:∀ (r:RT) (x:r.D),RT.enc r.nrm ((RT.D_nrm r).symm.mp x)=PV.ownrL (RT.enc r x)
 | .one t,x=>by
   show [CT.enc t.nrm ((CT.D_nrm t).symm.mp x)]=[(CT.enc t x).ownr]
   rw[nV t x]
 | .cons t r,x=>by
   have e:=ZbM (CT.D_nrm t).symm (RT.D_nrm r).symm (RT.D_nrm (.cons t r)).symm x
   show RT.enc (.cons t.nrm r.nrm) ((RT.D_nrm (.cons t r)).symm.mp x)=(CT.enc t x.1).ownr::PV.ownrL (RT.enc r x.2)
   rw[<- nV t x.1,<- nS r x.2]
   show CT.enc t.nrm ((RT.D_nrm (.cons t r)).symm.mp x).1::RT.enc r.nrm ((RT.D_nrm (.cons t r)).symm.mp x).2=_
   rw[show ((RT.D_nrm (.cons t r)).symm.mp x)=_ from e]
theorem W7:∀ (r:RT) (l:List r.D),(Yk r l).map (RT.enc r.nrm)=PV.ownrE (l.map (RT.enc r))
 | r,[]=>by
   unfold Yk
   rw[Zdb (RT.D_nrm r).symm];rfl
 | r,x::l=>by
   have i:=W7 r l
   unfold Yk at i ⊢
   rw[ZbQ (RT.D_nrm r).symm,Cr,Cr,i,nS r x];rfl
end
mutual
theorem oK:∀ (t:CT) (x:t.D),t.pl=true->(CT.enc t x).ownr=CT.enc t x
 |.int _,_,_|.bool,_,_|.str,_,_|.ifc,_,_=>rfl
 | .sl r,l,h=>by
   show PV.sl .own _=PV.sl .own _
   rw[cA r l h]
 |.slf _,_,h=>by cases h
theorem ow:∀ (r:RT) (x:r.D),r.pl=true->PV.ownrL (RT.enc r x)=RT.enc r x
 | .one t,x,h=>by
   show [(CT.enc t x).ownr]=[CT.enc t x]
   rw[oK t x h]
 | .cons t r,x,h=>by
   rw[RT.pl,Ah] at h
   show (CT.enc t x.1).ownr::PV.ownrL (RT.enc r x.2)=CT.enc t x.1::RT.enc r x.2
   rw[oK t x.1 h.1,ow r x.2 h.2]
theorem cA:∀ (r:RT) (l:List r.D),r.pl=true->PV.ownrE (l.map (RT.enc r))=l.map (RT.enc r)
 |_,[],_=>rfl
 |r,x::l,h=>by rw[Cr,PV.ownrE,ow r x h,cA r l h]
end
theorem lE(v:DV):v.nrm1.enc=v.enc.nrm1:=by
 cases v with
 | sl q r l=>
   cases q with
   | frz=>
     show (DV.nrm1 (.sl .frz r l)).enc=PV.sl .frz _;rw[DV.nrm1];split
     . rename_i h;show PV.sl .frz _=PV.sl .frz _;rw[cA r l h]
     . show PV.sl .frz _=PV.sl .frz _;rw[W7 r l]
   |_=>rfl
 |nil q=>cases q<;>rfl
 |_=>rfl
theorem kD:∀ l:List DV,DV.encL (DV.nrmA l)=PV.nrmA (DV.encL l)
 |[]=>rfl
 |v::r=>by simp only[DV.nrmA,DV.encL,PV.nrmA,lE v,kD r]
theorem mj(v:DV):v.nrm.enc=v.enc.nrm:=by
 cases v with
 | agg cs=>
   show PV.agg _=PV.agg _;rw[kD]
 |sl q r l=>exact lE _
 |nil q=>cases q<;>rfl
 |_=>rfl
theorem WU:∀ l:List DV,DV.encL (DV.nrmV l)=(DV.encL l).map PV.nrm
 |[]=>rfl
 |v::r=>by simp only[DV.nrmV,DV.encL,Cr,mj v,WU r]
theorem ZcC{D:Mp}{p:Cb}(hp:XC p D){args:List Opnd}{d d1:DS}{s:PS}{g:PX}{v:DV}{dst:Option Nat}{k:PS->Prop}(hs:ES d s)(h:ND D args d=some (g,v,d1))(hg:g.den)(hk:∀ s',ES (d1.put dst v) s'->k s'):cU p args dst k s:=by
 unfold ND at h;simp only at h;split at h
 . rename_i hc;simp only[Ah,BC] at hc;obtain⟨h1,h2⟩:=hc;split at h
   . rename_i g1 v1 hD;split at h
     . rename_i hr;simp only[Ah,BC,Cp] at hr;obtain⟨⟨hok,hnp⟩,hdp⟩:=hr;simp only[Ak,Al] at h;obtain⟨rfl,rfl,rfl⟩:=h;have e:=Xo hs args h1;refine⟨by rw[e,Pe,LJ,h2],by rw[e];exact Wc _ h1,?_⟩;rw[e,Pe,LJ,h2];simp only[AL,AQ];rw[Xt,<- PD,<- WU]
       refine hp _ _ _ _ hD hg λ H=>⟨?_,?_⟩
       . rw[V9,hnp,aC,RI];rcases hdp with h|h
         . simp[lj _ h]
         . simp[h]
       . rw[V9,hnp];simp only[AL,AQ];exact hk _ (hs.put dst v1)
     . cases h
   . cases h
 . cases h
theorem kN{D:Mp}{args:List Opnd}{d d1:DS}{g:PX}{v:DV}(h:ND D args d=some (g,v,d1)):d1=d/\ID (FK d.sl args)=true:=by
 unfold ND at h;simp only at h;split at h
 . rename_i hc;simp only[Ah] at hc;split at h
   . split at h
     . simp only[Ak,Al] at h;exact⟨h.2.2.symm,hc.1⟩
     . cases h
   . cases h
 . cases h
theorem dV(q:Ql):∀ es,(PV.sl q es).isH=q.isH'/\∀ j o,(PV.ep q es j o).isH=q.isH':=by
 intro es
 cases q with
 |bor hd p t=>cases hd<;>exact⟨rfl,λ _ _=>rfl⟩
 |pre hd p=>cases hd<;>exact⟨rfl,λ _ _=>rfl⟩
 |_=>exact⟨rfl,λ _ _=>rfl⟩
mutual
theorem bJ:∀ (v:DV),v.enc.isH=v.isH
 |.nil q=>(dV q []).1
 |.sl q r l=>(dV q _).1
 |.ep q r l j o=>(dV q _).2 j o
 |.agg cs=>aX cs
 |.tup vs=>aX vs
 |.any|.undef|.bool _|.int _ _|.str _|.ifc _|.box _ _|.ptr _ _=>rfl
theorem aX:∀ (l:List DV),PV.isHL (DV.encL l)=DV.isHL l
 |[]=>rfl
 |v::r=>by simp only[DV.encL,PV.isHL,DV.isHL,bJ v,aX r]
end
theorem EL.clrH:∀ {a:List DC} {b:List PV},EL a b->EL (SP a) (Go.Ag.clrH b)
 |[],[],_=>trivial
 | c :: a,p::b,h=>by
   refine⟨?_,EL.clrH h.2⟩
   by_cases hc:c.v.isH=true
   . rw[Ac hc];exact .inl rfl
   . rw[Ae hc]
     rcases h.1 with h1|h1
     . exact .inl h1
     . rw[h1,bJ,Ae hc];exact .inr rfl
theorem EL.all:∀ {a:List DC} {b:List PV},EL a b->DV.okL (BT a)=true->b=DV.encL (BT a)
 |[],[],_,_=>rfl
 | c::a,p::b,h,hk=>by
   simp only[BT,DV.okL,Ah] at hk
   rcases h.1 with h1|h1
   . rw[h1] at hk;cases hk.1
   . simp only[BT,DV.encL];rw[h1,EL.all h.2 hk.2]
theorem EB.all:∀ {a:List (List DC)} {b:List (List PV)},EB a b->Yo (HO a)=true->b=GG (HO a)
 |[],[],_,_=>rfl
 | c::a,p::b,h,hk=>by
   simp only[HO,Yo,Ah] at hk
   have hl:0<c.length:=by rw[<- RP];exact Dd hk.1.1
   simp only[HO,GG];rw[(h.1.to hl).all hk.1.2,EB.all h.2 hk.2]
theorem EL.mix:∀ (a:List DC) (vs:List DV),EL (NK a vs) (DV.encL (D9 (BT a) vs))
 |[],vs=>by simp only[NK,BT,D9];exact EL.news vs
 | c :: a,[]=>by
   have:∀ (a:List DC),EL a (DV.encL (BT a)):=by
    intro a
    induction a with
    |nil=>exact trivial
    |cons x r ih=>exact⟨.inr rfl,ih⟩
   exact this (c::a)
 | c::a,v::vs=>by
   simp only[NK,BT,D9];refine⟨?_,EL.mix a vs⟩;by_cases h:v.isAny=true
   . rw[Ac h,Ac h];exact .inr rfl
   . rw[Ae h,Ae h];exact .inr rfl
theorem EB.newsB:∀ (vs:List (List DV)),EB (Go.Ag.newsB vs) (GG vs)
 |[]=>trivial
 |v::r=>⟨.inr (EL.news v),EB.newsB r⟩
theorem EB.mix:∀ (a:List (List DC)) (vs:List (List DV)),EB (NV a vs) (GG (IV (HO a) vs))
 |[],vs=>by simp only[NV,HO,IV];exact EB.newsB vs
 | c :: a,[]=>by
   have h0:∀ (a:List DC),NK a []=a:=by intro a;cases a<;>rfl
   have h1:∀ (a:List DC),D9 (BT a) []=BT a:=by intro a;cases a<;>rfl
   have:∀ (a:List (List DC)),EB a (GG (HO a)):=by
    intro a
    induction a with
    |nil=>exact trivial
    | cons x r ih=>
      refine⟨.inr ?_,ih⟩;have:=EL.mix x [];rw[h0,h1] at this;exact this
   exact this (c::a)
 | c::a,v::vs=>by
   simp only[NV,HO,IV];exact⟨.inr (EL.mix c v),EB.mix a vs⟩
theorem ae:∀ (a:List (List DV)),(GG a).length=a.length
 |[]=>rfl
 |_::r=>by simp only[GG,AH,ae r]
theorem jH:∀ (a vs:List (List DV)),a.length<=(IV a vs).length
 |[],_=>GC _
 |_::_,[]=>BI _
 |_::a,_::vs=>by simp only[IV,AH];exact Nat.succ_le_succ (jH a vs)
theorem kB{D:CL}{p:Cb}(hp:DN p D){args:List Opnd}{d d1:DS}{s:PS}{g:PX}{v:DV}{dst:Option Nat}{k:PS->Prop}(hs:ES d s)(h:KX D args d=some (g,v,d1))(hg:g.den)(hk:∀ s',ES (d1.put dst v) s'->k s'):SD p args dst k s:=by
 unfold KX at h;simp only at h;split at h
 . rename_i hc;simp only[Ah,BC] at hc;obtain⟨⟨h1,h2⟩,h3⟩:=hc;have e:=Xo hs args h1;have eh:=hs.hp.all h3
   have hun:((DV.encL (FK d.sl args)).all λ v=>!v.hold)=true:=by rw[aC,RI,h2];rfl
   split at h
   . rename_i hpt;split at h
     . rename_i g1 v1 H hD;split at h
       . rename_i hr;simp only[Ah,BC] at hr;simp only[Ak,Al] at h;obtain⟨rfl,rfl,rfl⟩:=h;refine⟨by rw[e];exact Wc _ h1,?_⟩;rw[e,Pe,LJ,hpt];simp only[AN];refine⟨hun,?_⟩;rw[Xt,<- PD,<- WU,eh];have hE:ES { d with sl:=SP d.sl,hp:=NV d.hp H } { s with sl:=Go.Ag.clrH s.sl,hp:=GG (IV (HO d.hp) H) }:=⟨hs.sl.clrH,hs.bx,EB.mix d.hp H⟩;refine hp _ _ _ _ _ _ hD hg ⟨?_,by rw[V9];exact hr.2,hk _ (hE.put dst v1)⟩;rw[ae,ae];exact jH _ _
       . cases h
     . cases h
   . rename_i hpt;split at h
     . rename_i hl;have hl:d.hp=[]:=FA (by simpa using hl);split at h
       . rename_i g1 v1 H hD;split at h
         . rename_i hr;simp only[Ak,Al] at h;obtain⟨rfl,rfl,rfl⟩:=h
           have hv:v1= .ptr 0 0:=by
            unfold DV.isP0 at hr;split at hr
            . rfl
            . cases hr
           subst hv
           have hsl:s.hp=[]:=by rw[eh,hl];rfl
           refine⟨by rw[e];exact Wc _ h1,?_⟩;rw[e,Pe,LJ];rw[Ae (by simpa using hpt)];rw[Xt,<- PD,<- WU]
           have:=hp _ [] _ _ _ (λ r H=>(((!r.hasPtr&&r.deep)||(DV.encL (FK d.sl args)).all λ v=>!v.hold)=true)/\k (PS.put { s with hp:=if r.hasPtr then s.hp++H else s.hp } dst (if r.hasPtr then r.shift s.hp.length else r))) hD hg ⟨by rw[hun];simp,by
            have hE:ES { d with hp:=newsB H } { s with hp:=GG H }:=⟨hs.sl,hs.bx,EB.newsB H⟩;have:=hk _ (hE.put dst (.ptr 0 0))
            simpa [hsl,DV.enc,PV.hasPtr,PV.shift,IV] using this⟩
           exact this
         . cases h
       . cases h
     . cases h
 . cases h
theorem lD{i c:Nat}{D:CL}{args:List Opnd}{d d1:DS}{g:PX}{v:DV}(h:Sl i c D args d=some (g,v,d1)) :
 DV.hasPtrL (FK d.sl args)=true/\(CG d (.b i) [c]).ownS=true/\KX D args d=some (g,v,d1):=by
 unfold Sl at h
 by_cases hc:(DV.hasPtrL (FK d.sl args)&&(CG d (.b i) [c]).ownS)=true
 . rw[Ac hc] at h
   rw[Ah] at hc;exact⟨hc.1,hc.2,h⟩
 . rw[Ae hc] at h;cases h
theorem Wp{D:CL}{args:List Opnd}{d d1:DS}{g:PX}{v:DV}(h:KX D args d=some (g,v,d1)):ChgS d d1/\ID (FK d.sl args)=true:=by
 have cH:∀ (l:List DC),Chg l (SP l):=by
  intro l
  induction l with
  |nil=>trivial
  | cons c r ih=>
    refine⟨?_,ih⟩;by_cases hc:c.v.isH=true
    . rw[Ac hc];exact .inl rfl
    . rw[Ae hc];exact .inr rfl
 have cN:∀ (x:List DC) (vs:List DV),Chg x (news vs):=by
  intro x vs
  induction vs generalizing x with
  |nil=>cases x<;>trivial
  | cons v r ih=>cases x with
    |nil=>exact⟨rfl,ih []⟩
    |cons c x=>exact⟨.inl rfl,ih x⟩
 have cM:∀ (a:List DC) (vs:List DV),Chg a (NK a vs):=by
  intro a
  induction a with
  |nil=>intro vs;exact cN [] vs
  | cons c r ih=>
    intro vs
    cases vs with
    |nil=>exact Chg.refl _
    | cons v vs=>
      refine⟨?_,ih vs⟩;by_cases h:v.isAny=true
      . rw[Ac h];exact .inr rfl
      . rw[Ae h];exact .inl rfl
 have cNB:∀ (x:List (List DC)) (vs:List (List DV)),ChgB x (newsB vs):=by
  intro x vs
  induction vs generalizing x with
  |nil=>cases x<;>trivial
  | cons v r ih=>cases x with
    |nil=>exact⟨cN _ _,ih []⟩
    |cons c x=>exact⟨cN _ _,ih x⟩
 have cMB:∀ (a:List (List DC)) (vs:List (List DV)),ChgB a (NV a vs):=by
  intro a
  induction a with
  |nil=>intro vs;exact cNB [] vs
  | cons c r ih=>
    intro vs
    cases vs with
    |nil=>exact ChgB.refl _
    |cons v vs=>exact⟨cM c v,ih vs⟩
 unfold KX at h;simp only at h;split at h
 . rename_i hc;simp only[Ah] at hc;refine⟨?_,hc.1.1⟩;split at h
   . split at h
     . split at h
       . simp only[Ak,Al] at h;obtain⟨_,_,rfl⟩:=h;exact⟨cH _,ChgB.refl _,cMB _ _⟩
       . cases h
     . cases h
   . split at h
     . split at h
       . split at h
         . simp only[Ak,Al] at h;obtain⟨_,_,rfl⟩:=h;exact⟨Chg.refl _,ChgB.refl _,cNB _ _⟩
         . cases h
       . cases h
     . cases h
 . cases h
theorem mQ{d:DS}{s:PS}(x:Opnd)(hs:ES d s)(hk:x.dev d.sl≠.any)(ho:(x.dev d.sl).own=false):mvOut x s=((x.dev d.sl).enc,s):=by
 cases x with
 |c v=>simp only[mvOut,Opnd.dev];rw[RN v hk]
 | t n=>
   have:=(hs.sl.get n).of hk;simp only[mvOut,Ge,this,Jy,Opnd.dev] at ho ⊢;rw[Ae (by simp[ho])]
theorem Xx{o:DOp}(ho:AllD o.obs){dst:Option Nat}{K:DS->DT}{k:PS->Prop}(hK:Tl E D' K k):Tl E D' (Cx o dst K) (λ s=>CU o.er dst k s):=by
 intro d s hs hok hl
 cases o with
 | call m f p D args=>
   simp only[Cx] at hok hl;simp only[DOp.er,CU]
   cases hc:ND D args (if m=true then E7 args d else d) with
   |none=>rw[hc] at hok;exact hok.elim
   | some r=>
     obtain⟨g,v,d1⟩:=r;rw[hc] at hok hl;simp only[DT.chk_ok,DT.chk_lf] at hok hl;obtain⟨e1,e2⟩:=kN hc
     have hs':ES (if m=true then E7 args d else d) (if m=true then fzArgs args s else s):=by
      cases m with
      |false=>exact hs
      |true=>exact Wt args hs (Wa e2)
     exact ZcC ho.1 hs' hc hok.1 λ s' hs'=>hK _ _ hs' hok.2 hl
 | aw ws m o ty=>
   simp only[Cx] at hok hl;simp only[DOp.er,CU]
   cases hst:Np ws m o ty d with
   |none=>rw[hst] at hok;exact hok.elim
   | some r=>
     obtain⟨g,v,d1⟩:=r;rw[hst] at hok hl;simp only[DT.chk_ok,DT.chk_lf] at hok hl;obtain⟨s',v0,e1,e2,e3⟩:=xg hs hst hok.1;simp only[e1,e2];exact hK _ _ (e3.put dst v) hok.2 hl
 | mark f M x y=>
   simp only[Cx] at hok hl;simp only[DOp.er,CU]
   cases hst:NC M x y d with
   |none=>rw[hst] at hok;exact hok.elim
   | some r=>
     obtain⟨g,v,d1⟩:=r;rw[hst] at hok hl;simp only[DT.chk_ok,DT.chk_lf] at hok hl
     exact Zb2 hs hst hok.1 λ s' hs'=>hK _ _ (hs'.put dst v) hok.2 hl
 | callp m f p D args=>
   simp only[Cx] at hok hl;simp only[DOp.er,CU]
   cases hc:KX D args (if m=true then E7 args d else d) with
   |none=>rw[hc] at hok;exact hok.elim
   | some r=>
     obtain⟨g,v,d1⟩:=r;rw[hc] at hok hl;simp only[DT.chk_ok,DT.chk_lf] at hok hl;obtain⟨e1,e2⟩:=Wp hc
     have hs':ES (if m=true then E7 args d else d) (if m=true then fzArgs args s else s):=by
      cases m with
      |false=>exact hs
      |true=>exact Wt args hs (Wa e2)
     exact kB ho.1 hs' hc hok.1 λ s' hs'=>hK _ _ hs' hok.2 hl
 | callv m f p D args i c=>
   simp only[Cx] at hok hl;simp only[DOp.er,CU]
   cases hc:Sl i c D args (if m=true then E7 args d else d) with
   |none=>rw[hc] at hok;exact hok.elim
   | some r=>
     obtain⟨g,v,d1⟩:=r;rw[hc] at hok hl;simp only[DT.chk_ok,DT.chk_lf] at hok hl;obtain⟨hcv,e0,hc⟩:=lD hc;obtain⟨e1,e2⟩:=Wp hc
     have hs':ES (if m=true then E7 args d else d) (if m=true then fzArgs args s else s):=by
      cases m with
      |false=>exact hs
      |true=>exact Wt args hs (Wa e2)
     refine⟨⟨?_,?_⟩,kB ho.1 hs' hc hok.1 λ s' hs'=>hK _ _ hs' hok.2 hl⟩
     . rw[Xo hs' args e2,Pe,LJ,hcv]
     . have:=KK hs' (.b i) [c] (λ e=>by rw[e] at e0;cases e0);rw[this];unfold DV.ownS at e0;split at e0
       . rename_i r l h;rw[h];exact⟨_,rfl⟩
       . rename_i h;rw[h];exact⟨_,rfl⟩
       . cases e0
 | fz x=>
   simp only[Cx] at hok hl;simp only[DOp.er,CU];by_cases hk:(Fz x d).1.ok=true
   . rw[Ac hk] at hok hl;obtain⟨e1,e2⟩:=xO x hs hk;rw[e1,<- mj];exact hK _ _ (e2.put dst _) hok hl
   . rw[Ae hk] at hok;exact hok.elim
 | fzb a o=>
   simp only[Cx] at hok hl;simp only[DOp.er,CU]
   cases hc:NT (a.dev d.sl) d with
   |none=>rw[hc] at hok;exact hok.elim
   | some d1=>
     rw[hc] at hok hl;simp only at hok hl
     cases hst:Br false o none d1 with
     |none=>rw[hst] at hok;exact hok.elim
     | some r=>
       obtain⟨g,v,d2⟩:=r;rw[hst] at hok hl;simp only[DT.chk_ok,DT.chk_lf] at hok hl;obtain⟨s1,k1,k2⟩:=ZcT hs (a.dev_ev hs) hc;obtain⟨s',e1,e2⟩:=VT k2 hst hok.1;simp only[k1,e1];exact hK _ _ (e2.put dst v) hok.2 hl
 | clm a t o=>
   simp only[Cx] at hok hl;simp only[DOp.er,CU]
   cases hc:NR a t d with
   |none=>rw[hc] at hok;exact hok.elim
   | some r=>
     obtain⟨g0,d1⟩:=r;rw[hc] at hok hl;simp only at hok hl
     cases hst:Br false o none d1 with
     |none=>rw[hst] at hok;exact hok.elim
     | some r=>
       obtain⟨g,v,d2⟩:=r;rw[hst] at hok hl;simp only[DT.chk_ok,DT.chk_lf] at hok hl;have hg:=(PX.land_den _ _).mp hok.1
       refine Zc0 hs hc hg.1 λ s1 hs1=>?_
       obtain⟨s',e1,e2⟩:=VT hs1 hst hg.2;simp only[e1];exact hK _ _ (e2.put dst v) hok.2 hl
 | a m o ty=>
   have gen:(match Br m o ty d with|some (g,v,st)=>DT.chk' g (K (st.put dst v))|none=>DT.bad).ok.den->(match Br m o ty d with|some (g,v,st)=>DT.chk' g (K (st.put dst v))|none=>DT.bad).lf=some (E,D')->CU (DOp.a m o ty).er dst k s:=by
    intro hok hl
    cases hst:Br m o ty d with
    |none=>rw[hst] at hok;exact hok.elim
    | some r=>
      obtain⟨g,v,d1⟩:=r;rw[hst] at hok hl;simp only[DT.chk_ok,DT.chk_lf] at hok hl;obtain⟨s',e1,e2⟩:=VT hs hst hok.1;simp only[DOp.er,CU,e1];exact hK _ _ (e2.put dst v) hok.2 hl
   cases o<;>first|exact gen hok hl|skip
   case pick c a b=>
    clear gen;simp only[Cx] at hok hl;have hc:=c.dev_ev hs
    have one:∀ (x:Opnd),(match Bp x d with|(v,st)=>if v.ok=true then K (st.put dst v) else DT.bad).ok.den->(match Bp x d with|(v,st)=>if v.ok=true then K (st.put dst v) else DT.bad).lf=some (E,D')->k ((mvOut x s).2.put dst (mvOut x s).1):=by
     intro x hok hl;by_cases hv:(Bp x d).1.ok=true
     . simp only[Ac hv] at hok hl;obtain⟨m1,m2⟩:=Fw x hs hv;rw[m1];exact hK _ _ (m2.put dst _) hok hl
     . simp only[Ae hv] at hok;exact hok.elim
    cases hcv:c.dev d.sl with
    | bool t=>
      rw[hcv] at hc;have hp:=hc.of (by simp);simp only[DOp.er,CU,Bq,hp,DV.enc]
      cases t with
      | lit t=>
        rw[hcv] at hok hl
        cases t with
        |true=>exact one a hok hl
        |false=>exact one b hok hl
      | dyn t=>
        rw[hcv] at hok hl;simp only at hok hl;split at hok
        . rename_i h;rw[Ac h] at hl;have hok:=(PX.if_den _ _ _).mp hok
          cases t with
          |true=>exact one a (hok.1 rfl) hl
          |false=>exact one b (hok.2 rfl) hl
        . rename_i h;rw[Ae h] at hl;simp only[Gz,Ca,CJ] at h;obtain⟨⟨h1,h2⟩,h3⟩:=h
          have ka:a.dev d.sl≠.any:=by
           intro e;rw[e] at h3;cases hb:b.dev d.sl<;>rw[hb] at h3<;>cases h3
          have kb:b.dev d.sl≠.any:=by
           intro e;rw[e] at h3;cases hb:a.dev d.sl<;>rw[hb] at h3<;>cases h3
          have hm:DD t (a.dev d.sl) (b.dev d.sl)≠.any:=by intro e;rw[e] at h3;cases h3
          have he:=(Xv t (a.dev d.sl) (b.dev d.sl)).resolve_left hm;have:=hK _ _ (hs.put dst (DD t (a.dev d.sl) (b.dev d.sl))) hok hl;rw[he] at this;simp only[BX.b]
          cases t with
          |true=>simp only[AN,mQ a hs ka h1];exact this
          |false=>simp only[AL,AQ,mQ b hs kb h2];exact this
    |_=>rw[hcv] at hok;exact hok.elim
theorem mM{d:DS}{s:PS}{g:Nat}{b:Bool}(hs:ES d s)(h:Aa s.sl g= .fl (.bool b)):ES (NI d g b) s:=by
 refine⟨?_,hs.bx,hs.hp⟩
 have:∀ {a:List DC} {l:List PV} (n:Nat),EL a l->Aa l n= .fl (.bool b)->EL (DX a n (.bool (.lit b))) l:=by
  intro a
  induction a with
  |nil=>intro l n h _;exact h
  | cons c a ih=>
    intro l n h hg
    cases l with
    |nil=>exact h.elim
    | cons p l=>
      cases n with
      |zero=>exact⟨.inr hg,h.2⟩
      |succ n=>exact⟨h.1,ih n h.2 hg⟩
 exact this g hs.sl h
theorem Zcy{o:DOper}(ho:AllD o.op.obs){K:DS->DT}{k:PS->Prop}(hK:Tl E D' K k):Tl E D' (Qf o K) (λ s=>HI o.er k s):=by
 intro d s hs hok hl
 have skip:∀ {d s},ES d s->(K (d.put o.dst (.tup []))).ok.den->(K (d.put o.dst (.tup []))).lf=some (E,D')->k (s.put o.dst (.tup [])):=λ hs hok hl=>hK _ _ (hs.put o.dst (.tup [])) hok hl
 unfold Qf at hok hl;unfold HI;simp only[DOper.er]
 cases hg:o.guard with
 |none=>rw[hg] at hok hl;exact Xx ho hK d s hs hok hl
 | some g=>
   obtain⟨g,want⟩:=g;rw[hg] at hok hl;simp only at hok hl ⊢;have hv:=hs.sl.get g
   cases hgv:Bs d.sl g with
   | bool t=>
     rw[hgv] at hok hl hv;have hp:=hv.of (by simp);simp only[DV.enc] at hp;rw[hp];simp only
     cases t with
     | lit t=>
       simp only at hok hl;by_cases hw:t=want
       . rw[Ac (by simpa using hw)] at hok hl;rw[Ac (show (BX.lit t).b=want from hw)];exact Xx ho hK d s hs hok hl
       . rw[Ae (by simpa using hw)] at hok hl;rw[Ae (show ¬ (BX.lit t).b=want from hw)];exact skip hs hok hl
     | dyn t=>
       simp only[BX.b] at hp ⊢;have hok:=(PX.if_den _ _ _).mp hok;have hs2:=mM hs hp
       cases t with
       | true=>
         have hok:=hok.1 rfl;simp only[DT.lf] at hl
         cases want with
         |true=>exact Xx ho hK _ s hs2 hok hl
         |false=>exact skip hs2 hok hl
       | false=>
         have hok:=hok.2 rfl;simp only[DT.lf] at hl
         cases want with
         |true=>exact skip hs2 hok hl
         |false=>exact Xx ho hK _ s hs2 hok hl
   | tup vs=>
     cases vs with
     | nil=>
       rw[hgv] at hok hl hv;have hp:=hv.of (by simp);simp only[DV.enc,DV.encL] at hp;rw[hp];exact skip hs hok hl
     |cons v r=>rw[hgv] at hok;exact hok.elim
   |_=>rw[hgv] at hok;exact hok.elim
theorem dk:∀ (ops:List DOper),AllD (W3 ops)->∀ {k:PS->Prop},E= .normal->(∀ s,ES D' s->k s)->Tl E D' (JQ ops) (λ s=>JT (ops.map λ o=>o.er) k s)
 | [],_,k,hE,hk=>by
   intro d s hs hok hl
   simp only[JQ,DT.lf,Ak,Al] at hl
   obtain⟨_,rfl⟩:=hl
   exact hk s hs
 | o::r,ho,k,hE,hk=>by
   obtain⟨h1,h2⟩:=ho.app
   exact Zcy h1 (dk r h2 hE hk)
end
theorem Zav{o:DOp}{dst:Option Nat}{K:DS->DT}{b:DS}(hK:∀ d,ChgS b d->(K d).All (ChgS b)):∀ d,ChgS b d->(Cx o dst K d).All (ChgS b):=by
 intro d hd
 cases o with
 | call m f p D args=>
   simp only[Cx]
   cases hc:ND D args (if m=true then E7 args d else d) with
   |none=>trivial
   | some r=>
     obtain⟨g,v,d1⟩:=r;obtain⟨rfl,_⟩:=kN hc;refine DT.chk_all _ (hK _ ((hd.trans ?_).trans (ChgS.put _ _ _)))
     cases m with
     |true=>exact DS.fzArgs_chg args d
     |false=>exact ChgS.refl d
 | aw ws m o ty=>
   simp only[Cx]
   cases hst:Np ws m o ty d with
   |none=>trivial
   | some r=>
     obtain⟨g,v,d1⟩:=r;exact DT.chk_all _ (hK _ ((hd.trans (yk hst)).trans (ChgS.put _ _ _)))
 | mark f M x y=>
   simp only[Cx]
   cases hst:NC M x y d with
   |none=>trivial
   | some r=>
     obtain⟨g,v,d1⟩:=r;exact DT.chk_all _ (hK _ ((hd.trans (zN hst)).trans (ChgS.put _ _ _)))
 | callp m f p D args=>
   simp only[Cx]
   cases hc:KX D args (if m=true then E7 args d else d) with
   |none=>trivial
   | some r=>
     obtain⟨g,v,d1⟩:=r;obtain⟨h1,_⟩:=Wp hc;refine DT.chk_all _ (hK _ (((hd.trans ?_).trans h1).trans (ChgS.put _ _ _)))
     cases m with
     |true=>exact DS.fzArgs_chg args d
     |false=>exact ChgS.refl d
 | fz x=>
   simp only[Cx];split
   . exact hK _ ((hd.trans (ChgS.fzOut x d)).trans (ChgS.put _ _ _))
   . trivial
 | fzb a o=>
   simp only[Cx]
   cases hc:NT (a.dev d.sl) d with
   |none=>trivial
   | some d1=>
     simp only
     cases hst:Br false o none d1 with
     |none=>trivial
     | some r=>
       obtain⟨g,v,d2⟩:=r;exact DT.chk_all _ (hK _ (((hd.trans (Zbx hc)).trans (Wl hst)).trans (ChgS.put _ _ _)))
 | clm a t o=>
   simp only[Cx]
   cases hc:NR a t d with
   |none=>trivial
   | some r=>
     obtain⟨g0,d1⟩:=r;simp only
     cases hst:Br false o none d1 with
     |none=>trivial
     | some r=>
       obtain⟨g,v,d2⟩:=r;exact DT.chk_all _ (hK _ (((hd.trans (Zbd hc)).trans (Wl hst)).trans (ChgS.put _ _ _)))
 | callv m f p D args i c=>
   simp only[Cx]
   cases hc:Sl i c D args (if m=true then E7 args d else d) with
   |none=>trivial
   | some r=>
     obtain⟨g,v,d1⟩:=r;obtain⟨_,_,hc⟩:=lD hc;obtain⟨h1,_⟩:=Wp hc;refine DT.chk_all _ (hK _ (((hd.trans ?_).trans h1).trans (ChgS.put _ _ _)))
     cases m with
     |true=>exact DS.fzArgs_chg args d
     |false=>exact ChgS.refl d
 | a m o ty=>
   have gen:(match Br m o ty d with|some (g,v,st)=>DT.chk' g (K (st.put dst v))|none=>DT.bad).All (ChgS b):=by
    cases hst:Br m o ty d with
    |none=>trivial
    | some r=>
      obtain⟨g,v,d1⟩:=r;exact DT.chk_all _ (hK _ ((hd.trans (Wl hst)).trans (ChgS.put _ _ _)))
   cases o<;>first|exact gen|skip
   case pick c x y=>
    simp only[Cx]
    have one:∀ (x:Opnd),(match Bp x d with|(v,st)=>if v.ok=true then K (st.put dst v) else DT.bad).All (ChgS b):=by
     intro x;simp only;split
     . exact hK _ ((hd.trans (ChgS.mvOut x d)).trans (ChgS.put _ _ _))
     . trivial
    cases hcv:c.dev d.sl with
    | bool t=>
      cases t with
      |lit t=>cases t<;>exact one _
      | dyn t=>
        simp only;split
        . exact⟨one x,one y⟩
        . exact hK _ (hd.trans (ChgS.put _ _ _))
    |_=>trivial
theorem aF(d:DS)(g:Nat)(t:Bool):ChgS d (NI d g t):=⟨Chg.put _ _ _,ChgB.refl _,ChgB.refl _⟩
theorem Zap{o:DOper}{K:DS->DT}{b:DS}(hK:∀ d,ChgS b d->(K d).All (ChgS b)):∀ d,ChgS b d->(Qf o K d).All (ChgS b):=by
 intro d hd;unfold Qf;have hp:=Zav (o:=o.op) (dst:=o.dst) hK
 cases hg:o.guard with
 |none=>exact hp d hd
 | some g=>
   obtain⟨g,want⟩:=g;simp only
   cases hgv:Bs d.sl g with
   | bool t=>
     cases t with
     | lit t=>
       simp only;split
       . exact hp d hd
       . exact hK _ (hd.trans (ChgS.put _ _ _))
     | dyn t=>
       have h1:=hd.trans (aF d g true);have h2:=hd.trans (aF d g false)
       cases want with
       |true=>exact⟨hp _ h1,hK _ (h2.trans (ChgS.put _ _ _))⟩
       |false=>exact⟨hK _ (h1.trans (ChgS.put _ _ _)),hp _ h2⟩
   | tup vs=>
     cases vs with
     |nil=>exact hK _ (hd.trans (ChgS.put _ _ _))
     |cons v r=>trivial
   |_=>trivial
theorem aH{b:DS}:∀ (ops:List DOper) (d:DS),ChgS b d->(JQ ops d).All (ChgS b)
 |[],_,h=>h
 |_::r,d,h=>Zap (aH r) d h
theorem nz:∀ (ops:List DOper) {d d':DS} {e:AExit},(JQ ops d).lf=some (e,d')->e= .normal:=by
 intro ops
 have pick : ∀ {K:DS->DT} {e:AExit} {d':DS},(∀ d,(K d).lf=some (e,d')->e= .normal)->∀ (o:DOp) (dst:Option Nat) (d:DS),(Cx o dst K d).lf=some (e,d')->e= .normal:=by
  intro K e d' hK o dst d hl
  cases o with
  | call m f p D args=>
    simp only[Cx] at hl;split at hl
    . rw[DT.chk_lf] at hl;exact hK _ hl
    . cases hl
  | aw ws m o ty=>
    simp only[Cx] at hl;split at hl
    . rw[DT.chk_lf] at hl;exact hK _ hl
    . cases hl
  | mark f M x y=>
    simp only[Cx] at hl;split at hl
    . rw[DT.chk_lf] at hl;exact hK _ hl
    . cases hl
  | callp m f p D args=>
    simp only[Cx] at hl;split at hl
    . rw[DT.chk_lf] at hl;exact hK _ hl
    . cases hl
  | fz x=>
    simp only[Cx] at hl;split at hl
    . exact hK _ hl
    . cases hl
  | fzb a o=>
    simp only[Cx] at hl;split at hl
    . split at hl
      . rw[DT.chk_lf] at hl;exact hK _ hl
      . cases hl
    . cases hl
  | clm a t o=>
    simp only[Cx] at hl;split at hl
    . split at hl
      . rw[DT.chk_lf] at hl;exact hK _ hl
      . cases hl
    . cases hl
  | callv m f p D args i c=>
    simp only[Cx] at hl;split at hl
    . rw[DT.chk_lf] at hl;exact hK _ hl
    . cases hl
  | a m o ty=>
    have gen:(match Br m o ty d with|some (g,v,st)=>DT.chk' g (K (st.put dst v))|none=>DT.bad).lf=some (e,d')->e= .normal:=by
     intro hl;split at hl
     . rw[DT.chk_lf] at hl;exact hK _ hl
     . cases hl
    cases o<;>first|exact gen hl|skip
    case pick c x y=>
     simp only[Cx] at hl
     have one:∀ (x:Opnd),(match Bp x d with|(v,st)=>if v.ok=true then K (st.put dst v) else DT.bad).lf=some (e,d')->e= .normal:=by
      intro x hl;simp only at hl;split at hl
      . exact hK _ hl
      . cases hl
     cases hcv:c.dev d.sl with
     | bool t=>
       rw[hcv] at hl
       cases t with
       |lit t=>cases t<;>exact one _ hl
       | dyn t=>
         simp only at hl;split at hl
         . cases t<;>exact one _ hl
         . exact hK _ hl
     |_=>rw[hcv] at hl;cases hl
 induction ops with
 | nil=>
   intro d d' e hl;simp only[JQ,DT.lf,Ak,Al] at hl;exact hl.1.symm
 | cons o r ih=>
   intro d d' e hl
   have hr:∀ d,(JQ r d).lf=some (e,d')->e= .normal:=λ d h=>ih h
   simp only[JQ] at hl;unfold Qf at hl
   cases hg:o.guard with
   |none=>rw[hg] at hl;exact pick hr _ _ _ hl
   | some g=>
     obtain⟨g,want⟩:=g;rw[hg] at hl;simp only at hl
     cases hgv:Bs d.sl g with
     | bool t=>
       rw[hgv] at hl
       cases t with
       | lit t=>
         simp only at hl;split at hl
         . exact pick hr _ _ _ hl
         . exact hr _ hl
       | dyn t=>
         cases t<;>cases want<;>first|exact pick hr _ _ _ hl|exact hr _ hl
     | tup vs=>
       rw[hgv] at hl
       cases vs with
       |nil=>exact hr _ hl
       |cons v r=>cases hl
     |_=>rw[hgv] at hl;cases hl
theorem EL.put1{v:DV}:∀ {a:List DC} {b:List PV} (n:Nat),EL a b->EV v (Aa b n)->EL (DX a n v) b
 |[],_,_,h,_=>h
 |_::_,[],_,h,_=>h.elim
 |_::_,_::_,0,h,hv=>⟨hv,h.2⟩
 |_::_,_::_,n+1,h,hv=>⟨h.1,EL.put1 n h.2 hv⟩
theorem EBx.put1{v:DV}{a:List DC}{b:List PV}(n:Nat)(h:EBx a b)(hv:EV v (Aa b n)):EBx (DX a n v) b:=by
 rcases h with rfl|h
 . exact .inl rfl
 . exact .inr (h.put1 n hv)
theorem EB.put1{v:List DC}:∀ {a:List (List DC)} {b:List (List PV)} (n:Nat),EB a b->EBx v (Aj b n)->EB (Fa a n v) b
 |[],_,_,h,_=>h
 |_::_,[],_,h,_=>h.elim
 |_::_,_::_,0,h,hv=>⟨hv,h.2⟩
 |_::_,_::_,n+1,h,hv=>⟨h.1,EB.put1 n h.2 hv⟩
def PS.at(s:PS):Pl->PV
 |.s i=>Aa s.sl i
 |.b i c=>Aa (Aj s.bx i) c
 |.h i c=>Aa (Aj s.hp i) c
theorem EBx.get{a:List DC}{b:List PV}(n:Nat)(h:EBx a b):EV (Bs a n) (Aa b n):=by
 rcases h with rfl|h
 . exact .inl rfl
 . exact h.get n
theorem ES.at{d:DS}{s:PS}(h:ES d s)(pl:Pl):EV (d.at pl) (s.at pl):=by
 cases pl with
 |s i=>exact h.sl.get i
 |b i c=>exact(h.bx.get i).get c
 |h i c=>exact(h.hp.get i).get c
theorem ES.wr{d:DS}{s:PS}(h:ES d s)(pl:Pl){v:DV}(hv:EV v (s.at pl)):ES (d.wr v pl) s:=by
 cases pl with
 |s i=>exact⟨h.sl.put1 i hv,h.bx,h.hp⟩
 |b i c=>exact⟨h.sl,h.bx.put1 i ((h.bx.get i).put1 c hv),h.hp⟩
 |h i c=>exact⟨h.sl,h.bx,h.hp.put1 i ((h.hp.get i).put1 c hv)⟩
theorem Sp{q:Ql}{t:CT}{v:DV}{x:t.D}(h:t.ofQ q v=some x):(t.dv q x).enc=v.enc/\v≠.any:=by
 cases t with
 | int k=>
   cases v<;>try (cases h;done)
   rename_i k' n;have h':(if IntKind.same k k'=true then some n else none)=some x:=h;clear h;split at h'
   . rename_i hk;have:=WZ hk;subst this
     have h':=C9 h';subst h';exact⟨rfl,by simp⟩
   . cases h'
 | bool=>
   cases v<;>try (cases h;done)
   have h:=C9 h;subst h;exact⟨rfl,by simp⟩
 | str=>
   cases v<;>try (cases h;done)
   have h:=C9 h;subst h;exact⟨rfl,by simp⟩
 | ifc=>
   cases v<;>try (cases h;done)
   have h:=C9 h;subst h;exact⟨rfl,by simp⟩
 |slf r=>cases v<;>cases h
 | sl r=>
   cases v<;>try (cases h;done)
   case nil q'=>
    have h':(if Fk q q'=true then some ([]:List r.D) else none)=some x:=h;clear h;split at h'
    . rename_i hq;have:=Nx hq;subst this
      have h':=C9 h';subst h';exact⟨rfl,by simp⟩
    . cases h'
   case sl q' r' l=>
    have h':(if Fk q q'=true then Mn (r':=r') (r:=r) l else none)=some x:=h;clear h;split at h'
    . rename_i hq;have:=Nx hq;subst this
      refine⟨?_,by simp⟩;show PV.sl q _=PV.sl q _;rw[(RX h').2]
    . cases h'
theorem SI:∀ {l:List (Ql×CT)} {vs:List DV} {x:AgX l},Fg l vs=some x->DV.encL (Cc l x)=DV.encL vs
 |[],[],_,_=>rfl
 | [a],[v],x,h=>by
   show [(a.2.dv a.1 x).enc]=[v.enc]
   rw[(Sp (q:=a.1) (t:=a.2) h).1]
 | a :: b::r,v::vs,x,h=>by
   have h':(match a.2.ofQ a.1 v,Fg (b::r) vs with|some x,some y=>some (x,y)|_,_=>none)=some x:=h
   clear h
   cases h1:a.2.ofQ a.1 v with
   |none=>rw[h1] at h';cases h'
   | some p=>
     cases h2:Fg (b::r) vs with
     |none=>rw[h1,h2] at h';cases h'
     | some q=>
       rw[h1,h2] at h'
       have h':=C9 h'
       subst h'
       show (a.2.dv a.1 p).enc::DV.encL (Cc (b::r) q)=v.enc::DV.encL vs
       rw[(Sp h1).1,SI h2]
theorem S0{t:HT}{v:DV}{x:t.D}(h:t.of v=some x):(t.dv x).enc=v.enc/\v≠.any:=by
 cases t with
 |one q t=>exact Sp (q:=q) (t:=t) h
 | agg l=>
   cases v<;>try (cases h;done)
   rename_i cs;refine⟨?_,by simp⟩;show PV.agg _=PV.agg _;rw[SI (l:=l) h]
theorem dN{A:DS}{s:PS}(hA:ES A s):∀ (H:List Hole) {K:DS} {x:HV H},ES K s->Mx A H=some x->ES (wrX K H x) s
 |[],K,x,hK,_=>hK
 | [a],K,x,hK,h=>by
   have h:a.t.of (A.at a.pl)=some x:=h
   obtain⟨h1,h2⟩:=S0 h
   refine hK.wr a.pl (.inr ?_)
   rw[h1,(hA.at a.pl).of h2]
 | a :: b::r,K,x,hK,h=>by
   have h':(match a.t.of (A.at a.pl),Mx A (b::r) with|some x,some y=>some (x,y)|_,_=>none)=some x:=h
   clear h
   cases h1:a.t.of (A.at a.pl) with
   |none=>rw[h1] at h';cases h'
   | some p=>
     cases h2:Mx A (b::r) with
     |none=>rw[h1,h2] at h';cases h'
     | some q=>
       rw[h1,h2] at h'
       have h':=C9 h'
       subst h'
       obtain⟨h3,h4⟩:=S0 h1
       refine dN hA (b::r) (x:=q) (hK.wr a.pl (.inr ?_)) h2
       rw[h3,(hA.at a.pl).of h4]
theorem mV(d:DS)(v:DV)(pl:Pl):ChgS d (d.wr v pl):=by
 cases pl with
 |s i=>exact⟨Chg.put _ _ _,ChgB.refl _,ChgB.refl _⟩
 |b i c=>exact⟨Chg.refl _,ChgB.put _ _ (Chg.put _ _ _),ChgB.refl _⟩
 |h i c=>exact⟨Chg.refl _,ChgB.refl _,ChgB.put _ _ (Chg.put _ _ _)⟩
theorem mu:∀ (H:List Hole) (d:DS) (x:HV H),ChgS d (wrX d H x)
 |[],d,_=>ChgS.refl d
 |[a],d,_=>mV d _ _
 |a::b::r,d,x=>(mV d _ _).trans (mu (b::r) _ _)
def LeC:List DC->List DC->Prop
 |[],[]=>True
 |k::a,b::r=>(k.v= .any\/k.v=b.v)/\LeC a r
 |_,_=>False
def LeB:List (List DC)->List (List DC)->Prop
 |[],[]=>True
 |k::a,b::r=>(k=[]\/LeC k b)/\LeB a r
 |_,_=>False
structure LeS (k b:DS):Prop where
 sl:LeC k.sl b.sl
 bx:LeB k.bx b.bx
 hp:LeB k.hp b.hp
theorem LeC.refl:∀ (k:List DC),LeC k k
 |[]=>trivial
 |_::r=>⟨.inr rfl,LeC.refl r⟩
theorem LeB.refl:∀ (k:List (List DC)),LeB k k
 |[]=>trivial
 |k::r=>⟨.inr (LeC.refl k),LeB.refl r⟩
theorem LeC.put{v:DV}:∀ {k b:List DC} (n:Nat),LeC k b->Bs k n= .any->LeC k (DX b n v)
 |[],[],_,h,_=>h
 |[],_::_,_,h,_=>h.elim
 |_::_,[],_,h,_=>h.elim
 |_::_,_::_,0,h,ha=>⟨.inl ha,h.2⟩
 |_::_,_::_,n+1,h,ha=>⟨h.1,LeC.put n h.2 ha⟩
theorem LeB.put{v:DV}:∀ {k b:List (List DC)} (i c:Nat),LeB k b->Bs (BO k i) c= .any->LeB k (Fa b i (DX (BO b i) c v))
 |[],[],_,_,h,_=>h
 |[],_::_,_,_,h,_=>h.elim
 |_::_,[],_,_,h,_=>h.elim
 |_::_,_::_,0,c,h,ha=>⟨h.1.imp id λ h=>h.put c ha,h.2⟩
 |_::_,_::_,n+1,c,h,ha=>⟨h.1,LeB.put n c h.2 ha⟩
theorem kS{v:DV}(h:v.isAny=true):v= .any:=by cases v<;>first|rfl|cases h
theorem LeS.wr{k b:DS}{v:DV}{pl:Pl}(h:LeS k b)(ha:(k.at pl).isAny=true):LeS k (b.wr v pl):=by
 have ha:=kS ha
 cases pl with
 |s i=>exact⟨h.sl.put i ha,h.bx,h.hp⟩
 |b i c=>exact⟨h.sl,h.bx.put i c ha,h.hp⟩
 |h i c=>exact⟨h.sl,h.bx,h.hp.put i c ha⟩
theorem LeS.wrX{k:DS}:∀ (H:List Hole) {b:DS} (x:HV H),LeS k b->PB k H=true->LeS k (Go.Ag.wrX b H x)
 |[],_,_,h,_=>h
 | [a],_,_,h,ha=>by
   simp only[PB,Ah] at ha;exact h.wr ha.1
 | a :: b::r,_,x,h,ha=>by
   have ha':(k.at a.pl).isAny=true/\PB k (b::r)=true:=by
    have:((k.at a.pl).isAny&&PB k (b::r))=true:=ha;simpa [Ah] using this
   exact LeS.wrX (b::r) _ (h.wr ha'.1) ha'.2
theorem Zby{a b:DV}(h:a.same b=true):a.enc=b.enc/\b≠.any:=by
 cases a<;>cases b<;>first|(cases h;done)|skip
 case undef.undef=>exact⟨rfl,by simp⟩
 case nil.nil q q'=>have:=Nx h;subst this;exact⟨rfl,by simp⟩
 case box.box=>simp only[DV.same,Ah,A0] at h;obtain⟨rfl,rfl⟩:=h;exact⟨rfl,by simp⟩
 case ptr.ptr=>simp only[DV.same,Ah,A0] at h;obtain⟨rfl,rfl⟩:=h;exact⟨rfl,by simp⟩
theorem dj:∀ {k b y:List DC} {p:List PV},Tb k y=true->LeC k b->Chg (Go.Ag.clean b) y->EL y p->EL k p
 |[],_,[],p,_,_,_,h=>h
 |[],_,_::_,_,h,_,_,_=>by cases h
 |_::_,_,[],_,h,_,_,_=>by cases h
 |_::_,[],_::_,_,_,h,_,_=>h.elim
 |_::_,_::_,_::_,[],_,_,_,h=>h.elim
 | k :: a,b::r,y::l,q::p,h,hl,hc,he=>by
   simp only[Tb,Ah,Cp] at h;refine⟨?_,dj h.2 hl.2 hc.2 he.2⟩;rcases h.1 with(h1|h1)|h1
   . exact .inl (kS h1)
   . rcases hl.1 with h2|h2
     . exact .inl h2
     . rcases hc.1 with h3|h3
       . simp[h3] at h1
       . have:y.v=k.v:=by rw[h3,h2]
         rcases he.1 with h4|h4
         . exact .inl (by rw[<- this];exact h4)
         . exact .inr (by rw[<- this];exact h4)
   . obtain⟨h2,h3⟩:=Zby h1;rcases he.1 with h4|h4
     . exact absurd h4 h3
     . exact .inr (by rw[h2];exact h4)
theorem cz:∀ {k b y:List (List DC)} {p:List (List PV)},Tm k y=true->LeB k b->ChgB (PT b) y->EB y p->EB k p
 |[],_,[],p,_,_,_,h=>h
 |[],_,_::_,_,h,_,_,_=>by cases h
 |_::_,_,[],_,h,_,_,_=>by cases h
 |_::_,[],_::_,_,_,h,_,_=>h.elim
 |_::_,_::_,_::_,[],_,_,_,h=>h.elim
 | k :: a,b::r,y::l,q::p,h,hl,hc,he=>by
   simp only[Tm,Ah,Cp,A0] at h
   refine⟨?_,cz h.2 hl.2 hc.2 he.2⟩
   rcases h.1 with h1|h1
   . exact .inl (FA h1)
   . rcases hl.1 with h2|h2
     . exact .inl h2
     . rcases he.1 with h3|h3
       . subst h3
         cases k with
         |nil=>exact .inl rfl
         |cons=>cases h1
       . exact .inr (dj h1 h2 hc.1 h3)
theorem Zda{k b y:DS}{s:PS}(h:eA k y=true)(hl:LeS k b)(hc:ChgS b.clean y)(he:ES y s):ES k s:=by
 simp only[eA,Ah] at h;exact⟨dj h.1.1 hl.sl hc.sl he.sl,cz h.1.2 hl.bx hc.bx he.bx,cz h.2 hl.hp hc.hp he.hp⟩
theorem cK(pl:Nat->Pl):∀ (n:Nat) (x y:List DC),Chg x (K7 pl n x y).2/\∀ p,EL x p->EL (K7 pl n x y).2 p
 |_,[],_=>⟨trivial,λ _ h=>h⟩
 |_,_::_,[]=>⟨Chg.refl _,λ _ h=>h⟩
 | n,x::a,y::b=>by
   obtain⟨h1,h2⟩:=cK pl (n+1) a b
   simp only[K7]
   cases hr:K7 pl (n+1) a b with
   | mk H l=>
     rw[hr] at h1 h2
     cases oV x.v y with
     |left=>exact⟨⟨.inr rfl,h1⟩,λ p h=>by cases p with|nil=>exact h|cons q p=>exact⟨h.1,h2 p h.2⟩⟩
     |hole t=>exact⟨⟨.inl rfl,h1⟩,λ p h=>by cases p with|nil=>exact h|cons q p=>exact⟨.inl rfl,h2 p h.2⟩⟩
     |kill=>exact⟨⟨.inl rfl,h1⟩,λ p h=>by cases p with|nil=>exact h|cons q p=>exact⟨.inl rfl,h2 p h.2⟩⟩
theorem dw(pl:Nat->Nat->Pl):∀ (n:Nat) (x y:List (List DC)),ChgB x (NM pl n x y).2/\∀ p,EB x p->EB (NM pl n x y).2 p
 |_,[],_=>⟨trivial,λ _ h=>h⟩
 |_,_::_,[]=>⟨ChgB.refl _,λ _ h=>h⟩
 | n, x :: a,y::b=>by
   obtain⟨h1,h2⟩:=dw pl (n+1) a b
   simp only[NM]
   cases hr:NM pl (n+1) a b with
   | mk H l=>
     rw[hr] at h1 h2
     simp only
     split
     . obtain⟨h3,h4⟩:=cK (pl n) 0 x y
       cases hc:K7 (pl n) 0 x y with
       | mk H' x'=>
         rw[hc] at h3 h4
         exact⟨⟨h3,h1⟩,λ p h=>by
          cases p with
          |nil=>exact h
          |cons q p=>exact⟨h.1.elim (λ e=>by subst e;cases y<;>(simp only[K7] at hc;simp only[Al] at hc;exact .inl hc.2.symm)) λ h=>.inr (h4 q h),h2 p h.2⟩⟩
     . exact⟨⟨by cases x<;>trivial,h1⟩,λ p h=>by cases p with|nil=>exact h|cons q p=>exact⟨.inl rfl,h2 p h.2⟩⟩
theorem nK(x y:DS):ChgS x (To x y).2/\∀ s,ES x s->ES (To x y).2 s:=by
 obtain⟨h1,h2⟩:=cK .s 0 x.sl y.sl;obtain⟨h3,h4⟩:=dw .b 0 x.bx y.bx;obtain⟨h5,h6⟩:=dw .h 0 x.hp y.hp;exact⟨⟨h1,h3,h5⟩,λ s h=>⟨h2 _ h.sl,h4 _ h.bx,h6 _ h.hp⟩⟩
theorem bY{live:List Nat}{body:DS->DT}{A:DS}:∀ {n:Nat} {cur:DS} {H:List Hole} {K:DS},SH live body A n cur=some (H,K)->∃ Y,To A Y=(H,K)
 | 0,cur,H,K,h=>by
   simp only[SH] at h
   split at h
   . rename_i m _
     exact⟨_,C9 h⟩
   . cases h
 | n + 1,cur,H,K,h=>by
   simp only[SH] at h
   split at h
   . split at h
     . exact bY h
     . cases h
   . cases h
theorem ai(live:List Nat)(d:DS):ChgS d (Ex live d):=⟨Chg.keep _ _ _,ChgB.refl _,ChgB.refl _⟩
theorem za(live:List Nat)(d:DS):ChgS d (X9 live d):=⟨Chg.trim _ _ _,ChgB.refl _,ChgB.refl _⟩
theorem ZbR {live:List Nat} {n:Nat} {body:DS->DT} {pb:GH->PS->Prop} (hall:∀ d,(body d).All (ChgS d.clean))
 (hb:∀ d s e d' (k:GH),ES d s->(body d).ok.den->(body d).lf=some (e,d')->(∀ s',ES d' s'->k e s')->pb k s)
 {d d':DS} {s:PS} {e:AExit} {k:GH} (hs:ES d s) (hok:(P9 live n body d).ok.den) (hl:(P9 live n body d).lf=some (e,d')) (hk:∀ s',ES d' s'->k e s'):∃ n,SF pb live k n s:=by
 have hA:ES (Ex live d) { s with sl:=E9 live 0 s.sl }:=hs.keep live
 unfold P9 at hok hl
 split at hok
 . rename_i hn
   rw[Ac hn] at hl;rw[DT.map_ok] at hok;rw[DT.map_lf] at hl;obtain⟨e0,d0,h0⟩:=DT.ok_lf hok;rw[h0] at hl;simp only[Cv,Ak,Al] at hl;obtain⟨rfl,rfl⟩:=hl
   have hn:(body (Ex live d)).norm= .none:=by cases h:(body (Ex live d)).norm<;>rw[h] at hn<;>first|rfl|cases hn
   have he:=DT.norm_none hn h0;refine⟨1,hb _ _ _ _ _ hA hok h0 λ s' hs'=>?_⟩
   cases e0<;>first|(cases he;done)|exact hk _ hs'.rem
 . rename_i hn
   rw[Ae hn] at hl;split at hok
   . exact hok.elim
   . rename_i H K hd;rw[hd] at hl;simp only at hl;obtain⟨Y,hY⟩:=bY hd;split at hok
     . exact hok.elim
     . rename_i x0 hx0;rw[hx0] at hl;simp only at hl;split at hok
       . rename_i hh;rw[Ac hh] at hl;simp only[DT.ok,PX.land_den,PX.den] at hok;obtain⟨hlo,_⟩:=hok;simp only[DT.lf] at hl
         have hK:ES K { s with sl:=E9 live 0 s.sl }:=by
          have:=(nK (Ex live d) Y).2 _ hA;rw[hY] at this;exact this
         have h0:ES (wrX K H x0) { s with sl:=E9 live 0 s.sl }:=dN hA H hK hx0;have hto:=hlo.to
         have hle:∀ x,LeS K (wrX K H x):=λ x=>LeS.wrX H x ⟨LeC.refl _,LeB.refl _,LeB.refl _⟩ hh
         have main:∀ {x y:HV H},LoopTo (Qd body K H) (P7 live body K H) (λ x=>(oz live body K H x).den) x y ->
          ((lT body K H y).drop.map (Mu (wrX K H y))).lf=some (e,d') ->
          ∃ n,∀ s:PS,ES (wrX K H x) { s with sl:=E9 live 0 s.sl }->SF pb live k n s:=by
          intro x y h
          induction h with
          | stop hg hc=>
            rename_i x;intro hl;have hg:=((PX.land_den _ _).mp hg).1;obtain⟨e0,d0,h0⟩:=DT.ok_lf hg
            have he:e0.isN=false:=by
             unfold Qd at hc
             cases hcc:(lT body K H x).cont with
             |none=>rw[DT.cont_none hcc] at h0;cases h0
             |some b=>rw[hcc] at hc;rw[<- DT.cont_s hcc h0];exact hc
            rw[DT.map_lf,DT.drop_lf h0 he] at hl;simp only[Cv,Ak,Al] at hl;obtain⟨rfl,rfl⟩:=hl;refine⟨1,λ s hs=>hb _ _ _ _ _ hs hg h0 λ s' hs'=>?_⟩
            cases e0<;>first|(cases he;done)|exact hk _ hs'.rem
          | go hg hc h3 ih=>
            rename_i x y';intro hl;obtain⟨n,ih⟩:=ih hl;have hg2:=(PX.land_den _ _).mp hg;obtain⟨e0,d0,h0⟩:=DT.ok_lf hg2.1
            have he:e0= .normal:=by
             unfold Qd at hc
             cases hcc:(lT body K H x).cont with
             |none=>rw[DT.cont_none hcc] at h0;cases h0
             | some b=>
               rw[hcc] at hc;have:=DT.cont_s hcc h0;rw[show b.b=true from hc] at this
               cases e0<;>first|rfl|cases this
            subst he;refine⟨n+1,λ s hs=>hb _ _ _ _ _ hs hg2.1 h0 λ s' hs'=>?_⟩;refine ih s' ?_;have hg3:=hg2.2
            cases hnm:(lT body K H x).norm with
            |none=>have:=DT.norm_none hnm h0;cases this
            |fail=>rw[hnm] at hg3;exact hg3.elim
            | some m=>
              rw[hnm] at hg3;simp only at hg3;split at hg3
              . rename_i hf;simp only[Ah] at hf;obtain⟨hf1,hf2⟩:=hf;have hm:ES m s':=DT.norm_s (hall _) hnm h0 hs';have hm2:=hm.keep live;have hch:ChgS (wrX K H x).clean (Ex live m):=(DT.norm_chg (hall _) hnm).trans (ai live m);have hK':=Zda hf1 (hle x) hch hm2;obtain⟨y2,hy2⟩:=Option.isSome_iff_exists.mp hf2
                have hnx:P7 live body K H x=y2:=by unfold P7;rw[hnm];simp only[hy2]
                rw[hnx];exact dN hm2 H hK' hy2
              . exact hg3.elim
         obtain⟨n,hn⟩:=main hto hl;exact⟨n,hn s h0⟩
       . exact hok.elim
theorem Zaj{live:List Nat}{n:Nat}{body:DS->DT}(hall:∀ d,(body d).All (ChgS d.clean))(d:DS):(P9 live n body d).All (ChgS d):=by
 unfold P9;split
 . exact DT.map_all (λ st h=>(ai live d).trans h.rem) (hall _)
 . split
   . trivial
   . rename_i H K hd;obtain⟨Y,hY⟩:=bY hd;split
     . trivial
     . split
       . have hK:ChgS d K:=by
          have:=(nK (Ex live d) Y).1;rw[hY] at this;exact(ai live d).trans this
         exact DT.map_all (λ st h=>(hK.trans (mu H K _)).trans h.rem) (DT.drop_all (hall _))
       . trivial
theorem kW(d:DS)(c:Opnd)(t:Bool):ChgS d (setc d c t):=by
 cases c with
 |t g=>exact aF d g t
 |c v=>exact ChgS.refl d
theorem lW{d:DS}{s:PS}{c:Opnd}{b:Bool}(hs:ES d s)(h:c.pev s.sl= .fl (.bool b)):ES (setc d c b) s:=by
 cases c with
 |t g=>exact mM hs h
 |c v=>exact hs
mutual
theorem mR(n:Nat):∀ (v:DV),v.enc.pge n=v.pge n
 |.nil q=>by cases q<;>rfl
 |.sl q r l=>by cases q<;>rfl
 |.ep q r l j o=>by cases q<;>rfl
 |.agg cs=>bh n cs
 |.tup vs=>bh n vs
 |.any|.undef|.bool _|.int _ _|.str _|.ifc _|.box _ _|.ptr _ _=>rfl
theorem bh(n:Nat):∀ (l:List DV),PV.pgeL n (DV.encL l)=DV.pgeL n l
 |[]=>rfl
 |v::r=>by simp only[DV.encL,PV.pgeL,DV.pgeL,mR n v,bh n r]
end
theorem EL.clrP(n:Nat):∀ {a:List DC} {b:List PV},EL a b->EL (X6 n a) (Go.Ag.clrP n b)
 |[],[],_=>trivial
 | c :: a,p::b,h=>by
   refine⟨?_,EL.clrP n h.2⟩
   by_cases hc:(c.v.isH||c.v.pge n)=true
   . rw[Ac hc];exact .inl rfl
   . rw[Ae hc]
     rcases h.1 with h1|h1
     . exact .inl h1
     . rw[h1,bJ,mR,Ae hc];exact .inr rfl
theorem EB.take:∀ (n:Nat) {a:List (List DC)} {b:List (List PV)},EB a b->EB (a.take n) (b.take n)
 |0,_,_,_=>trivial
 |n+1,[],[],_=>trivial
 |n+1,_::_,_::_,h=>⟨h.1,EB.take n h.2⟩
theorem ES.trunc{d:DS}{s:PS}(n:Nat)(h:ES d s):ES (d.trunc n) (s.trunc n):=⟨h.sl.clrP n,h.bx,h.hp.take n⟩
theorem Chg.clrP(n:Nat):∀ (l:List DC),Chg l (X6 n l)
 |[]=>trivial
 | c::r=>by
   refine⟨?_,Chg.clrP n r⟩
   by_cases hc:(c.v.isH||c.v.pge n)=true
   . rw[Ac hc];exact .inl rfl
   . rw[Ae hc];exact .inr rfl
theorem ChgB.take:∀ (n:Nat) {a b:List (List DC)},ChgB a b->ChgB a (b.take n)
 |0,a,b,_=>by cases a<;>trivial
 |n+1,a,[],_=>by cases a<;>trivial
 |n+1,[],_::_,h=>⟨h.1,ChgB.take n h.2⟩
 |n+1,_::_,_::_,h=>⟨h.1,ChgB.take n h.2⟩
theorem ChgS.trunc{d d':DS}(n:Nat)(h:ChgS d d'):ChgS d (d'.trunc n):=⟨h.sl.trans (Chg.clrP n _),h.bx,h.hp.take n⟩
theorem G4:∀ (c:DCode) (d:DS),(dev c d).All (ChgS d)
 |.skip,d=>ChgS.refl d
 |.region ops,d=>aH ops d (ChgS.refl d)
 | .regionU ops,d=>by
   simp only[dev]
   split
   . exact aH ops d (ChgS.refl d)
   . trivial
 | .seq l a b,d=>by
   refine DT.then_all (G4 a d.clean) (λ st h=>?_) (λ st h=>h.rem)
   have h1:ChgS d (Mu d (X9 l st)):=(h.trans (za l st)).rem
   exact DT.All.imp (λ _ h2=>h1.trans h2) (G4 b _)
 | .cond c a b,d=>by
   simp only[dev]
   cases hc:c.dev d.sl with
   | bool t=>
     cases t with
     |lit t=>cases t<;>first|exact G4 a d|exact G4 b d
     |dyn t=>exact⟨DT.All.imp (λ _ h=>(kW d c true).trans h) (G4 a _),DT.All.imp (λ _ h=>(kW d c false).trans h) (G4 b _)⟩
   |_=>trivial
 |.block i a,d=>DT.unexit_all i (G4 a d)
 |.scope a,d=>DT.map_all (λ st h=>h.trunc d.hp.length) (G4 a d)
 |.loop live n a,d=>Zaj (λ d=>G4 a d.clean) d
 |.exit i,d=>ChgS.refl d
 |.ret,d=>ChgS.refl d
theorem Ga:∀ (c:DCode),AllD c.obs->∀ {d d':DS} {s:PS} {e:AExit} {k:GH},ES d s->(dev c d).ok.den->(dev c d).lf=some (e,d')->(∀ s',ES d' s'->k e s')->GL c.er k s
 | .skip,_,d,d',s,e,k,hs,hok,hl,hk=>by
   simp only[dev,DT.lf,Ak,Al] at hl
   obtain⟨rfl,rfl⟩:=hl
   exact hk s hs
 | .region ops,ho,d,d',s,e,k,hs,hok,hl,hk=>by
   have he:=nz ops hl
   subst he
   exact dk ops ho rfl hk d s hs hok hl
 | .regionU ops,ho,d,d',s,e,k,hs,hok,hl,hk=>by
   simp only[dev] at hok hl
   split at hok
   . rename_i hp
     rw[Ac hp] at hl
     have he:=nz ops hl
     subst he
     exact⟨hp,dk ops ho rfl hk d s hs hok hl⟩
   . exact hok.elim
 | .seq l a b,ho,d,d',s,e,k,hs,hok,hl,hk=>by
   obtain⟨h1,h2⟩:=ho.app
   obtain⟨hoa,hc⟩:=DT.then_s (G4 a d.clean) hok hl
   simp only[DCode.er,GL]
   rcases hc with⟨st0,m,hla,hm,hch,hob,hlb⟩|⟨he,st0,hla,rfl⟩
   . refine Ga a h1 hs.clean hoa hla λ s' hs'=>?_
     exact Ga b h2 (((hm s' hs').trim l).rem) hob hlb hk
   . refine Ga a h1 hs.clean hoa hla λ s' hs'=>?_
     cases e<;>first|(cases he;done)|exact hk s' hs'.rem
 | .cond c a b,ho,d,d',s,e,k,hs,hok,hl,hk=>by
   obtain⟨h1,h2⟩:=ho.app
   have hv:=c.dev_ev hs
   simp only[dev] at hok hl
   simp only[DCode.er,GL]
   cases hc:c.dev d.sl with
   | bool t=>
     rw[hc] at hok hl hv
     have hp:=hv.of (by simp)
     simp only[DV.enc] at hp
     rw[hp]
     simp only
     cases t with
     | lit t=>
       cases t with
       |true=>exact Ga a h1 hs hok hl hk
       |false=>exact Ga b h2 hs hok hl hk
     | dyn t=>
       have hok:=(PX.if_den _ _ _).mp hok
       cases t with
       |true=>exact Ga a h1 (lW hs hp) (hok.1 rfl) hl hk
       |false=>exact Ga b h2 (lW hs hp) (hok.2 rfl) hl hk
   |_=>rw[hc] at hok;exact hok.elim
 | .block i a,ho,d,d',s,e,k,hs,hok,hl,hk=>by
   simp only[dev,DT.unexit_ok,DT.unexit_lf] at hok hl
   obtain⟨e0,d0,h0⟩:=DT.ok_lf hok
   rw[h0] at hl
   simp only[Cv,Ak,Al] at hl
   obtain⟨rfl,rfl⟩:=hl
   refine Ga a ho hs hok h0 λ s' hs'=>?_
   have:=hk s' hs'
   cases e0 with
   |normal=>exact this
   |ret=>exact this
   | exit j=>
     simp only[bI]
     simp only[AExit.un] at this
     split
     . rename_i hj;rw[Ac hj] at this;exact this
     . rename_i hj;rw[Ae hj] at this;exact this
 | .scope a,ho,d,d',s,e,k,hs,hok,hl,hk=>by
   simp only[dev,DT.map_ok,DT.map_lf] at hok hl
   obtain⟨e0,d0,h0⟩:=DT.ok_lf hok
   rw[h0] at hl
   simp only[Cv,Ak,Al] at hl
   obtain⟨rfl,rfl⟩:=hl
   refine Ga a ho hs hok h0 λ s' hs'=>?_
   show k e0 (s'.trunc s.hp.length)
   rw[<- hs.hp.len]
   exact hk _ (hs'.trunc _)
 | .loop live n a,ho,d,d',s,e,k,hs,hok,hl,hk=>by
   simp only[dev] at hok hl
   exact ZbR (λ d=>G4 a d.clean) (λ d s e d' k hs hok hl hk=>Ga a ho hs.clean hok hl hk) hs hok hl hk
 | .exit i,_,d,d',s,e,k,hs,hok,hl,hk=>by
   simp only[dev,DT.lf,Ak,Al] at hl
   obtain⟨rfl,rfl⟩:=hl
   exact hk s hs
 | .ret,_,d,d',s,e,k,hs,hok,hl,hk=>by
   simp only[dev,DT.lf,Ak,Al] at hl
   obtain⟨rfl,rfl⟩:=hl
   exact hk s hs
mutual
def DV.flt:DV->Bool
 |.bool _|.int _ _|.str _|.ifc _=>true
 |.agg cs=>DV.fltL cs
 |.tup vs=>DV.fltL vs
 |_=>false
def DV.fltL:List DV->Bool
 |[]=>true
 |v::r=>v.flt&&DV.fltL r
end
mutual
theorem cg:∀ (v:DV),v.flt=true->v.enc.flt=true
 |.bool _,_|.int _ _,_|.str _,_|.ifc _,_=>rfl
 |.agg cs,h=>aN cs h
 |.tup cs,h=>aN cs h
theorem aN:∀ (l:List DV),DV.fltL l=true->PV.fltL (DV.encL l)=true
 |[],_=>rfl
 | v::r,h=>by
   simp only[DV.fltL,Ah] at h
   simp only[DV.encL,PV.fltL,cg v h.1,aN r h.2,Dm]
end
theorem bl:∀ (l:List DV),JO l=true->DV.okL l=true
 |[],_=>rfl
 | v::r,h=>by
   simp only[JO,Ah] at h
   have:v.ok=true:=by cases v<;>first|rfl|(have:=h.1;cases this)
   simp only[DV.okL,this,bl r h.2,Dm]
theorem EBx.segm2{a:List DC}{b:List PV}{o n:Nat}(h:EBx a b)(hl:o+n<=a.length)(hk:DV.okL (Ch (BT a) o n)=true):Go.Ag.segm b o n=DV.encL (Ch (BT a) o n)/\o+n<=b.length:=by
 rcases h with rfl|h
 . simp only[AJ,Nat.le_zero_eq,Nat.add_eq_zero_iff] at hl;obtain⟨rfl,rfl⟩:=hl;refine⟨?_,GC _⟩;cases b<;>rfl
 . exact⟨h.segm o n hk,by rw[<- h.len];exact hl⟩
theorem bm{st st':DS}{s:PS}{r:ARes}{v:DV}(hs:ES st s)(h:KV st r=some (v,st'))(hv:v.ok=true):∃ s',JF s r=some (v.enc,s')/\ES st' s':=by
 cases r with
 | tmp t=>
   simp only[KV] at h;split at h
   . rename_i hc;simp only[Ah] at hc;simp only[Ak] at h
     have hk:(Bp (.t t) st).1.ok=true:=by
      have:(Bp (.t t) st).1=v:=by simp only[Bp,h]
      rw[this];exact hv
     obtain⟨m1,m2⟩:=Fw (.t t) hs hk
     have hne:Bs st.sl t≠.any:=by intro e;rw[e] at hc;cases hc.2
     have hp:=(hs.sl.get t).of hne;simp only[Bp,h,mvOut] at m1 m2;refine⟨(Ge (Aa s.sl t) t s).2,?_,m2⟩;simp only[JF];rw[Ac (by rw[hp];exact jY _ hc.1),<- m1]
   . cases h
 | cell t n=>
   simp only[KV] at h;have hp:=hs.sl.get t
   cases hv:Bs st.sl t with
   | box i o=>
     rw[hv] at h hp;have hp:=hp.of (by simp);simp only at h;split at h
     . rename_i hc;simp only[Ah] at hc;simp only[B8] at h;obtain⟨⟨g,r⟩,h1,h2⟩:=h;simp only at h2;subst h2;obtain⟨e1,e2⟩:=(hs.bx.get i).segm2 (Dd hc.1) (bl _ hc.2)
       have hg:g= .tt:=by
        unfold L9 at h1;simp only[AN] at h1;split at h1
        . simp only[B8,Al] at h1;obtain⟨_,_,rfl,_⟩:=h1;rfl
        . cases h1
       subst hg;obtain⟨s',e3,e4⟩:=Zx (p:=.box i o) hs (.inr rfl) h1;refine⟨s',?_,e4⟩;simp only[JF,hp,DV.enc];rw[Ac ⟨e2,by rw[e1];exact WI _ hc.2⟩];exact e3
     . cases h
   | ptr i o=>
     rw[hv] at h hp;have hp:=hp.of (by simp);simp only at h;split at h
     . rename_i hc;simp only[Ah] at hc;simp only[B8] at h;obtain⟨⟨g,r⟩,h1,h2⟩:=h;simp only at h2;subst h2;obtain⟨e1,e2⟩:=(hs.hp.get i).segm2 (Dd hc.1) (bl _ hc.2)
       have hg:g= .tt/\i<st.hp.length:=by
        unfold KZ at h1;simp only[AN] at h1;split at h1
        . rename_i hb;simp only[Ah] at hb;simp only[B8,Al] at h1;obtain⟨_,_,rfl,_⟩:=h1;exact⟨rfl,Dd hb.1.1⟩
        . cases h1
       obtain⟨rfl,hi⟩:=hg;obtain⟨s',e3,e4⟩:=ZB (p:=.ptr i o) hs (.inr rfl) h1 trivial;refine⟨s',?_,e4⟩;simp only[JF,hp,DV.enc];rw[Ac ⟨by rw[<- hs.hp.len];exact hi,e2,by rw[e1];exact WI _ hc.2⟩];exact e3
     . cases h
   |_=>rw[hv] at h;cases h
theorem ay:∀ {res:List ARes} {st st':DS} {s:PS} {vs:List DV},ES st s->Iz st res=some (vs,st')->DV.okL vs=true->∃ s',IA s res=some (DV.encL vs,s')/\ES st' s'
 | [],st,st',s,vs,hs,h,_=>by
   simp only[Iz,Ak,Al] at h
   obtain⟨rfl,rfl⟩:=h
   exact⟨s,rfl,hs⟩
 | r :: rs,st,st',s,vs,hs,h,hk=>by
   simp only[Iz] at h
   split at h
   . rename_i v st1 h1
     split at h
     . rename_i vs1 st2 h2
       simp only[Ak,Al] at h
       obtain⟨rfl,rfl⟩:=h
       simp only[DV.okL,Ah] at hk
       obtain⟨s1,e1,e2⟩:=bm hs h1 hk.1
       obtain⟨s2,e3,e4⟩:=ay e2 h2 hk.2
       exact⟨s2,by simp only[IA,e1,e3,DV.encL],e4⟩
     . cases h
   . cases h
theorem mN:∀ {res:List ARes} {st:DS} {s:PS} {v:DV},ES st s->Hb st res=some v->v.ok=true->∃ s',IU s res=some (v.enc,s'):=by
 have gen:∀ {res:List ARes} {st:DS} {s:PS} {v:DV},ES st s->v.ok=true->(Iz st res).map (λ x=>DV.tup x.1)=some v->∃ s',(IA s res).map (fun(vs,st)=>(PV.tup vs,st))=some (v.enc,s'):=λ hs hv h=>by
  simp only[B8] at h;obtain⟨⟨vs,st'⟩,h1,rfl⟩:=h;obtain⟨s',e1,_⟩:=ay hs h1 hv;exact⟨s',by rw[e1];rfl⟩
 intro res st s v hs h hv
 cases res with
 |nil=>exact gen (res:=[]) hs hv h
 | cons r rs=>
   cases rs with
   | nil=>
     simp only[Hb,B8] at h;obtain⟨⟨v',st'⟩,h1,rfl⟩:=h;obtain⟨s',e1,_⟩:=bm hs h1 hv;exact⟨s',e1⟩
   |cons r2 rs=>exact gen (res:=r::r2::rs) hs hv h
theorem Qe {res:List ARes}:∀ {t:DT} {g:PX} {v:DV},t.val res=(g,some v)->v≠.any->g.den ->
 t.ok.den/\∃ e st v0,t.lf=some (e,st)/\(∀ i,e≠.exit i)/\Hb st res=some v0/\v0.ok=true/\v.enc=v0.enc
 | .leaf e st,g,v,h,hv,hg=>by
   have gen:(match Hb st res with|some v=>if (v.ok&&!v.hasPtr)=true then (PX.tt,some v) else (PX.ff,none)|none=>(PX.ff,none))=(g,some v)->Hb st res=some v/\v.ok=true:=λ h=>by
    split at h
    . split at h
      . rename_i h1 h2;simp only[Al,Ak] at h;obtain⟨_,rfl⟩:=h;simp only[Ah] at h2;exact⟨h1,h2.1⟩
      . simp at h
    . simp at h
   cases e with
   |exit i=>simp[DT.val] at h
   |normal=>obtain⟨h1,h2⟩:=gen h;exact⟨trivial,.normal,st,v,rfl,by simp,h1,h2,rfl⟩
   |ret=>obtain⟨h1,h2⟩:=gen h;exact⟨trivial,.ret,st,v,rfl,by simp,h1,h2,rfl⟩
 | .node c a b,g,v,h,hv,hg=>by
   simp only[DT.val] at h
   have hno:∀ {t:DT} {g:PX},t.val res=(g,none)->¬ g.den:=by
    intro t
    induction t with
    | leaf e st=>
      intro g h;cases e<;>simp only[DT.val] at h<;>(repeat' split at h)<;>simp only[Al,reduceCtorEq,and_false,Jz] at h<;>subst h<;>exact id
    | node c x y ih1 ih2=>
      intro g h hg;simp only[DT.val] at h
      cases h1:x.val res with
      | mk g1 v1=>
        cases h2:y.val res with
        | mk g2 v2=>
          rw[h1,h2] at h
          cases v1 with
          | none=>
            simp only[Al] at h;obtain⟨rfl,rfl⟩:=h;have:=(PX.if_den _ _ _).mp hg
            cases c with
            |true=>exact ih1 h1 (this.1 rfl)
            |false=>exact ih2 h2 (this.2 rfl)
          |some v1=>cases v2<;>simp at h
    | chk g0 t ih=>
      intro g h hg;simp only[DT.val] at h
      cases h1:t.val res with
      | mk g1 v1=>
        rw[h1] at h;simp only[Al] at h;obtain⟨rfl,rfl⟩:=h;exact ih h1 ((PX.land_den _ _).mp hg).2
    | bad=>
      intro g h;simp only[DT.val,Al,Jz] at h;subst h;exact id
   cases h1:a.val res with
   | mk g1 v1=>
     cases h2:b.val res with
     | mk g2 v2=>
       rw[h1,h2] at h
       have fin:∀ (v1 v2:DV),g=PX.if' c g1 g2->a.val res=(g1,some v1)->b.val res=(g2,some v2)->v=DD c v1 v2->(DT.node c a b).ok.den/\∃ e st v0,(DT.node c a b).lf=some (e,st)/\(∀ i,e≠.exit i)/\Hb st res=some v0/\v0.ok=true/\v.enc=v0.enc:=by
        intro v1 v2 hgg h1 h2 hvv;subst hgg;have hg:=(PX.if_den _ _ _).mp hg;have he:=(Xv c v1 v2).resolve_left (by rw[<- hvv];exact hv);rw[<- hvv] at he
        have n1:v1≠.any:=by rintro rfl;apply hv;rw[hvv];cases v2<;>rfl
        have n2:v2≠.any:=by rintro rfl;apply hv;rw[hvv];cases v1<;>rfl
        show (PX.if' c a.ok b.ok).den/\∃ e st v0,(DT.node c a b).lf=some (e,st)/\(∀ i,e≠.exit i)/\Hb st res=some v0/\v0.ok=true/\v.enc=v0.enc;rw[PX.if_den]
        cases c with
        | true=>
          obtain⟨k1,e,st,v0,k2,k3,k4,k5,k6⟩:=Qe h1 n1 (hg.1 rfl);exact⟨⟨λ _=>k1,λ h=>by cases h⟩,e,st,v0,k2,k3,k4,k5,by rw[he];exact k6⟩
        | false=>
          obtain⟨k1,e,st,v0,k2,k3,k4,k5,k6⟩:=Qe h2 n2 (hg.2 rfl);exact⟨⟨λ h=>(by cases h),λ _=>k1⟩,e,st,v0,k2,k3,k4,k5,by rw[he];exact k6⟩
       cases v1 with
       | none=>
         simp only[Al] at h;obtain⟨rfl,rfl⟩:=h;have hg:=(PX.if_den _ _ _).mp hg;show (PX.if' c a.ok b.ok).den/\_;rw[PX.if_den]
         cases c with
         |true=>exact absurd (hg.1 rfl) (hno h1)
         | false=>
           obtain⟨k1,e,st,v0,k2,k3,k4,k5,k6⟩:=Qe h2 hv (hg.2 rfl);exact⟨⟨λ h=>(by cases h),λ _=>k1⟩,e,st,v0,k2,k3,k4,k5,k6⟩
       | some v1=>
         cases v2 with
         | none=>
           simp only[Al,Ak] at h;obtain⟨rfl,rfl⟩:=h;have hg:=(PX.if_den _ _ _).mp hg;show (PX.if' c a.ok b.ok).den/\_;rw[PX.if_den]
           cases c with
           |false=>exact absurd (hg.2 rfl) (hno h2)
           | true=>
             obtain⟨k1,e,st,v0,k2,k3,k4,k5,k6⟩:=Qe h1 hv (hg.1 rfl);exact⟨⟨λ _=>k1,λ h=>by cases h⟩,e,st,v0,k2,k3,k4,k5,k6⟩
         | some v2=>
           simp only[Al,Ak] at h;exact fin v1 v2 h.1.symm h1 h2 h.2.symm
 | .chk g0 t,g,v,h,hv,hg=>by
   simp only[DT.val] at h
   cases h1:t.val res with
   | mk g1 v1=>
     rw[h1] at h;simp only[Al] at h;obtain⟨rfl,rfl⟩:=h;have hg:=(PX.land_den _ _).mp hg;obtain⟨k1,k2⟩:=Qe h1 hv hg.2;exact⟨(PX.land_den _ _).mpr ⟨hg.1,k1⟩,k2⟩
 |.bad,g,v,h,hv,hg=>by simp[DT.val] at h
theorem EL.append:∀ {a:List DC} {b:List PV} {c:List DC} {d:List PV},EL a b->EL c d->EL (a++c) (b++d)
 |[],[],_,_,_,h=>h
 |_::_,_::_,_,_,h,h'=>⟨h.1,EL.append h.2 h'⟩
theorem Pr:∀ (n:Nat),EL (FD n) (HJ n)
 |0=>trivial
 |n+1=>⟨.inl rfl,Pr n⟩
theorem Ps:∀ (n:Nat),EB (Fy n) (JM n)
 |0=>trivial
 |n+1=>⟨.inl rfl,Ps n⟩
theorem yI {f:DFun} (ho:AllD f.body.obs) {args:List DV} {g:PX} {v:DV} (h:Tf f args=(g,some v)) (hg:g.den) (hv:v≠.any) (hl:args.length=f.nparams) (hp:f.pure=true->v.flt=true)
 {Q:PV->List (List PV)->Prop} (hQ:∀ H,Q v.enc H):Da f.er (DV.encL args) [] Q:=by
 unfold Tf at h
 obtain⟨hok,e,st,v0,h1,h2,h3,h4,h5⟩:=Qe h hv hg
 refine⟨by rw[E3];exact hl,λ _=>rfl,?_⟩
 refine Ga f.body ho (d:=⟨news args++FD (f.nslots-f.nparams),Fy f.nbox,[]⟩) ⟨(EL.news args).append (Pr _),Ps _,trivial⟩ hok h1 λ s' hs'=>?_
 obtain⟨s2,e2⟩:=mN hs' h3 h4
 rw[<- h5] at e2
 have fin:(match IU s' f.res with|some (v,st)=>if f.pure=true then v.flt=true/\Q v [] else Q v st.hp|none=>False):=by
  rw[e2];simp only;split
  . rename_i hpu;exact⟨cg v (hp hpu),hQ _⟩
  . exact hQ _
 cases e with
 |normal=>exact fin
 |ret=>exact fin
 |exit i=>exact absurd rfl (h2 i)
def TuX:List HT->Type
 |[]=>Unit
 |[a]=>a.D
 |a::r=>a.D×TuX r
def FO:(l:List HT)->List DV->Option (TuX l)
 |[],[]=>some ()
 |[a],[v]=>a.of v
 | a::b::r,v::vs=>(match a.of v,FO (b::r) vs with
   |some x,some y=>some (x,y)
   |_,_=>none)
 |_,_=>none
def Dq:(l:List HT)->TuX l->List DV
 |[],_=>[]
 |[a],x=>[a.dv x]
 |a::b::r,x=>a.dv x.1::Dq (b::r) x.2
inductive QT where
 |one (h:HT)|tup (l:List HT)
def QT.D:QT->Type
 |.one h=>h.D
 |.tup l=>TuX l
def QT.of:(q:QT)->DV->Option q.D
 |.one h,v=>h.of v
 |.tup l,.tup vs=>FO l vs
 |.tup _,_=>none
def QT.dv:(q:QT)->q.D->DV
 |.one h,x=>h.dv x
 |.tup l,x=>.tup (Dq l x)
def QT.ofO(q:QT):Option DV->Option q.D
 |some v=>q.of v
 |none=>none
def Ss:(l:List (Ql×CT))->AgX l
 |[]=>()
 |[a]=>a.2.dflt
 |a::b::r=>(a.2.dflt,Ss (b::r))
def HT.dflt:(h:HT)->h.D
 |.one _ t=>t.dflt
 |.agg l=>Ss l
def na:(l:List HT)->TuX l
 |[]=>()
 |[a]=>a.dflt
 |a::b::r=>(a.dflt,na (b::r))
def QT.dflt:(q:QT)->q.D
 |.one h=>h.dflt
 |.tup l=>na l
def HT.flt:HT->Bool
 |.one _ t=>t.flat
 |.agg l=>l.all λ a=>a.2.flat
def QT.flt:QT->Bool
 |.one h=>h.flt
 |.tup l=>l.all HT.flt
theorem P5:∀ {l:List HT} {vs:List DV} {x:TuX l},FO l vs=some x->DV.encL (Dq l x)=DV.encL vs
 |[],[],_,_=>rfl
 | [a],[v],x,h=>by
   show [(a.dv x).enc]=[v.enc]
   rw[(S0 (t:=a) h).1]
 | a :: b::r,v::vs,x,h=>by
   have h':(match a.of v,FO (b::r) vs with|some x,some y=>some (x,y)|_,_=>none)=some x:=h
   clear h
   cases h1:a.of v with
   |none=>rw[h1] at h';cases h'
   | some p=>
     cases h2:FO (b::r) vs with
     |none=>rw[h1,h2] at h';cases h'
     | some q=>
       rw[h1,h2] at h'
       have h':=C9 h'
       subst h'
       show (a.dv p).enc::DV.encL (Dq (b::r) q)=v.enc::DV.encL vs
       rw[(S0 h1).1,P5 h2]
theorem X5{q:QT}{v:DV}{x:q.D}(h:q.of v=some x):(q.dv x).enc=v.enc/\v≠.any:=by
 cases q with
 |one t=>exact S0 (t:=t) h
 | tup l=>
   cases v<;>try (cases h;done)
   rename_i cs;refine⟨?_,by simp⟩;show PV.tup _=PV.tup _;rw[P5 (l:=l) h]
theorem Na:∀ (l:List HT) (x:TuX l),(Dq l x).length=l.length
 |[],_=>rfl
 |[_],_=>rfl
 | a::b::r,x=>by
   show (Dq (b::r) x.2).length+1=(b::r).length+1
   rw[Na (b::r) x.2]
theorem du{q:Ql}{t:CT}{v:DV}{x:t.D}(hf:t.flat=true)(h:t.ofQ q v=some x):v.flt=true:=by
 cases t<;>first|(cases hf;done)|skip
 all_goals (cases v<;>first|rfl|(cases h;done))
theorem m0:∀ {l:List (Ql×CT)} {vs:List DV} {x:AgX l},l.all (λ a=>a.2.flat)=true->Fg l vs=some x->DV.fltL vs=true
 |[],[],_,_,_=>rfl
 | [a],[v],x,hf,h=>by
   simp only[GB,List.all_nil,Mh] at hf
   simp only[DV.fltL,du (q:=a.1) hf h,Dm]
 | a :: b::r,v::vs,x,hf,h=>by
   have h':(match a.2.ofQ a.1 v,Fg (b::r) vs with|some x,some y=>some (x,y)|_,_=>none)=some x:=h
   clear h
   rw[GB,Ah] at hf
   cases h1:a.2.ofQ a.1 v with
   |none=>rw[h1] at h';cases h'
   | some p=>
     cases h2:Fg (b::r) vs with
     |none=>rw[h1,h2] at h';cases h'
     |some q=>simp only[DV.fltL,du hf.1 h1,m0 hf.2 h2,Dm]
theorem df{t:HT}{v:DV}{x:t.D}(hf:t.flt=true)(h:t.of v=some x):v.flt=true:=by
 cases t with
 |one q t=>exact du (q:=q) (t:=t) hf h
 | agg l=>
   cases v<;>try (cases h;done)
   exact m0 (l:=l) hf h
theorem nk:∀ {l:List HT} {vs:List DV} {x:TuX l},l.all HT.flt=true->FO l vs=some x->DV.fltL vs=true
 |[],[],_,_,_=>rfl
 | [a],[v],x,hf,h=>by
   simp only[GB,List.all_nil,Mh] at hf
   simp only[DV.fltL,df (t:=a) hf h,Dm]
 | a :: b::r,v::vs,x,hf,h=>by
   have h':(match a.of v,FO (b::r) vs with|some x,some y=>some (x,y)|_,_=>none)=some x:=h
   clear h
   rw[GB,Ah] at hf
   cases h1:a.of v with
   |none=>rw[h1] at h';cases h'
   | some p=>
     cases h2:FO (b::r) vs with
     |none=>rw[h1,h2] at h';cases h'
     |some q=>simp only[DV.fltL,df hf.1 h1,nk hf.2 h2,Dm]
theorem mU{q:QT}{v:DV}{x:q.D}(hf:q.flt=true)(h:q.of v=some x):v.flt=true:=by
 cases q with
 |one t=>exact df (t:=t) hf h
 | tup l=>
   cases v<;>try (cases h;done)
   exact nk (l:=l) hf h
def dA(hs:List HT)(q:QT)(ok:TuX hs->Prop)(v:TuX hs->q.D):Mp:=λ args=>match FO hs args with
 |some x=>some (.p (ok x),q.dv (v x))
 |none=>none
def DT.valQ(q:QT)(res:List ARes):DT->PX×Option q.D
 |.leaf (.exit _) _=>(.ff,none)
 | .leaf _ st=>(match Hb st res with
   | some v=>if v.ok&&!v.hasPtr then (match q.of v with
     |some y=>(.tt,some y)
     |none=>(.ff,none)) else (.ff,none)
   |none=>(.ff,none))
 | .node c a b=>(match a.valQ q res,b.valQ q res with
   |(g,none),(g',y)=>(PX.if' c g g',y)
   |(g,x),(g',none)=>(PX.if' c g g',x)
   |(g,some x),(g',some y)=>(PX.if' c g g',some (bSel c x y)))
 | .chk g t=>(match t.valQ q res with
   |(g',v)=>(g.land g',v))
 |.bad=>(.ff,none)
theorem RH{q:QT}{res:List ARes}:∀ {t:DT} {g:PX},t.valQ q res=(g,none)->¬ g.den
 | .leaf e st,g,h=>by
   cases e<;>simp only[DT.valQ] at h<;>(repeat' split at h)<;>simp only[Al,reduceCtorEq,and_false,Jz] at h<;>subst h<;>exact id
 | .node c x y,g,h=>by
   intro hg
   simp only[DT.valQ] at h
   cases h1:x.valQ q res with
   | mk g1 v1=>
     cases h2:y.valQ q res with
     | mk g2 v2=>
       rw[h1,h2] at h
       cases v1 with
       | none=>
         simp only[Al] at h
         obtain⟨rfl,rfl⟩:=h
         have:=(PX.if_den _ _ _).mp hg
         cases c with
         |true=>exact RH h1 (this.1 rfl)
         |false=>exact RH h2 (this.2 rfl)
       |some v1=>cases v2<;>simp at h
 | .chk g0 t,g,h=>by
   intro hg
   simp only[DT.valQ] at h
   cases h1:t.valQ q res with
   | mk g1 v1=>
     rw[h1] at h
     simp only[Al] at h
     obtain⟨rfl,rfl⟩:=h
     exact RH h1 ((PX.land_den _ _).mp hg).2
 | .bad,g,h=>by
   simp only[DT.valQ,Al,Jz] at h
   subst h;exact id
theorem Xw{q:QT}{res:List ARes}:∀ {t:DT} {g:PX} {y:q.D},t.valQ q res=(g,some y)->g.den ->
 t.ok.den/\∃ e st v0,t.lf=some (e,st)/\(∀ i,e≠.exit i)/\Hb st res=some v0/\v0.ok=true/\q.of v0=some y
 | .leaf e st,g,y,h,hg=>by
   have gen:(match Hb st res with|some v=>if (v.ok&&!v.hasPtr)=true then (match q.of v with|some y=>(PX.tt,some y)|none=>(PX.ff,none)) else (PX.ff,none)|none=>(PX.ff,none))=(g,some y)->∃ v,Hb st res=some v/\v.ok=true/\q.of v=some y:=λ h=>by
    split at h
    . rename_i v hv;split at h
      . rename_i hc;simp only[Ah] at hc;split at h
        . rename_i y' hy;simp only[Al,Ak] at h;obtain⟨_,rfl⟩:=h;exact⟨v,hv,hc.1,hy⟩
        . simp at h
      . simp at h
    . simp at h
   cases e with
   |exit i=>simp[DT.valQ] at h
   |normal=>obtain⟨v,h1,h2,h3⟩:=gen h;exact⟨trivial,.normal,st,v,rfl,by simp,h1,h2,h3⟩
   |ret=>obtain⟨v,h1,h2,h3⟩:=gen h;exact⟨trivial,.ret,st,v,rfl,by simp,h1,h2,h3⟩
 | .node c a b,g,y,h,hg=>by
   simp only[DT.valQ] at h;show (PX.if' c a.ok b.ok).den/\∃ e st v0,(DT.node c a b).lf=some (e,st)/\(∀ i,e≠.exit i)/\Hb st res=some v0/\v0.ok=true/\q.of v0=some y;rw[PX.if_den]
   cases h1:a.valQ q res with
   | mk g1 v1=>
     cases h2:b.valQ q res with
     | mk g2 v2=>
       rw[h1,h2] at h
       have hgg:g=PX.if' c g1 g2:=by
        cases v1<;>cases v2<;>simp only[Al] at h<;>exact h.1.symm
       subst hgg;have hg:=(PX.if_den _ _ _).mp hg
       cases c with
       | true=>
         have:v1=some y:=by
          cases v1 with
          |none=>exact absurd (hg.1 rfl) (RH h1)
          |some v1=>cases v2<;>simp only[Al,Dc] at h<;>exact h.2
         subst this;obtain⟨k1,k2⟩:=Xw h1 (hg.1 rfl);exact⟨⟨λ _=>k1,λ h=>by cases h⟩,k2⟩
       | false=>
         have:v2=some y:=by
          cases v2 with
          |none=>exact absurd (hg.2 rfl) (RH h2)
          |some v2=>cases v1<;>simp only[Al,CP] at h<;>exact h.2
         subst this;obtain⟨k1,k2⟩:=Xw h2 (hg.2 rfl);exact⟨⟨λ h=>(by cases h),λ _=>k1⟩,k2⟩
 | .chk g0 t,g,y,h,hg=>by
   simp only[DT.valQ] at h
   cases h1:t.valQ q res with
   | mk g1 v1=>
     rw[h1] at h;simp only[Al] at h;obtain⟨rfl,rfl⟩:=h;have hg:=(PX.land_den _ _).mp hg;obtain⟨k1,k2⟩:=Xw h1 hg.2;exact⟨(PX.land_den _ _).mpr ⟨hg.1,k1⟩,k2⟩
 |.bad,g,y,h,hg=>by simp[DT.valQ] at h
def QT.isB:QT->Bool
 |.one (.one _ .bool)=>true
 |_=>false
def Tq(f:DFun)(hs:List HT)(q:QT)(x:TuX hs):PX×Option q.D:=
 if q.isB then ((Tf f (Dq hs x)).1,q.ofO (Tf f (Dq hs x)).2)
 else (dev f.body ⟨news (Dq hs x)++FD (f.nslots-f.nparams),Fy f.nbox,[]⟩).valQ q f.res
def NX(f:DFun)(hs:List HT)(q:QT)(x:TuX hs):q.D:=(Tq f hs q x).2.getD q.dflt
def NN(f:DFun)(hs:List HT)(q:QT)(x:TuX hs):Prop:=(Tq f hs q x).1.den
def Qa(f:DFun)(hs:List HT)(q:QT)(x:TuX hs):Bool:=(Tq f hs q x).2.isSome
def Qi(f:DFun)(hs:List HT)(q:QT):Bool:=hs.length == f.nparams&&(!f.pure||q.flt)
theorem lB {f:DFun} {hs:List HT} {q:QT} (ho:AllD f.body.obs) (hst:Qi f hs q=true) (x:TuX hs) (hc:Qa f hs q x=true) (hok:NN f hs q x)
 {Q:PV->List (List PV)->Prop} (hQ:∀ H,Q (q.dv (NX f hs q x)).enc H):Da f.er (DV.encL (Dq hs x)) [] Q:=by
 simp only[Qi,Ah,A0,Cp,BC] at hst
 unfold Qa at hc
 unfold NX at hQ
 unfold NN at hok
 unfold Tq at hc hQ hok
 by_cases hb:q.isB=true
 . rw[Ac hb] at hc hQ hok
   cases hd:Tf f (Dq hs x) with
   | mk g o=>
     rw[hd] at hc hQ hok
     cases o with
     |none=>cases hc
     | some w=>
       obtain⟨y,hy⟩:=Option.isSome_iff_exists.mp hc;rw[hy] at hQ;have hy:q.of w=some y:=hy;obtain⟨h1,h2⟩:=X5 hy
       refine yI ho hd hok h2 (by rw[Na];exact hst.1) (λ hp=>mU (by simpa [hp] using hst.2) hy) λ H=>?_
       have:=hQ H;rw[Hs,h1] at this;exact this
 . rw[Ae hb] at hc hQ hok
   cases hd:(dev f.body ⟨news (Dq hs x)++FD (f.nslots-f.nparams),Fy f.nbox,[]⟩).valQ q f.res with
   | mk g o=>
     rw[hd] at hc hQ hok
     cases o with
     |none=>cases hc
     | some y=>
       simp only[Hs] at hQ;obtain⟨k1,e,st,v0,k2,k3,k4,k5,k6⟩:=Xw hd hok;obtain⟨h1,h2⟩:=X5 k6;refine⟨by rw[E3,Na];exact hst.1,λ _=>rfl,?_⟩
       refine Ga f.body ho (d:=⟨news (Dq hs x)++FD (f.nslots-f.nparams),Fy f.nbox,[]⟩) ⟨(EL.news _).append (Pr _),Ps _,trivial⟩ k1 k2 λ s' hs'=>?_
       obtain⟨s2,e2⟩:=mN hs' k4 k5;rw[<- h1] at e2
       have fin:(match IU s' f.res with|some (v,st)=>if f.pure=true then v.flt=true/\Q v [] else Q v st.hp|none=>False):=by
        rw[e2];simp only;split
        . rename_i hpu;exact⟨by rw[h1];exact cg _ (mU (by simpa [hpu] using hst.2) k6),hQ _⟩
        . exact hQ _
       cases e with
       |normal=>exact fin
       |ret=>exact fin
       |exit i=>exact absurd rfl (k3 i)
theorem zM{f:DFun}{hs:List HT}{q:QT}(ho:AllD f.body.obs)(hst:Qi f hs q=true)(hc:∀ x,Qa f hs q x=true){ok:TuX hs->Prop}{v:TuX hs->q.D}(hok:∀ x,ok x->NN f hs q x)(hv:∀ x,NX f hs q x=v x) :
 XC (Da f.er) (dA hs q ok v):=by
 intro args g w Q h hg hQ
 unfold dA at h
 cases hx:FO hs args with
 |none=>rw[hx] at h;cases h
 | some x=>
   rw[hx] at h;simp only[Ak,Al] at h;obtain⟨rfl,rfl⟩:=h;rw[<- P5 hx]
   exact lB ho hst x (hc x) (hok x hg) λ H=>by rw[hv];exact hQ H
attribute [irreducible] Tq NX NN Qa Qi
def Du:List (Ql×CT)->List (Ql×CT)
 |[]=>[]
 |(.frz,_)::r=>Du r
 |a::r=>a::Du r
def Gg:List (Ql×CT)->List DV->List DV
 |[],_=>[]
 |(.frz,_)::r,vs=>.any::Gg r vs
 |_::r,v::vs=>v::Gg r vs
 |_::r,[]=>.any::Gg r []
def Me:List (Ql×CT)->List DC->Option (List DV)
 |[],[]=>some []
 |(.frz,_)::r,c::l=>if c.d then none else Me r l
 | _::r,c::l=>(match Me r l with
   |some vs=>some (c.v::vs)
   |none=>none)
 |_,_=>none
def AB:List DV->List DC
 |[]=>[]
 |v::r=>⟨false,v⟩::AB r
def X8(st:DS):List ARes->Option (DV×DS)
 |[r]=>KV st r
 | rs=>(match Iz st rs with
   |some x=>some (.tup x.1,x.2)
   |none=>none)
def rP(q:QT)(cs:List (Ql×CT))(res:List ARes)(st:DS):Option (q.D×AgX (Du cs)):=
 match X8 st res with
 | some (v,st')=>if v.ok&&!v.hasPtr then (match st'.hp with
   | [blk]=>(match Me cs blk with
     | some vs=>(match q.of v,Fg (Du cs) vs with
       |some y,some b=>some (y,b)
       |_,_=>none)
     |none=>none)
   |_=>none) else none
 |none=>none
def rN(cs:List (Ql×CT))(res:List ARes)(st:DS):Option (AgX cs):=
 match X8 st res with
 | some (v,st')=>if v.isP0 then (match st'.hp with
   |[blk]=>Fg cs (BT blk)
   |_=>none) else none
 |none=>none
def DT.valR{α:Type}(R:DS->Option α):DT->PX×Option α
 |.leaf (.exit _) _=>(.ff,none)
 | .leaf _ st=>(match R st with
   |some y=>(.tt,some y)
   |none=>(.ff,none))
 | .node c a b=>(match a.valR R,b.valR R with
   |(g,none),(g',y)=>(PX.if' c g g',y)
   |(g,x),(g',none)=>(PX.if' c g g',x)
   |(g,some x),(g',some y)=>(PX.if' c g g',some (bSel c x y)))
 | .chk g t=>(match t.valR R with
   |(g',v)=>(g.land g',v))
 |.bad=>(.ff,none)
theorem RF{α:Type}{R:DS->Option α}:∀ {t:DT} {g:PX},t.valR R=(g,none)->¬ g.den
 | .leaf e st,g,h=>by
   cases e<;>simp only[DT.valR] at h<;>(repeat' split at h)<;>simp only[Al,reduceCtorEq,and_false,Jz] at h<;>subst h<;>exact id
 | .node c x y,g,h=>by
   intro hg
   simp only[DT.valR] at h
   cases h1:x.valR R with
   | mk g1 v1=>
     cases h2:y.valR R with
     | mk g2 v2=>
       rw[h1,h2] at h
       cases v1 with
       | none=>
         simp only[Al] at h
         obtain⟨rfl,rfl⟩:=h
         have:=(PX.if_den _ _ _).mp hg
         cases c with
         |true=>exact RF h1 (this.1 rfl)
         |false=>exact RF h2 (this.2 rfl)
       |some v1=>cases v2<;>simp at h
 | .chk g0 t,g,h=>by
   intro hg
   simp only[DT.valR] at h
   cases h1:t.valR R with
   | mk g1 v1=>
     rw[h1] at h
     simp only[Al] at h
     obtain⟨rfl,rfl⟩:=h
     exact RF h1 ((PX.land_den _ _).mp hg).2
 | .bad,g,h=>by
   simp only[DT.valR,Al,Jz] at h
   subst h;exact id
theorem PO{α:Type}{R:DS->Option α}:∀ {t:DT} {g:PX} {y:α},t.valR R=(g,some y)->g.den ->
 t.ok.den/\∃ e st,t.lf=some (e,st)/\(∀ i,e≠.exit i)/\R st=some y
 | .leaf e st,g,y,h,hg=>by
   have gen:(match R st with|some y=>(PX.tt,some y)|none=>(PX.ff,none))=(g,some y)->R st=some y:=λ h=>by
    split at h
    . rename_i y' hy;simp only[Al,Ak] at h;rw[hy,h.2]
    . simp at h
   cases e with
   |exit i=>simp[DT.valR] at h
   |normal=>exact⟨trivial,.normal,st,rfl,by simp,gen h⟩
   |ret=>exact⟨trivial,.ret,st,rfl,by simp,gen h⟩
 | .node c a b,g,y,h,hg=>by
   simp only[DT.valR] at h;show (PX.if' c a.ok b.ok).den/\∃ e st,(DT.node c a b).lf=some (e,st)/\(∀ i,e≠.exit i)/\R st=some y;rw[PX.if_den]
   cases h1:a.valR R with
   | mk g1 v1=>
     cases h2:b.valR R with
     | mk g2 v2=>
       rw[h1,h2] at h
       have hgg:g=PX.if' c g1 g2:=by
        cases v1<;>cases v2<;>simp only[Al] at h<;>exact h.1.symm
       subst hgg;have hg:=(PX.if_den _ _ _).mp hg
       cases c with
       | true=>
         have:v1=some y:=by
          cases v1 with
          |none=>exact absurd (hg.1 rfl) (RF h1)
          |some v1=>cases v2<;>simp only[Al,Dc] at h<;>exact h.2
         subst this;obtain⟨k1,k2⟩:=PO h1 (hg.1 rfl);exact⟨⟨λ _=>k1,λ h=>by cases h⟩,k2⟩
       | false=>
         have:v2=some y:=by
          cases v2 with
          |none=>exact absurd (hg.2 rfl) (RF h2)
          |some v2=>cases v1<;>simp only[Al,CP] at h<;>exact h.2
         subst this;obtain⟨k1,k2⟩:=PO h2 (hg.2 rfl);exact⟨⟨λ h=>(by cases h),λ _=>k1⟩,k2⟩
 | .chk g0 t,g,y,h,hg=>by
   simp only[DT.valR] at h
   cases h1:t.valR R with
   | mk g1 v1=>
     rw[h1] at h;simp only[Al] at h;obtain⟨rfl,rfl⟩:=h;have hg:=(PX.land_den _ _).mp hg;obtain⟨k1,k2⟩:=PO h1 hg.2;exact⟨(PX.land_den _ _).mpr ⟨hg.1,k1⟩,k2⟩
 |.bad,g,y,h,hg=>by simp[DT.valR] at h
theorem Sy{p:DS->Prop}:∀ {t:DT} {e:AExit} {st:DS},t.All p->t.lf=some (e,st)->p st
 | .leaf _ _,_,_,h,hl=>by
   simp only[DT.lf,Ak,Al] at hl
   obtain⟨_,rfl⟩:=hl;exact h
 | .node c a b,_,_,h,hl=>by
   simp only[DT.lf] at hl
   cases c with
   |true=>exact Sy h.1 hl
   |false=>exact Sy h.2 hl
 |.chk _ t,_,_,h,hl=>Sy (t:=t) h hl
 |.bad,_,_,_,hl=>by cases hl
theorem jq{st st':DS}{r:ARes}{v:DV}(h:KV st r=some (v,st')):ChgS st st':=by
 cases r with
 | tmp t=>
   simp only[KV] at h;split at h
   . simp only[Ak] at h;have:=ChgS.mvOut (.t t) st;simp only[Bp,h] at this;exact this
   . cases h
 | cell t n=>
   simp only[KV] at h;split at h
   . split at h
     . simp only[B8] at h;obtain⟨⟨g,r⟩,h1,h2⟩:=h;simp only at h2;subst h2;exact ZR h1
     . cases h
   . split at h
     . simp only[B8] at h;obtain⟨⟨g,r⟩,h1,h2⟩:=h;simp only at h2;subst h2;exact ZY h1
     . cases h
   . cases h
theorem iF:∀ {rs:List ARes} {st st':DS} {vs:List DV},Iz st rs=some (vs,st')->ChgS st st'
 | [],st,st',vs,h=>by
   simp only[Iz,Ak,Al] at h
   rw[h.2];exact ChgS.refl _
 | r :: rs,st,st',vs,h=>by
   simp only[Iz] at h
   split at h
   . rename_i v st1 h1
     split at h
     . rename_i vs1 st2 h2
       simp only[Ak,Al] at h
       obtain⟨_,rfl⟩:=h
       exact(jq h1).trans (iF h2)
     . cases h
   . cases h
theorem bX{res:List ARes}{st st':DS}{s:PS}{v:DV}(hs:ES st s)(h:X8 st res=some (v,st'))(hv:v.ok=true):(∃ s',IU s res=some (v.enc,s')/\ES st' s')/\ChgS st st':=by
 have gen:∀ {res:List ARes},(match Iz st res with|some x=>some (DV.tup x.1,x.2)|none=>none)=some (v,st')->(∃ s',(IA s res).map (fun(vs,st)=>(PV.tup vs,st))=some (v.enc,s')/\ES st' s')/\ChgS st st':=λ {res} h=>by
  split at h
  . rename_i x hx;obtain⟨vs,st1⟩:=x;simp only[Ak,Al] at h;obtain⟨rfl,rfl⟩:=h;obtain⟨s',e1,e2⟩:=ay hs hx hv;exact⟨⟨s',by rw[e1];rfl,e2⟩,iF hx⟩
  . cases h
 cases res with
 |nil=>exact gen (res:=[]) h
 | cons r rs=>
   cases rs with
   |nil=>exact⟨bm hs h hv,jq h⟩
   |cons r2 rs=>exact gen (res:=r::r2::rs) h
theorem Pb:∀ {l:List (Ql×CT)} {vs:List DV} {x:AgX l},Fg l vs=some x->(∀ v∈vs,v≠.any)/\∀ v∈Cc l x,v≠.any
 |[],[],_,_=>⟨by simp,by simp[Cc]⟩
 | [a],[v],x,h=>by
   obtain⟨h1,h2⟩:=Sp (q:=a.1) (t:=a.2) h;refine⟨by simpa using h2,λ w hw=>?_⟩;have hw:w∈[a.2.dv a.1 x]:=hw;rw[List.mem_singleton] at hw;subst hw;exact dv_known _ _ _
 | a :: b::r,v::vs,x,h=>by
   have h':(match a.2.ofQ a.1 v,Fg (b::r) vs with|some x,some y=>some (x,y)|_,_=>none)=some x:=h;clear h
   cases h1:a.2.ofQ a.1 v with
   |none=>rw[h1] at h';cases h'
   | some p=>
     cases h2:Fg (b::r) vs with
     |none=>rw[h1,h2] at h';cases h'
     | some q=>
       rw[h1,h2] at h';have h':=C9 h';subst h';obtain⟨k1,k2⟩:=Pb h2;refine⟨λ w hw=>?_,λ w hw=>?_⟩
       . rcases Cz.mp hw with rfl|hw
         . exact(Sp h1).2
         . exact k1 w hw
       . have hw:w∈a.2.dv a.1 p::Cc (b::r) q:=hw;rcases Cz.mp hw with rfl|hw
         . exact dv_known _ _ _
         . exact k2 w hw
  where dv_known (q:Ql) (t:CT) (x:t.D):t.dv q x≠.any:=by cases t<;>simp[CT.dv]
theorem Wf:∀ (l:List (Ql×CT)) (x:AgX l),(∀ v∈Cc l x,v≠.any)/\(Cc l x).length=l.length
 |[],_=>⟨by simp[Cc],rfl⟩
 |[a],x=>⟨λ w hw=>by
  have hw:w∈[a.2.dv a.1 x]:=hw
  rw[List.mem_singleton] at hw
  subst hw
  exact Pb.dv_known _ _ _,rfl⟩
 | a :: b::r,x=>by
   obtain⟨h1,h2⟩:=Wf (b::r) x.2
   refine⟨λ w hw=>?_,?_⟩
   . have hw:w∈a.2.dv a.1 x.1::Cc (b::r) x.2:=hw
     rcases Cz.mp hw with rfl|hw
     . exact Pb.dv_known _ _ _
     . exact h1 w hw
   . show (Cc (b::r) x.2).length+1=(b::r).length+1
     rw[h2]
theorem WB:∀ (cs:List (Ql×CT)) {blk:List DV} {blk':List DC} {p:List PV} {vs w:List DV},EL blk' p->Chg (AB blk) blk'->Me cs blk'=some vs->DV.encL w=DV.encL vs->(∀ v∈vs,v≠.any)->(∀ v∈w,v≠.any) ->
 blk.length=cs.length->(∀ v∈blk,v≠.any)->p=DV.encL (D9 blk (Gg cs w))
 | [],blk,blk',p,vs,w,he,hc,hp,hw,hv,hvw,hl,hb=>by
   have:blk=[]:=FA hl;subst this
   cases blk' with
   | nil=>cases p with
     |nil=>rfl
     |cons=>exact he.elim
   |cons=>cases hp
 | (q, t)::r,blk,blk',p,vs,w,he,hc,hp,hw,hv,hvw,hl,hb=>by
   cases blk with
   |nil=>cases hl
   |cons v0 blk=>
   cases blk' with
   |nil=>cases q<;>cases hp
   |cons c l=>
   cases p with
   |nil=>exact he.elim
   |cons x p=>
   have hl':blk.length=r.length:=by simpa using hl
   have hb':∀ v∈blk,v≠.any:=λ v hv=>hb v (List.mem_cons_of_mem _ hv)
   by_cases hq:q= .frz
   . subst hq;have hp:(if c.d then none else Me r l)=some vs:=hp;split at hp
     . cases hp
     . rename_i hd;have hc1:c=⟨false,v0⟩:=hc.1.resolve_left hd
       have hx:x=v0.enc:=by
        rcases he.1 with h|h
        . rw[hc1] at h;exact absurd h (hb v0 (G9 ..))
        . rw[h,hc1]
       show x::p=v0.enc::DV.encL (D9 blk (Gg r w));rw[hx,WB r he.2 hc.2 hp hw hv hvw hl' hb']
   . have hp':(match Me r l with|some vs=>some (c.v::vs)|none=>none)=some vs:=by
      cases q<;>first|exact absurd rfl hq|exact hp
     cases hpr:Me r l with
     |none=>rw[hpr] at hp';cases hp'
     | some vs1=>
       rw[hpr] at hp';have hp':=C9 hp';subst hp'
       cases w with
       |nil=>cases hw
       |cons w0 w=>
       simp only[DV.encL,G5] at hw
       have hx:x=w0.enc:=by
        rcases he.1 with h|h
        . exact absurd h (hv c.v (G9 ..))
        . rw[h,hw.1]
       have hw0:w0.isAny=false:=by
        have:=hvw w0 (G9 ..)
        cases w0<;>first|rfl|exact absurd rfl this
       have e:Gg ((q,t)::r) (w0::w)=w0::Gg r w:=by cases q<;>first|exact absurd rfl hq|rfl
       rw[e];simp only[D9,hw0,AL,AQ,DV.encL];rw[hx,WB r he.2 hc.2 hpr hw.2 (λ v h=>hv v (List.mem_cons_of_mem _ h)) (λ v h=>hvw v (List.mem_cons_of_mem _ h)) hl' hb']
def Ts(f:DFun)(hs:List HT)(cs:List (Ql×CT))(q:QT)(x:TuX (.agg cs::hs)):PX×Option (q.D×AgX (Du cs)):=
 match Dq (.agg cs::hs) x with
 |.agg blk::r=>(dev f.body ⟨news (.ptr 0 0::r)++FD (f.nslots-f.nparams),Fy f.nbox,[AB blk]⟩).valR (rP q cs f.res)
 |_=>(.ff,none)
def HS(f:DFun)(hs:List HT)(cs:List (Ql×CT))(q:QT)(x:TuX (.agg cs::hs)):q.D×AgX (Du cs):=(Ts f hs cs q x).2.getD (q.dflt,Ss (Du cs))
def HH(f:DFun)(hs:List HT)(cs:List (Ql×CT))(q:QT)(x:TuX (.agg cs::hs)):Prop:=(Ts f hs cs q x).1.den
def cV(f:DFun)(hs:List HT)(cs:List (Ql×CT))(q:QT)(x:TuX (.agg cs::hs)):Bool:=(Ts f hs cs q x).2.isSome
def dQ(f:DFun)(hs:List HT)(cs:List (Ql×CT)):Bool:=hs.length+1 == f.nparams&&!f.pure&&Nat.blt 0 cs.length
def IC(hs:List HT)(cs:List (Ql×CT))(q:QT)(ok:TuX (.agg cs::hs)->Prop)(v:TuX (.agg cs::hs)->q.D×AgX (Du cs)):CL:=λ args b=>match args,b with
 | a::r,[blk]=>if a.isP0 then (match FO (.agg cs::hs) (.agg blk::r) with
   |some x=>some (.p (ok x),q.dv (v x).1,[Gg cs (Cc (Du cs) (v x).2)])
   |none=>none) else none
 |_,_=>none
theorem zY(cs:List (Ql×CT))(hs:List HT)(x:TuX (.agg cs::hs)):∃ r b,Dq (.agg cs::hs) x= .agg (Cc cs b)::r:=by
 cases hs with
 |nil=>exact⟨[],x,rfl⟩
 |cons a r=>exact⟨Dq (a::r) x.2,x.1,rfl⟩
theorem W1:∀ (l:List DV),EL (AB l) (DV.encL l)
 |[]=>trivial
 |_::r=>⟨.inr rfl,W1 r⟩
theorem KH {f : DFun} {hs : List HT} {cs:List (Ql×CT)} {q:QT} (ho:AllD f.body.obs) (hst:dQ f hs cs=true) (hc:∀ x,cV f hs cs q x=true) {ok:TuX (.agg cs::hs)->Prop} {v:TuX (.agg cs::hs)->q.D×AgX (Du cs)} (hok:∀ x,ok x->HH f hs cs q x) (hv:∀ x,HS f hs cs q x=v x) :
 DN (Da f.er) (IC hs cs q ok v):=by
 intro args b g w H Q h hg hQ
 simp only[dQ,Ah,A0,BC] at hst
 unfold IC at h
 split at h
 . rename_i a r blk
   split at h
   . rename_i ha
     have ha:a= .ptr 0 0:=by unfold DV.isP0 at ha;split at ha<;>first|rfl|cases ha
     subst ha
     cases hx:FO (.agg cs::hs) (.agg blk::r) with
     |none=>rw[hx] at h;cases h
     | some x=>
       rw[hx] at h;simp only[Ak,Al] at h;obtain⟨rfl,rfl,rfl⟩:=h;have he:=P5 hx;obtain⟨r',b,hd⟩:=zY cs hs x;rw[hd] at he;simp only[DV.encL,DV.enc,G5,PV.agg.injEq] at he
       have hlr:r'.length=hs.length:=by
        have:=Na (.agg cs::hs) x;rw[hd] at this;simpa using this
       have hc:=hc x;have hok:=hok x hg;unfold cV at hc;unfold HH at hok;have hvx:=hv x;unfold HS at hvx;unfold Ts at hc hok hvx;rw[hd] at hc hok hvx;simp only at hc hok hvx
       cases hdd:(dev f.body ⟨news (.ptr 0 0::r')++FD (f.nslots-f.nparams),Fy f.nbox,[AB (Cc cs b)]⟩).valR (rP q cs f.res) with
       | mk g o=>
         rw[hdd] at hc hok hvx
         cases o with
         |none=>cases hc
         | some y=>
           simp only[Hs] at hvx;obtain⟨k1,e,st,k2,k3,k4⟩:=PO hdd hok;have hchg:ChgS _ st:=Sy (G4 f.body _) k2;show Da f.er (PV.ptr 0 0::DV.encL r) [DV.encL blk] Q;rw[<- he.1,<- he.2];refine⟨by simp only[AH,E3,hlr];exact hst.1.1,λ hp=>absurd hp (by simp[DFun.er,hst.1.2]),?_⟩
           refine Ga f.body ho (d:=⟨news (.ptr 0 0::r')++FD (f.nslots-f.nparams),Fy f.nbox,[AB (Cc cs b)]⟩) (s:=⟨DV.encL (.ptr 0 0::r')++HJ (f.nslots-f.nparams),JM f.nbox,[DV.encL (Cc cs b)]⟩) ⟨(EL.news _).append (Pr _),Ps _,.inr (W1 _),trivial⟩ k1 k2 λ s' hs'=>?_
           unfold rP at k4;split at k4
           . rename_i v0 st' hr; split at k4
             . rename_i hv0; simp only[Ah,BC] at hv0;split at k4
               . rename_i blk' hblk;split at k4
                 . rename_i vs hvs;split at k4
                   . rename_i y0 b0 hy0 hb0;simp only[Ak] at k4;subst k4;obtain⟨⟨s2,e2,e3⟩,hch2⟩:=bX hs' hr hv0.1;have hch:=(hchg.trans hch2).hp;have e4:=e3.hp;rw[hblk] at hch e4
                     cases hp2:s2.hp with
                     |nil=>rw[hp2] at e4;exact e4.elim
                     | cons p l=>
                       rw[hp2] at e4
                       have hl0:l=[]:=by cases l<;>first|rfl|exact e4.2.elim
                       subst hl0
                       have hne:0<blk'.length:=by
                        cases blk' with
                        | nil=>cases cs with
                          |nil=>exact absurd hst.2 (by decide)
                          |cons a cs=>obtain⟨q0,t0⟩:=a;cases q0<;>cases hvs
                        |cons=>simp
                       have hEL:=e4.1.to hne;obtain⟨kn1,kn2⟩:=Pb hb0;obtain⟨kb1,kb2⟩:=Wf cs b;have hpb:=WB cs hEL hch.1 hvs (SI hb0) kn1 kn2 kb2 kb1;obtain⟨h1,_⟩:=X5 hy0
                       have hQ':Q (q.dv y0).enc (GG (IV [blk] [Gg cs (Cc (Du cs) b0)])):=by
                        have:=hQ;rw[<- hvx] at this;exact this
                       have hmix : DV.encL (D9 (Cc cs b) (Gg cs (Cc (Du cs) b0)))=DV.encL (D9 blk (Gg cs (Cc (Du cs) b0))):=by
                        have:∀ (a c l:List DV),DV.encL a=DV.encL c->DV.encL (D9 a l)=DV.encL (D9 c l):=by
                         intro a
                         induction a with
                         | nil=>intro c l h;cases c with
                           |nil=>rfl
                           |cons=>cases h
                         | cons x a ih=>
                           intro c l h
                           cases c with
                           |nil=>cases h
                           | cons z c=>
                             simp only[DV.encL,G5] at h
                             cases l with
                             |nil=>simp only[D9,DV.encL,h.1,h.2]
                             | cons w l=>
                               simp only[D9,DV.encL,ih c l h.2];by_cases hw:w.isAny=true
                               . rw[Ac hw,Ac hw,h.1]
                               . rw[Ae hw,Ae hw]
                        exact this _ _ _ he.1
                       have fin:(match IU s' f.res with|some (v,st)=>if f.pure=true then v.flt=true/\Q v [] else Q v st.hp|none=>False):=by
                        rw[e2];simp only[hst.1.2,AL,AQ,hp2];rw[<- h1,hpb,hmix];exact hQ'
                       cases e with
                       |normal=>exact fin
                       |ret=>exact fin
                       |exit i=>exact absurd rfl (k3 i)
                   . cases k4
                 . cases k4
               . cases k4
             . cases k4
           . cases k4
   . cases h
 . cases h
def Tp(f:DFun)(hs:List HT)(cs:List (Ql×CT))(x:TuX hs):PX×Option (AgX cs):=
 (dev f.body ⟨news (Dq hs x)++FD (f.nslots-f.nparams),Fy f.nbox,[]⟩).valR (rN cs f.res)
def Ta(f:DFun)(hs:List HT)(cs:List (Ql×CT))(x:TuX hs):AgX cs:=(Tp f hs cs x).2.getD (Ss cs)
def SZ(f:DFun)(hs:List HT)(cs:List (Ql×CT))(x:TuX hs):Prop:=(Tp f hs cs x).1.den
def cZ(f:DFun)(hs:List HT)(cs:List (Ql×CT))(x:TuX hs):Bool:=(Tp f hs cs x).2.isSome
def dH(f:DFun)(hs:List HT)(cs:List (Ql×CT)):Bool:=hs.length == f.nparams&&!f.pure&&Nat.blt 0 cs.length
def W4(hs:List HT)(cs:List (Ql×CT))(ok:TuX hs->Prop)(v:TuX hs->AgX cs):CL:=λ args b=>match b with
 | []=>(match FO hs args with
   |some x=>some (.p (ok x),.ptr 0 0,[Cc cs (v x)])
   |none=>none)
 |_=>none
theorem lr:∀ {l:List (Ql×CT)} {vs:List DV} {x:AgX l},Fg l vs=some x->vs.length=l.length
 |[],[],_,_=>rfl
 |[a],[v],x,h=>rfl
 | a :: b::r,v::vs,x,h=>by
   have h':(match a.2.ofQ a.1 v,Fg (b::r) vs with|some x,some y=>some (x,y)|_,_=>none)=some x:=h
   cases h1:a.2.ofQ a.1 v with
   |none=>rw[h1] at h';cases h'
   | some p=>
     cases h2:Fg (b::r) vs with
     |none=>rw[h1,h2] at h';cases h'
     | some q=>
       have:=lr h2
       simp only[AH] at this ⊢
       omega
theorem jm {f : DFun} {hs:List HT} {cs:List (Ql×CT)} (ho:AllD f.body.obs) (hst:dH f hs cs=true) (hc:∀ x,cZ f hs cs x=true) {ok:TuX hs->Prop} {v:TuX hs->AgX cs} (hok:∀ x,ok x->SZ f hs cs x) (hv:∀ x,Ta f hs cs x=v x) :
 DN (Da f.er) (W4 hs cs ok v):=by
 intro args b g w H Q h hg hQ
 simp only[dH,Ah,A0,BC] at hst
 unfold W4 at h
 split at h
 . cases hx : FO hs args with
   |none=>rw[hx] at h;cases h
   | some x=>
     rw[hx] at h;simp only[Ak,Al] at h;obtain⟨rfl,rfl,rfl⟩:=h;have he:=P5 hx;have hc:=hc x;have hok:=hok x hg;have hvx:=hv x;unfold cZ at hc;unfold SZ at hok;unfold Ta at hvx;unfold Tp at hc hok hvx
     cases hdd:(dev f.body ⟨news (Dq hs x)++FD (f.nslots-f.nparams),Fy f.nbox,[]⟩).valR (rN cs f.res) with
     | mk g o=>
       rw[hdd] at hc hok hvx
       cases o with
       |none=>cases hc
       | some y=>
         simp only[Hs] at hvx;obtain⟨k1,e,st,k2,k3,k4⟩:=PO hdd hok;show Da f.er (DV.encL args) [] Q;rw[<- he];refine⟨by rw[E3,Na];exact hst.1.1,λ hp=>absurd hp (by simp[DFun.er,hst.1.2]),?_⟩
         refine Ga f.body ho (d:=⟨news (Dq hs x)++FD (f.nslots-f.nparams),Fy f.nbox,[]⟩) ⟨(EL.news _).append (Pr _),Ps _,trivial⟩ k1 k2 λ s' hs'=>?_
         unfold rN at k4;split at k4
         . rename_i v0 st' hr;split at k4
           . rename_i hv0
             have hv0:v0= .ptr 0 0:=by unfold DV.isP0 at hv0;split at hv0<;>first|rfl|cases hv0
             subst hv0;split at k4
             . rename_i blk' hblk;obtain⟨⟨s2,e2,e3⟩,_⟩:=bX hs' hr rfl;have e4:=e3.hp;rw[hblk] at e4
               cases hp2:s2.hp with
               |nil=>rw[hp2] at e4;exact e4.elim
               | cons p l=>
                 rw[hp2] at e4
                 have hl0:l=[]:=by cases l<;>first|rfl|exact e4.2.elim
                 subst hl0
                 have hne:0<blk'.length:=by
                  have:=lr k4;rw[RP] at this;have:=Dd hst.2;omega
                 have hEL:=e4.1.to hne;obtain⟨kn1,_⟩:=Pb k4
                 have hpe:p=DV.encL (BT blk'):=by
                  have:∀ {a:List DC} {b:List PV},EL a b->(∀ v∈BT a,v≠.any)->b=DV.encL (BT a):=by
                   intro a
                   induction a with
                   |nil=>intro b h _;cases b<;>first|rfl|exact h.elim
                   | cons c a ih=>
                     intro b h hk
                     cases b with
                     |nil=>exact h.elim
                     | cons x b=>
                       simp only[BT,DV.encL];rcases h.1 with h1|h1
                       . exact absurd h1 (hk _ (G9 ..))
                       . rw[h1,ih h.2 λ v hv=>hk v (List.mem_cons_of_mem _ hv)]
                  exact this hEL kn1
                 have hQ':Q (.ptr 0 0) [DV.encL (Cc cs y)]:=by
                  have:=hQ;rw[<- hvx] at this;exact this
                 have fin:(match IU s' f.res with|some (v,st)=>if f.pure=true then v.flt=true/\Q v [] else Q v st.hp|none=>False):=by
                  rw[e2];simp only[hst.1.2,AL,AQ,hp2];rw[hpe,<- SI k4];exact hQ'
                 cases e with
                 |normal=>exact fin
                 |ret=>exact fin
                 |exit i=>exact absurd rfl (k3 i)
             . cases k4
           . cases k4
         . cases k4
 . cases h
attribute [irreducible] Ts HS HH cV dQ Tp Ta SZ cZ dH
open Go.RowKit Go.WideShapes Go.ChangeShapes
inductive Ty where
 |int (k:IntKind)
 |bool
 |str
 |sl (t:Ty)
 |unit
 |pair (a b:Ty)
def Ty.w:Ty->Nat
 |.int _|.bool|.str|.sl _=>1
 |.unit=>0
 |.pair a b=>a.w+b.w
def S9(P:Program)(f:TypeId->Option Ty):List Field->Nat->Option Ty
 |[],_=>some .unit
 | g::r,off=>
   match f g.type with
   |some a=>if g.offset=off/\a.w=P.cellsOf g.type then (match S9 P f r (off+a.w) with|some b=>some (.pair a b)|none=>none) else none
   |none=>none
def JS(P:Program):Nat->TypeId->Option Ty
 |0,_=>none
 | d+1,t=>
   match P.underlying t with
   |some (.int k)=>some (.int k)
   |some .bool=>some .bool
   |some .string=>some .str
   |some (.slice e)=>(match JS P d e with|some te=>if te.w=P.cellsOf e/\0<te.w then some (.sl te) else none|none=>none)
   |some (.struct fs)=>(match S9 P (JS P d) fs.toList 0 with|some ty=>if ty.w=P.cellsOf t then some ty else none|none=>none)
   |_=>none
def Sh(σ:Ad):Ty->List V->Prop
 |.int k,cs=>∃ n,cs=[.int k n]/\(Lit.int k n).wf=true
 |.bool,cs=>∃ b,cs=[.bool b]
 |.str,cs=>∃ s,cs=[.str s]/\s.length<=maxLen
 |.sl t,cs=>cs=[.nils]\/∃ (l n:Nat) (bs:List V),cs=[.slice l 0 n]/\σ[l]?=some ⟨.ro,t.w,bs⟩/\bs.length=n*t.w/\n<=maxLen/\∀ i,i<n->Sh σ t ((bs.drop (i*t.w)).take t.w)
 |.unit,cs=>cs=[]
 |.pair a b,cs=>∃ xs ys,cs=xs++ys/\Sh σ a xs/\Sh σ b ys
theorem Sh.len{σ:Ad}:∀ {ty:Ty} {cs:List V},Sh σ ty cs->cs.length=ty.w
 |.int _,_,⟨_,h,_⟩=>by rw[h];rfl
 |.bool,_,⟨_,h⟩=>by rw[h];rfl
 |.str,_,⟨_,h,_⟩=>by rw[h];rfl
 |.sl _,_,h=>by rcases h with h|⟨_,_,_,h,_⟩<;>rw[h]<;>rfl
 |.unit,_,h=>by rw[h];rfl
 |.pair a b,_,⟨xs,ys,h,h1,h2⟩=>by rw[h,Cq,h1.len,h2.len];rfl
theorem Sh.mono{σ e:Ad}:∀ {ty:Ty} {cs:List V},Sh σ ty cs->Sh (σ++e) ty cs
 |.int _,_,h=>h
 |.bool,_,h=>h
 |.str,_,h=>h
 | .sl _,_,h=>by
   rcases h with h|⟨l,n,bs,h,h1,h2,h3,h4⟩
   . exact .inl h
   . exact .inr ⟨l,n,bs,h,by rw[Bx (Ce h1)];exact h1,h2,h3,λ i hi=>(h4 i hi).mono⟩
 |.unit,_,h=>h
 |.pair _ _,_,⟨xs,ys,h,h1,h2⟩=>⟨xs,ys,h,h1.mono,h2.mono⟩
def EN(σ:Ad):Prop:=∀ (l:Nat) (b:Blk),σ[l]?=some b->b.k= .ro
def SE(ι:AA)(σ:Ad)(W:World)(ty:Ty)(cs:List Value):Prop:=
 ∃ ι' e vs,HRel ι' (σ++e) W/\Keeps ι σ ι' (σ++e)/\EN (σ++e)/\Sh (σ++e) ty vs/\vs.length=cs.length/\∀ (i:Nat) v x,vs[i]?=some v->cs[i]?=some x->v.cell=true/\∀ β,Rel ι' (σ++e) β v x
theorem HRel.lay{ι:AA}{σ:Ad}{W:World}(h:HRel ι σ W)(hro:EN σ){b off c:Nat}{wd:Nat}{bs:List V}(hb:b<W.heap.size)(hc:∀ (i:Nat) v,bs[i]?=some v->v.cell=true/\∃ x,W.cell? ⟨b,off+i,none⟩=some x/\∀ β,Rel ι σ β v x) :
 HRel (upd ι σ.length ⟨b,off,c⟩) (σ++[⟨.ro,wd,bs⟩]) W/\EN (σ++[⟨.ro,wd,bs⟩]):=by
 have K:=Ry ι σ ⟨b,off,c⟩ ⟨.ro,wd,bs⟩
 have hall:EN (σ++[⟨.ro,wd,bs⟩]):=by
  intro l blk hl;rcases Gq hl with⟨_,hl⟩|⟨_,rfl⟩
  . exact hro l blk hl
  . rfl
 refine⟨⟨λ l blk hl hk i v hv=>?_,λ l blk hl hk=>?_,λ l l' blk blk' hne hl hl' hk hk'=>?_,λ l blk hl hk=>?_⟩,hall⟩
 . rcases Gq hl with⟨hlt,hl⟩|⟨rfl,rfl⟩
   . rw[DJ _ _ _ _ (by omega)];obtain⟨a,x,b',c⟩:=h.cells l blk hl hk i v hv;exact⟨a,x,b',λ β=>(c β).cellMono K a⟩
   . rw[CI];obtain⟨a,x,b',c⟩:=hc i v hv;exact⟨a,x,b',λ β=>(c β).cellMono K a⟩
 . have:=hall l blk hl;rw[hk] at this;cases this
 . have:=hall l blk hl;rw[hk] at this;cases this
 . rcases Gq hl with⟨hlt,hl⟩|⟨rfl,rfl⟩
   . rw[DJ _ _ _ _ (by omega)];exact h.there l blk hl hk
   . rw[CI];exact hb
theorem vx{w:World}{a:Addr}{v:Value}(h:w.cell? a=some v):a.block<w.heap.size:=by
 unfold World.cell? at h;rcases BN a.block w.heap.size with h1|h1
 . exact h1
 . rw[Array.getElem?_eq_none h1] at h;cases h
theorem Xu{α:Type}{l:List α}{i:Nat}{v:α}(h:l[i]?=some v):i<l.length:=by
 rcases BN i l.length with h1|h1
 . exact h1
 . rw[BV h1] at h;cases h
section
variable {H:Type} {enc:TypeId×Value->H} {P:Program} {W:World}
theorem ir(d:Nat)(ih:∀ (t:TypeId)(ty:Ty),JS P d t=some ty->∀ (fuel:Nat)(cs:List Value) x,DataW.trod enc P W 0 (λ _=>true) true fuel t cs=some x->∀ (ι:AA)(σ:Ad),HRel ι σ W->EN σ->SE ι σ W ty cs) :
 ∀ (fs:List Field) (off:Nat) (ty:Ty),S9 P (JS P d) fs off=some ty->∀ (fuel:Nat) (cs:List Value),(∀ g∈fs,∃ x,DataW.trod enc P W 0 (λ _=>true) true fuel g.type ((cs.drop g.offset).take (P.cellsOf g.type))=some x) ->
   off+ty.w=cs.length->∀ (ι:AA) (σ:Ad),HRel ι σ W->EN σ->SE ι σ W ty (cs.drop off)
 | [],off,ty,h,fuel,cs,_,hl,ι,σ,H,hro=>by
   simp only[S9,Ak] at h;subst h;simp only[Ty.w,HF] at hl
   have:cs.drop off=[]:=by rw[hl];simp
   rw[this];exact⟨ι,[],[],by simpa using H,by simpa using Keeps.refl ι σ,by simpa using hro,rfl,rfl,by simp⟩
 | g :: r, off,ty,h,fuel,cs,hg,hl,ι,σ,H,hro=>by
   simp only[S9] at h;split at h
   . rename_i a ha;split at h
     . rename_i hc;obtain⟨h1,h2⟩:=hc;split at h
       . rename_i b hb;cases h;simp only[Ty.w] at hl;obtain⟨x,hx⟩:=hg g (by simp);rw[h1] at hx;obtain⟨ι1,e1,vs1,H1,K1,R1,S1,L1,C1⟩:=ih g.type a ha fuel _ x hx ι σ H hro;obtain⟨ι2,e2,vs2,H2,K2,R2,S2,L2,C2⟩:=ir d ih r (off+a.w) b hb fuel cs (λ g' hg'=>hg g' (by simp[hg'])) (by omega) ι1 (σ++e1) H1 R1;refine⟨ι2,e1++e2,vs1++vs2,by rw[<- Co];exact H2,by rw[<- Co];exact K1.trans K2,by rw[<- Co];exact R2,⟨vs1,vs2,rfl,by rw[<- Co];exact S1.mono,by rw[<- Co];exact S2⟩,?_,λ i v y hv hy=>?_⟩
         . rw[Cq,L1,L2];simp;omega
         . have hl1:vs1.length=a.w:=S1.len;by_cases hi:i<vs1.length
           . rw[Bx hi] at hv
             have hy':((cs.drop off).take (P.cellsOf g.type))[i]?=some y:=by
              rw[IJ,Ac (by omega)];exact hy
             obtain⟨q1,q2⟩:=C1 i v y hv hy';exact⟨q1,λ β=>by rw[<- Co];exact(q2 β).cellMono K2 q1⟩
           . rw[Db (by omega)] at hv
             have hy':(cs.drop (off+a.w))[i-vs1.length]?=some y:=by
              rw[L6] at hy ⊢
              have:off+a.w+(i-vs1.length)=off+i:=by omega
              rw[this];exact hy
             obtain⟨q1,q2⟩:=C2 _ v y hv hy';exact⟨q1,λ β=>by rw[<- Co];exact q2 β⟩
       . cases h
     . cases h
   . cases h
theorem mP{b o:Nat}(n:Nat):Addr.add ⟨b,o,none⟩ n=⟨b,o+n,none⟩:=by
 unfold Addr.add;split
 . rename_i h;subst h;rfl
 . rfl
theorem iG {d:Nat} (ih:∀ (t:TypeId) (ty:Ty),JS P d t=some ty->∀ (fuel:Nat) (cs:List Value) x,DataW.trod enc P W 0 (λ _=>true) true fuel t cs=some x->∀ (ι:AA) (σ:Ad),HRel ι σ W->EN σ->SE ι σ W ty cs)
 {e:TypeId} {te:Ty} (hte:JS P d e=some te) (hw:te.w=P.cellsOf e) {fuel b o:Nat} :
 ∀ (n:Nat),(∀ i,i<n->∃ cs x,W.cells? 0 ⟨b,o+i*te.w,none⟩ te.w=some cs/\DataW.trod enc P W 0 (λ _=>true) true fuel e cs=some x)->∀ (ι:AA) (σ:Ad),HRel ι σ W->EN σ ->
   ∃ (ι':AA) (ext:Ad) (bs:List V),HRel ι' (σ++ext) W/\Keeps ι σ ι' (σ++ext)/\EN (σ++ext)/\bs.length=n*te.w/\(∀ i,i<n->Sh (σ++ext) te ((bs.drop (i*te.w)).take te.w)) /\
     ∀ (j:Nat) v,bs[j]?=some v->v.cell=true/\∃ x,W.cell? ⟨b,o+j,none⟩=some x/\∀ β,Rel ι' (σ++ext) β v x
 |0,_,ι,σ,H0,hro=>⟨ι,[],[],by simpa using H0,by simpa using Keeps.refl ι σ,by simpa using hro,by simp,λ i hi=>absurd hi (Xg i),by simp⟩
 | n + 1,hn,ι,σ,H0,hro=>by
   obtain⟨ι1,e1,bs,H1,K1,R1,L1,S1,C1⟩:=iG ih hte hw n (λ i hi=>hn i (Nat.lt_succ_of_lt hi)) ι σ H0 hro;obtain⟨cs,x,hc,hx⟩:=hn n (Xf n);obtain⟨ι2,e2,vs,H2,K2,R2,S2,L2,C2⟩:=ih e te hte fuel cs x hx ι1 (σ++e1) H1 R1;obtain⟨_,hcl,hcg⟩:=World.cells?_some hc;refine⟨ι2,e1++e2,bs++vs,by rw[<- Co];exact H2,by rw[<- Co];exact K1.trans K2,by rw[<- Co];exact R2,?_,λ i hi=>?_,λ j v hv=>?_⟩
   . rw[Cq,L1,L2,hcl,Nv]
   . rw[<- Co];by_cases h:i<n
     . have h1:(i+1)*te.w<=n*te.w:=KR _ h;rw[Nv] at h1
       have:((bs++vs).drop (i*te.w)).take te.w=(bs.drop (i*te.w)).take te.w:=by
        rw[List.drop_append_of_le_length (by omega),List.take_append_of_le_length (by rw[Nz];omega)]
       rw[this];exact(S1 i h).mono
     . have:i=n:=by omega
       subst this
       have:((bs++vs).drop (i*te.w)).take te.w=vs:=by
        rw[<- L1,List.drop_left,P1 (by omega)]
       rw[this];exact S2
   . by_cases h:j<bs.length
     . rw[Bx h] at hv;obtain⟨q1,y,q2,q3⟩:=C1 j v hv;exact⟨q1,y,q2,λ β=>by rw[<- Co];exact(q3 β).cellMono K2 q1⟩
     . rw[Db (by omega)] at hv;have hlt:=Xu hv
       have hlt':j-bs.length<te.w:=by rw[<- hcl,<- L2];exact hlt
       have hg:=hcg (j-bs.length) hlt';rw[mP] at hg
       have e0:o+n*te.w+(j-bs.length)=o+j:=by omega
       rw[e0] at hg;obtain⟨y,hy⟩:∃ y,cs[j-bs.length]?=some y:=⟨_,Bf (by omega)⟩;obtain⟨q1,q2⟩:=C2 _ v y hv hy;exact⟨q1,y,hg.trans hy,λ β=>by rw[<- Co];exact q2 β⟩
theorem Zt:∀ (d:Nat) (t:TypeId) (ty:Ty),JS P d t=some ty->∀ (fuel:Nat) (cs:List Value) x,DataW.trod enc P W 0 (λ _=>true) true fuel t cs=some x->∀ (ι:AA) (σ:Ad),HRel ι σ W->EN σ->SE ι σ W ty cs
 |0,_,_,h=>by simp[JS] at h
 | d + 1, t, ty,h=>by
   intro fuel cs x hx ι σ H0 hro
   have one:∀ (v:V) (y:Value),cs=[y]->v.cell=true->(∀ β,Rel ι σ β v y)->Sh σ ty [v]->SE ι σ W ty cs:=by
    intro v y hc hv hr hs;refine⟨ι,[],[v],by simpa using H0,by simpa using Keeps.refl ι σ,by simpa using hro,by simpa using hs,by rw[hc];rfl,λ i u z hu hz=>?_⟩;rw[hc] at hz
    cases i with
    |zero=>simp at hu hz;subst hu;subst hz;exact⟨hv,by simpa using hr⟩
    |succ i=>simp at hu
   unfold JS at h;split at h
   . rename_i k hu;cases h;obtain⟨n,hc,_,hwf⟩:=DataW.trod_int hu hx;exact one (.int k n) _ hc rfl (λ β=>.int k n) ⟨n,rfl,hwf⟩
   . rename_i hu;cases h;obtain⟨b,hc,_⟩:=DataW.trod_bool hu hx;exact one (.bool b) _ hc rfl (λ β=>.bool b) ⟨b,rfl⟩
   . rename_i hu;cases h;obtain⟨s,hc,_,hwf⟩:=DataW.trod_string hu hx;exact one (.str s.data.toList) _ hc rfl (λ β=>by have:=Rel.str (ι:=ι) (σ:=σ) (β:=β) s.data.toList;simpa using this) ⟨s.data.toList,rfl,by simpa using hwf⟩
   . rename_i e hu;split at h
     . rename_i te hte;split at h
       . rename_i hw;obtain⟨hw,hpos⟩:=hw;cases h;rcases DataW.trod_slice hu hx with⟨hc,_⟩|⟨a,len,cap,elems,rest,n,_,hc,_,_,hle,hcap,hel,hE,hR,_⟩
         . exact one .nils _ hc rfl (λ β=>.nils none) (.inl rfl)
         . obtain⟨hrl,hR⟩:=hR rfl
           have hcell:∀ i,i<cap->∃ cs' y,W.cells? 0 (a.add (i*P.cellsOf e)) (P.cellsOf e)=some cs'/\DataW.trod enc P W 0 (λ _=>true) true n e cs'=some y:=by
            intro i hi;by_cases h:i<len
            . have h1:=hE i h;obtain⟨y,hy⟩:∃ y,elems[i]?=some y:=⟨_,Bf (by omega)⟩;rw[hy,B9] at h1;obtain⟨cs',h1,h2⟩:=h1;exact⟨cs',y,h1,h2⟩
            . have h1:=hR (i-len) (by omega);obtain⟨y,hy⟩:∃ y,rest[i-len]?=some y:=⟨_,Bf (by omega)⟩;rw[hy,B9] at h1;obtain⟨cs',h1,h2⟩:=h1;rw[show len+(i-len)=i by omega] at h1;exact⟨cs',y,h1,h2⟩
           by_cases hc0:cap=0
           . subst hc0
             have:len=0:=by omega
             subst this;exact one .nils _ hc rfl (λ β=>.nils (some a)) (.inl rfl)
           . have hsp:a.spot=none/\a.block<W.heap.size:=by
              obtain⟨cs',y,h1,_⟩:=hcell 0 (by omega);obtain⟨_,h2,h3⟩:=World.cells?_some h1;have h4:=h3 0 (by omega);obtain⟨z,hz⟩:∃ z,cs'[0]?=some z:=⟨_,Bf (by omega)⟩;rw[hz] at h4
              have h5:W.cell? a=some z:=by simpa [Addr.add] using h4
              exact⟨World.cell?_spot h5,vx h5⟩
             obtain⟨ab,ao,asp⟩:=a;obtain⟨hsp,hlt⟩:=hsp;simp only at hsp hlt;subst hsp
             have hcell':∀ i,i<len->∃ cs' y,W.cells? 0 ⟨ab,ao+i*te.w,none⟩ te.w=some cs'/\DataW.trod enc P W 0 (λ _=>true) true n e cs'=some y:=by
              intro i hi;have:=hcell i (by omega);rw[mP,<- hw] at this;exact this
             obtain⟨ι1,e1,bs,H1,K1,R1,L1,S1,C1⟩:=iG (Zt d) hte hw len hcell' ι σ H0 hro;obtain⟨H2,R2⟩:=H1.lay R1 (c:=cap*te.w) (wd:=te.w) hlt C1;have K2:=Ry ι1 (σ++e1) ⟨ab,ao,cap*te.w⟩ ⟨.ro,te.w,bs⟩
             have hg:((σ++e1)++[(⟨.ro,te.w,bs⟩:Blk)])[(σ++e1).length]?=some ⟨.ro,te.w,bs⟩:=by simp
             refine⟨_,e1++[⟨.ro,te.w,bs⟩],[.slice (σ++e1).length 0 len],by rw[<- Co];exact H2,by rw[<- Co];exact K1.trans K2,by rw[<- Co];exact R2,.inr ⟨_,len,bs,rfl,by rw[<- Co];exact hg,L1,by omega,λ i hi=>by rw[<- Co];exact(S1 i hi).mono⟩,by rw[hc];rfl,λ i u z hu hz=>?_⟩;rw[hc] at hz
             cases i with
             | zero=>
               simp at hu hz;subst hu;subst hz;refine⟨rfl,λ β=>?_⟩;have:=Rel.slice (ι:=upd ι1 (σ++e1).length ⟨ab,ao,cap*te.w⟩) (σ:=(σ++e1)++[⟨.ro,te.w,bs⟩]) (β:=β) (σ++e1).length 0 len cap ⟨.ro,te.w,bs⟩ hg hle (by rw[CI];simp) (by first|assumption|(simp only;omega));rw[CI] at this;simpa using this
             |succ i=>simp at hu
       . cases h
     . cases h
   . rename_i fs hu;split at h
     . rename_i ty' hty;split at h
       . rename_i hw;cases h;obtain⟨xs,n,_,_,hl,hxl,hf⟩:=DataW.trod_struct hu hx
         have:=ir (enc:=enc) d (Zt d) fs.toList 0 _ hty n cs (λ g hg=>by
          obtain⟨i,hi⟩:=JB hg;have h1:=hf i g (by simpa using hi)
          have:i<xs.length:=by rw[hxl];have:=Xu hi;simpa using this
          exact⟨_,h1.trans (Bf this)⟩) (by omega) ι σ H0 hro
         simpa using this
       . cases h
     . cases h
   . cases h
end
open Go.RowKit Go.WideShapes Go.ChangeShapes
def dK(P:Program)(d:Nat)(t:TypeId):Option (Ty×Bool):=
 match JS P d t with
 | some ty=>(match P.underlying t with
   |some (.struct _)=>some (ty,true)
   |some (.int _)|some .bool|some .string|some (.slice _)=>some (ty,false)
   |_=>none)
 |none=>none
def PW(P:Program)(d:Nat):List TypeId->Option (List (Ty×Bool))
 |[]=>some []
 | t::r=>match dK P d t,PW P d r with
   |some a,some b=>some (a::b)
   |_,_=>none
def ArgOk(σ:Ad):Ty×Bool->V->Prop
 |(ty,true),v=>∃ cs,v= .agg cs/\Sh σ ty cs/\cs.all V.cell=true
 |(ty,false),v=>Sh σ ty [v]/\v.cell=true
def P3(σ:Ad):List (Ty×Bool)->List V->Prop
 |[],[]=>True
 |a::r,v::s=>ArgOk σ a v/\P3 σ r s
 |_,_=>False
theorem ArgOk.mono{σ e:Ad}{a:Ty×Bool}{v:V}(h:ArgOk σ a v):ArgOk (σ++e) a v:=by
 obtain⟨ty,b⟩:=a
 cases b with
 |true=>obtain⟨cs,h1,h2,h3⟩:=h;exact⟨cs,h1,h2.mono,h3⟩
 |false=>exact⟨h.1.mono,h.2⟩
theorem ArgOk.noBox{σ:Ad}{a:Ty×Bool}{v:V}(h:ArgOk σ a v):∀ i o,v≠.box i o:=by
 obtain⟨ty,b⟩:=a;intro i o e;subst e
 cases b with
 |true=>obtain⟨cs,h1,_⟩:=h;cases h1
 |false=>have:=h.2;cases this
section
variable {H:Type} {enc:TypeId×Value->H} {P:Program} {W:World} {r:Reach} {base:Nat}
theorem Zag {d:Nat} {t:TypeId} {a:Ty×Bool} (ha:dK P d t=some a) {v:Value} {dd:DataW H} {ps:List MemPlace} (h:DataW.Trod enc P W 0 (λ _=>true) true t v dd ps) (hok:Value.okWide P W r base t v)
 (ι:AA) (σ:Ad) (H0:HRel ι σ W) (hro:EN σ) :
 ∃ ι' e u,HRel ι' (σ++e) W/\Keeps ι σ ι' (σ++e)/\EN (σ++e)/\ArgOk (σ++e) a u/\∀ β,Rel ι' (σ++e) β u v:=by
 unfold dK at ha
 split at ha
 . rename_i ty hty
   obtain⟨fuel,hx⟩:=h;obtain⟨ι',e,vs,h1,h2,h3,h4,h5,h6⟩:=Zt d t ty hty fuel _ _ hx ι σ H0 hro
   have one:∀ (hc:v.cells=#[v]),a=(ty,false)->∃ ι' e u,HRel ι' (σ++e) W/\Keeps ι σ ι' (σ++e)/\EN (σ++e)/\ArgOk (σ++e) a u/\∀ β,Rel ι' (σ++e) β u v:=by
    intro hc ea;rw[hc] at h5 h6
    match vs,h5,h4,h6 with
    | [u],_,h4,h6=>
      obtain⟨c1,c2⟩:=h6 0 u v rfl rfl;exact⟨ι',e,u,h1,h2,h3,by rw[ea];exact⟨h4,c1⟩,c2⟩
   split at ha
   . rename_i fs hu;cases ha;obtain⟨cs,rfl,_⟩:=okWide_struct hu hok;replace h5:vs.length=cs.toList.length:=h5;refine⟨ι',e,.agg vs,h1,h2,h3,⟨vs,rfl,h4,?_⟩,λ β=>?_⟩
     . rw[Dz];intro u hu';obtain⟨i,hi⟩:=JB hu'
       have:i<cs.toList.length:=by rw[<- h5];exact Xu hi
       exact(h6 i u _ hi (Bf this)).1
     . have:=Rel.agg (ι:=ι') (σ:=σ++e) (β:=β) vs cs.toList h5 (λ u hu'=>by
        obtain⟨i,hi⟩:=JB hu'
        have:i<cs.toList.length:=by rw[<- h5];exact Xu hi
        exact(h6 i u _ hi (Bf this)).1) (λ i u w hi hw=>(h6 i u w hi hw).2 β)
       simpa using this
   . rename_i k hu;cases ha;obtain⟨n,rfl⟩:=okWide_int hu hok;exact one rfl rfl
   . rename_i hu;cases ha;obtain⟨n,rfl⟩:=okWide_bool hu hok;exact one rfl rfl
   . rename_i hu;cases ha;obtain⟨n,rfl⟩:=okWide_string hu hok;exact one rfl rfl
   . rename_i el hu;cases ha;obtain⟨x,y,z,rfl⟩:=okWide_slice hu hok;exact one rfl rfl
   . cases ha
 . cases ha
theorem jl{d:Nat}:∀ {ts:List TypeId} {tys:List (Ty×Bool)},PW P d ts=some tys->∀ {vs:List Value} {ds:List (DataW H)} {ps:List MemPlace},DataW.TrodAll enc P W 0 (λ _=>true) true ts vs ds ps ->
 (∀ (j:Nat) t v,ts[j]?=some t->vs[j]?=some v->Value.okWide P W r base t v)->∀ (ι:AA) (σ:Ad),HRel ι σ W->EN σ ->
 ∃ ι' e us,HRel ι' (σ++e) W/\Keeps ι σ ι' (σ++e)/\EN (σ++e)/\P3 (σ++e) tys us/\us.length=vs.length/\∀ (i:Nat) u v,us[i]?=some u->vs[i]?=some v->(∀ j o,u≠.box j o)/\∀ β,Rel ι' (σ++e) β u v
 | [],tys,h,vs,ds,ps,hd,_,ι,σ,H0,hro=>by
   obtain⟨rfl,_,_⟩:=trodAll_nil hd
   cases h
   exact⟨ι,[],[],by simpa using H0,by simpa using Keeps.refl ι σ,by simpa using hro,trivial,rfl,by simp⟩
 | t :: ts,tys,h,vs,ds,ps,hd,hok,ι,σ,H0,hro=>by
   obtain⟨v,vs',x,ds',p,q,rfl,rfl,rfl,h1,h2⟩:=trodAll_cons hd
   unfold PW at h
   split at h
   . rename_i a b ha hb
     cases h
     obtain⟨ι1,e1,u,H1,K1,R1,A1,C1⟩:=Zag ha h1 (hok 0 t v rfl rfl) ι σ H0 hro
     obtain⟨ι2,e2,us,H2,K2,R2,A2,L2,C2⟩:=jl hb h2 (λ j t' v' hj hv=>hok (j+1) t' v' hj hv) ι1 (σ++e1) H1 R1
     refine⟨ι2,e1++e2,u::us,by rw[<- Co];exact H2,by rw[<- Co];exact K1.trans K2,by rw[<- Co];exact R2,by rw[<- Co];exact⟨A1.mono,A2⟩,by simp[L2],λ i u' v' hu hv=>?_⟩
     rw[<- Co]
     cases i with
     | zero=>
       simp at hu hv;subst hu;subst hv
       exact⟨A1.noBox,λ β=>(C1 β).mono K2 (λ j o e=>absurd e (A1.noBox j o))⟩
     |succ i=>exact C2 i u' v' (by simpa using hu) (by simpa using hv)
   . cases h
end
def cy(P:Program)(ts:List TypeId):Bool:=ts.all λ t=>P.readableRec t&&decide (t<P.types.size)
theorem hU{H:Type}{enc:TypeId×Value->H}{P:Program}(hl:laidOutB P=true){W W':World}{sp':Nat->Bool}:∀ {ts:List TypeId} {vs:List Value} {ds:List (DataW H)} {ps:List MemPlace},cy P ts=true ->
 DataW.TrodAll enc P W 0 (λ _=>true) true ts vs ds ps->(∀ p∈ps,W.sameAt W' p)->(∀ p∈ps,sp' p.block=true)->DataW.TrodAll enc P W' 0 sp' true ts vs ds ps
 | [],vs,ds,ps,_,h,_,_=>by
   obtain⟨rfl,rfl,rfl⟩:=trodAll_nil h
   rfl
 | t::ts,vs,ds,ps,hr,h,h1,h2=>by
   obtain⟨v,vs',x,ds',p,q,rfl,rfl,rfl,g1,g2⟩:=trodAll_cons h
   unfold cy at hr
   rw[GB,Ah,Ah,Ar] at hr
   exact⟨p,q,WideElems.Trod_stays hl hr.1.1 hr.1.2 g1 (λ y hy=>h1 y (by simp[hy])) (λ y hy=>h2 y (by simp[hy])),hU hl hr.2 g2 (λ y hy=>h1 y (by simp[hy])) (λ y hy=>h2 y (by simp[hy])),rfl⟩
theorem wi {H:Type} {enc:TypeId×Value->H} {P:Program} {f:Func} {s:ChangeSpec} {apart fresh handsOn again:Bool} {W W':World} {args:Array Value} {v:Value} {ds gs:List (DataW H)} {before pa pv:List MemPlace}
 (hW:DataW.Whole enc P f.params.toList s.vars apart W args.toList ds gs before)
 (hres:∀ (b:Nat) (sp:Nat->Bool) (hd:Bool),DataW.TrodAll enc P W' b sp hd f.resultTypes.toList (v.resultList f.resultTypes.size) (s.fn H (ds++gs)).results [])
 (hargs:∀ sp:Nat->Bool,(∀ p∈before,sp p.block=true)->DataW.TrodAll enc P W' 0 sp true f.params.toList args.toList (s.fn H (ds++gs)).args pa)
 (hvars:∀ sp:Nat->Bool,(∀ p∈before,sp p.block=true)->DataW.TrodVars enc P W' sp s.vars (s.fn H (ds++gs)).vars pv)
 (hps:before=pa++pv) (hb:Below W.heap.size W W')
 (hok:∀ (j:Nat) (t:TypeId) (r:Value),f.resultTypes[j]?=some t->(v.resultList f.resultTypes.size)[j]?=some r->Value.okWide P W' .any 0 t r) :
 s.post enc P f apart fresh handsOn again W args v W':=by
 have hlt:∀ p∈before,p.block<W.heap.size:=λ p hp=>hW.lt p hp
 have hold:∀ p∈before,(λ b=>decide (b<W.heap.size)) p.block=true:=λ p hp=>by simpa using hlt p hp
 refine⟨ds,gs,before,[],pa,pv,hW,hres _ _ _,hargs _ hold,hvars _ hold,World.keptBut_mono (λ p hp=>⟨hp,?_⟩) (hb.frame (·∈before)),λ _=>?_⟩
 . rw[hps,CF] at hp
   exact Or.inr hp
 . obtain⟨_,_,_,_,_,hz,hn⟩:=hW
   refine⟨hok,_,_,([]++pa)++pv,⟨[]++pa,pv,trodAll_append (hargs _ (λ _ _=>rfl)) (hres _ _ _),hvars _ (λ _ _=>rfl),rfl,?_,?_⟩,?_⟩
   . intro b off hp
     have hin:MemPlace.cell b off∈before:=by rw[hps];simpa using hp
     rw[hb.frozen (hlt _ hin)];exact hz b off hin
   . intro ha;have:=hn ha;rw[hps] at this;simpa using this
   . intro p hp _;rw[hps];simpa using hp
theorem w5 {H:Type} {enc:TypeId×Value->H} {P:Program} {f:FuncId} {fn:Func} {s:ChangeSpec} {apart fresh handsOn again:Bool} {sem:Be} {tys:List (Ty×Bool)} {d:Nat} {tb:TypeId}
 (hs:Az P f sem) (has:PW P d fn.params.toList=some tys) (hrows:cy P fn.params.toList=true) (hl:laidOutB P=true)
 (hres:fn.resultTypes=#[tb]) (htb:P.underlying tb=some .bool) (hvars:s.vars=[])
 (hspec:∀ ds:List (DataW H),ds.length=tys.length->s.fn H ds={ results:=[.lit (.bool true)],args:=ds })
 (law:∀ (σ:Ad) (us:List V),EN σ->P3 σ tys us->sem us σ λ r _=>r= .bool true)
 {W:World} {base:Nat} {args:Array Value} {ds gs:List (DataW H)} {before:List MemPlace}
 (hval:∀ (j:Nat) t v,fn.params[j]?=some t->args[j]?=some v->Value.okWide P W .any base t v)
 (hW:DataW.Whole enc P fn.params.toList s.vars apart W args.toList ds gs before) (hgl:GlW P W) :
 Calls P f args W λ e W'=>∃ v,e= .returned v/\s.post enc P fn apart fresh handsOn again W args v W':=by
 have hW':=hW
 obtain⟨p,q,hA,hV,rfl,hfz,hnd⟩:=hW
 rw[hvars] at hV
 obtain⟨rfl,rfl⟩:=trodVars_none hV
 rw[Sx] at hW'
 obtain⟨ι,e,us,H1,_,R1,A1,L1,C1⟩:=jl (d:=d) has hA (λ j t v hj hv=>hval j t v (by simpa using hj) (by simpa using hv)) (λ _=>⟨0,0,0⟩) [] ⟨by simp,by simp,by simp,by simp⟩ (λ l b h=>by simp at h)
 simp only[CW] at H1 R1 A1 C1
 have hc:=hs Phm.no ι e W us args.toList _ (.no e) (by rw[Se];exact H1) (by rw[Se];exact⟨L1,λ i u v hu hv=>(C1 i u v hu hv).2⟩) (law e us R1 A1) ⟨hgl,λ nm hn g hg l blk hl hk=>by rw[Se] at hl;have:=R1 l blk hl;rw[hk] at this;cases this⟩
 have hlen:ds.length=tys.length:=by
  have h1:∀ {ts:List TypeId} {tys:List (Ty×Bool)},PW P d ts=some tys->tys.length=ts.length:=by
   intro ts
   induction ts with
   |nil=>intro tys h;cases h;rfl
   | cons t ts ih=>
     intro tys h;unfold PW at h;split at h
     . rename_i a b _ hb;cases h;simp[ih hb]
     . cases h
  have h2:∀ {ts:List TypeId} {vs:List Value} {ds:List (DataW H)} {ps:List MemPlace},DataW.TrodAll enc P W 0 (λ _=>true) true ts vs ds ps->ds.length=ts.length:=by
   intro ts
   induction ts with
   |nil=>intro vs ds ps h;obtain⟨_,rfl,_⟩:=trodAll_nil h;rfl
   | cons t ts ih=>
     intro vs ds ps h;obtain⟨v,vs',x,ds',p,q,rfl,rfl,rfl,_,g2⟩:=trodAll_cons h;simp[ih g2]
  rw[h1 has,h2 hA]
 refine(Calls.mono (by simpa using hc) λ en W' hd=>?_:Calls P f args W _)
 obtain⟨x,r,σ',ι',rfl,rfl,_,hx,_,hstep⟩:=hd
 rw[Se,Se] at hstep
 have hx':=hx (λ _=>0)
 cases hx'
 have hb:Below W.heap.size W W':=⟨hstep.os,hstep.tape,hstep.output,hstep.size,λ k hk=>hstep.frame k hk λ l blk hl hk'=>by have:=R1 l blk hl;rw[hk'] at this;cases this⟩
 have hfn:=hspec (ds++[]) (by simpa using hlen)
 have hlt:∀ x∈p,x.block<W.heap.size:=λ x hx=>hW'.lt x hx
 refine⟨_,rfl,wi (pa:=p) (pv:=[]) hW' (λ _ _ _=>?_) (λ sp hsp=>?_) (λ sp _=>?_) (by simp) hb (ok_one hres rfl (okWide_bool_mk htb true))⟩
 . rw[hfn,hres]
   exact trodAll_cons_mk (shut_bool htb true) trodAll_mk0
 . rw[hfn]
   simp only[Sx];exact hU hl hrows hA (λ x hx=>hb.same (hlt x hx)) hsp
 . rw[hfn,hvars]
   rfl
open Go.ChangeShapes
mutual
def CT.wf:(t:CT)->t.D->Prop
 |.int k,n=>(Lit.int k n).wf=true
 |.bool,_=>True
 |.str,s=>s.length<=maxLen
 |.ifc,_=>True
 |.sl r,l=>@List.length r.D l<=maxLen/\∀ x:r.D,@Membership.mem r.D (List r.D) inferInstance l x->RT.wf r x
 |.slf _,_=>False
def RT.wf:(r:RT)->r.D->Prop
 |.one t,x=>CT.wf t x
 |.cons t r,x=>CT.wf t x.1/\RT.wf r x.2
end
def AgX.wf:(l:List (Ql×CT))->AgX l->Prop
 |[],_=>True
 |[a],x=>a.2.wf x
 |a::b::r,x=>a.2.wf x.1/\AgX.wf (b::r) x.2
def HT.wf:(h:HT)->h.D->Prop
 |.one _ t,x=>t.wf x
 |.agg l,x=>AgX.wf l x
def TuX.wf:(l:List HT)->TuX l->Prop
 |[],_=>True
 |[a],x=>a.wf x
 |a::b::r,x=>a.wf x.1/\TuX.wf (b::r) x.2
def Hl:List CT->RT
 |[]=>.one .bool
 |[a]=>.one a
 |a::b::r=>.cons a (Hl (b::r))
def Ty.cts:Ty->List CT
 |.int k=>[.int k]
 |.bool=>[.bool]
 |.str=>[.str]
 |.sl t=>[.sl (Hl t.cts)]
 |.unit=>[]
 |.pair a b=>a.cts++b.cts
def Ty.good:Ty->Bool
 |.sl t=>Nat.blt 0 t.w&&t.good
 |.pair a b=>a.good&&b.good
 |_=>true
def Mw:Ty×Bool->HT
 |(ty,true)=>.agg (ty.cts.map λ t=>(.frz,t))
 |(ty,false)=>match ty.cts with|[c]=>.one .frz c|_=>.agg []
def W0:Ty×Bool->Bool
 |(ty,true)=>ty.good
 |(ty,false)=>ty.good&&ty.cts.length == 1
def DL:List CT->Type
 |[]=>Unit
 |a::r=>a.D×DL r
def DL.wf:(l:List CT)->DL l->Prop
 |[],_=>True
 |a::r,x=>a.wf x.1/\DL.wf r x.2
def DL.enc:(l:List CT)->DL l->List PV
 |[],_=>[]
 |a::r,x=>CT.enc a x.1::DL.enc r x.2
def DL.encF:(l:List CT)->DL l->List PV
 |[],_=>[]
 |a::r,x=>(CT.dv .frz a x.1).enc::DL.encF r x.2
def DL.app:(l m:List CT)->DL l->DL m->DL (l++m)
 |[],_,_,y=>y
 |_::l,m,x,y=>(x.1,DL.app l m x.2 y)
theorem DL.app_enc:∀ (l m:List CT) (x:DL l) (y:DL m),DL.enc (l++m) (DL.app l m x y)=DL.enc l x++DL.enc m y
 |[],_,_,_=>rfl
 | a::l,m,x,y=>by
   show CT.enc a x.1::DL.enc (l++m) (DL.app l m x.2 y)=CT.enc a x.1::(DL.enc l x.2++DL.enc m y)
   rw[DL.app_enc l m x.2 y]
theorem DL.app_encF:∀ (l m:List CT) (x:DL l) (y:DL m),DL.encF (l++m) (DL.app l m x y)=DL.encF l x++DL.encF m y
 |[],_,_,_=>rfl
 | a::l,m,x,y=>by
   show (CT.dv .frz a x.1).enc::DL.encF (l++m) (DL.app l m x.2 y)=(CT.dv .frz a x.1).enc::(DL.encF l x.2++DL.encF m y)
   rw[DL.app_encF l m x.2 y]
theorem DL.app_wf:∀ (l m:List CT) (x:DL l) (y:DL m),DL.wf l x->DL.wf m y->DL.wf (l++m) (DL.app l m x y)
 |[],_,_,_,_,h=>h
 |_::l,m,x,y,h,h'=>⟨h.1,DL.app_wf l m x.2 y h.2 h'⟩
theorem DL.len:∀ (l:List CT) (x:DL l),(DL.enc l x).length=l.length
 |[],_=>rfl
 |_::l,x=>by show _+1=_+1;rw[DL.len l x.2]
theorem DL.lenF:∀ (l:List CT) (x:DL l),(DL.encF l x).length=l.length
 |[],_=>rfl
 |_::l,x=>by show _+1=_+1;rw[DL.lenF l x.2]
def DL.rt:(l:List CT)->DL l->(Hl l).D
 |[],_=>false
 |[_],x=>x.1
 |_::b::r,x=>(x.1,DL.rt (b::r) x.2)
theorem DL.rt_enc:∀ (l:List CT) (x:DL l),l≠[]->RT.enc (Hl l) (DL.rt l x)=DL.enc l x
 |[],_,h=>absurd rfl h
 |[_],_,_=>rfl
 | a::b::r,x,_=>by
   show CT.enc a x.1::RT.enc (Hl (b::r)) (DL.rt (b::r) x.2)=CT.enc a x.1::DL.enc (b::r) x.2
   rw[DL.rt_enc (b::r) x.2 (by simp)]
theorem DL.rt_wf:∀ (l:List CT) (x:DL l),l≠[]->DL.wf l x->RT.wf (Hl l) (DL.rt l x)
 |[],_,h,_=>absurd rfl h
 |[_],_,_,h=>h.1
 |a::b::r,x,_,h=>⟨h.1,DL.rt_wf (b::r) x.2 (by simp) h.2⟩
def DL.ag:(l:List CT)->DL l->AgX (l.map λ t=>(Ql.frz,t))
 |[],_=>()
 |[_],x=>x.1
 |_::b::r,x=>(x.1,DL.ag (b::r) x.2)
theorem DL.ag_enc:∀ (l:List CT) (x:DL l),DV.encL (Cc (l.map λ t=>(Ql.frz,t)) (DL.ag l x))=DL.encF l x
 |[],_=>rfl
 |[_],_=>rfl
 | a::b::r,x=>by
   show (CT.dv .frz a x.1).enc::DV.encL (Cc ((b::r).map λ t=>(Ql.frz,t)) (DL.ag (b::r) x.2))=(CT.dv .frz a x.1).enc::DL.encF (b::r) x.2
   rw[DL.ag_enc (b::r) x.2]
theorem DL.ag_wf:∀ (l:List CT) (x:DL l),DL.wf l x->AgX.wf (l.map λ t=>(Ql.frz,t)) (DL.ag l x)
 |[],_,_=>trivial
 |[_],_,h=>h.1
 |a::b::r,x,h=>⟨h.1,DL.ag_wf (b::r) x.2 h.2⟩
theorem KO:∀ (t:Ty),t.cts.length=t.w
 |.int _|.bool|.str|.sl _|.unit=>rfl
 |.pair a b=>by simp only[Ty.cts,Ty.w,Cq,KO a,KO b]
def ωro(σ:Ad):Nat->W:=λ l=>if l<σ.length then .frz else .none
theorem ωro_frz{σ:Ad}{l:Nat}{b:Blk}(h:σ[l]?=some b):ωro σ l= .frz:=by
 unfold ωro;rw[Ac (Ce h)]
theorem VC:∀ (a b:List PV) (i:Nat),i<a.length->Aa (a++b) i=Aa a i
 |[],_,_,h=>by cases h
 |_::_,_,0,_=>rfl
 |_::a,b,i+1,h=>VC a b i (by simpa using h)
theorem U6:∀ (a b:List PV) (i:Nat),Aa (a++b) (a.length+i)=Aa b i
 |[],_,_=>by simp
 | _::a,b,i=>by
   have:=U6 a b i
   simp only[Eg,AH,cx]
   exact this
theorem ZA:∀ (a b:List V) (i:Nat),i<a.length->get (a++b) i=get a i
 |[],_,_,h=>by cases h
 |_::_,_,0,_=>rfl
 |_::a,b,i+1,h=>ZA a b i (by simpa using h)
theorem Zu:∀ (a b:List V) (i:Nat),get (a++b) (a.length+i)=get b i
 |[],_,_=>by simp
 | _::a,b,i=>by
   have:=Zu a b i
   simp only[Eg,AH,cx]
   exact this
theorem Zn:∀ (l:List V) (o n i:Nat),i<n->get ((l.drop o).take n) i=get l (o+i)
 |[],o,n,i,_=>by simp[get]
 |c::r,0,0,i,h=>by cases h
 |c::r,0,n+1,0,_=>rfl
 | c::r,0,n+1,i+1,h=>by
   have:=Zn r 0 n i (by omega)
   simp only[Cf] at this
   simp only[Ha,cJ,get,Cf]
   simpa using this
 | c::r,o+1,n,i,h=>by
   have:=Zn r o n i h
   rw[List.drop_succ_cons,this,cx]
   rfl
theorem kl{w:Nat}:∀ (es:List (List PV)) (i j:Nat),(∀ e∈es,e.length=w)->j<w->i<es.length->Aa es.flatten (i*w+j)=Aa (Cl es i) j
 |[],i,_,_,_,h=>by cases h
 | e::r,0,j,hw,hj,_=>by
   have he:=hw e (G9 ..)
   rw[NA,Cf,JD,VC _ _ _ (by omega)]
   rfl
 | e::r,i+1,j,hw,hj,h=>by
   have he:=hw e (G9 ..)
   rw[JD,show (i+1)*w+j=e.length+(i*w+j) by rw[he,Nv];omega,U6]
   exact kl r i j (λ e h=>hw e (List.mem_cons_of_mem _ h)) hj (by simpa using h)
theorem kH {α:Type}(f:α->List PV):∀ (l:List α) (i:Nat) (h:i<l.length),Cl (l.map f) i=f l[i]
 |[],_,h=>by cases h
 |_::_,0,_=>rfl
 |_::l,i+1,h=>kH f l i (by simpa using h)
theorem R5{σ:Ad}:∀ (ty:Ty) {cs:List V},ty.good=true->Sh σ ty cs->∃ x:DL ty.cts,DL.wf ty.cts x /\
 (∀ i,RC σ (ωro σ) .fz (Aa (DL.enc ty.cts x) i) (get cs i))/\∀ i hd p,RC σ (ωro σ) (.at hd p) (Aa (DL.encF ty.cts x) i) (get cs i)
 | .int k,cs,_,⟨n,h,hw⟩=>by
   subst h;exact⟨(n,()),⟨hw,trivial⟩,λ i=>by cases i<;>first|exact .v _ _ rfl|exact .undef _ _,λ i hd p=>by cases i<;>first|exact .v _ _ rfl|exact .undef _ _⟩
 | .bool,cs,_,⟨b,h⟩=>by
   subst h;exact⟨(b,()),⟨trivial,trivial⟩,λ i=>by cases i<;>first|exact .v _ _ rfl|exact .undef _ _,λ i hd p=>by cases i<;>first|exact .v _ _ rfl|exact .undef _ _⟩
 | .str,cs,_,⟨s,h,hl⟩=>by
   subst h;exact⟨(s,()),⟨hl,trivial⟩,λ i=>by cases i<;>first|exact .v _ _ rfl|exact .undef _ _,λ i hd p=>by cases i<;>first|exact .v _ _ rfl|exact .undef _ _⟩
 | .unit,cs,_,h=>by
   have h:cs=[]:=h;subst h;exact⟨(),trivial,λ i=>.undef _ _,λ i hd p=>.undef _ _⟩
 | .pair a b,cs,hg,⟨xs,ys,h,h1,h2⟩=>by
   simp only[Ty.good,Ah] at hg;obtain⟨x,x1,x2,x3⟩:=R5 a hg.1 h1;obtain⟨y,y1,y2,y3⟩:=R5 b hg.2 h2;have hl:=h1.len;subst h;refine⟨DL.app _ _ x y,DL.app_wf _ _ x y x1 y1,λ i=>?_,λ i hd p=>?_⟩
   . simp only[Ty.cts];rw[DL.app_enc];by_cases hi:i<a.w
     . rw[VC _ _ _ (by rw[DL.len,KO];exact hi),ZA _ _ _ (by rw[hl];exact hi)];exact x2 i
     . obtain⟨j,rfl⟩:=Nat.exists_eq_add_of_le (Nat.le_of_not_lt hi);have e1:=U6 (DL.enc a.cts x) (DL.enc b.cts y) j;have e2:=Zu xs ys j;rw[DL.len,KO] at e1;rw[hl] at e2;rw[e1,e2];exact y2 j
   . simp only[Ty.cts];rw[DL.app_encF];by_cases hi:i<a.w
     . rw[VC _ _ _ (by rw[DL.lenF,KO];exact hi),ZA _ _ _ (by rw[hl];exact hi)];exact x3 i hd p
     . obtain⟨j,rfl⟩:=Nat.exists_eq_add_of_le (Nat.le_of_not_lt hi);have e1:=U6 (DL.encF a.cts x) (DL.encF b.cts y) j;have e2:=Zu xs ys j;rw[DL.lenF,KO] at e1;rw[hl] at e2;rw[e1,e2];exact y3 j hd p
 | .sl t,cs,hg,h=>by
   simp only[Ty.good,Ah] at hg;have hw0:0<t.w:=Dd hg.1
   have hne:t.cts≠[]:=by intro e;have:=KO t;rw[e] at this;simp only[AJ] at this;omega
   rcases h with h|⟨l,n,bs,h,hb,hbl,hn,he⟩
   . subst h;refine⟨(([]:List (Hl t.cts).D),()),⟨⟨GC _,λ x hx=>by cases hx⟩,trivial⟩,λ i=>?_,λ i hd p=>?_⟩
     . cases i<;>first|exact .nil _ _|exact .undef _ _
     . cases i<;>first|exact .nil _ _|exact .undef _ _
   . subst h
     have ex:∀ i,∃ x:DL t.cts,i<n->DL.wf t.cts x/\(∀ k,RC σ (ωro σ) .fz (Aa (DL.enc t.cts x) k) (get ((bs.drop (i*t.w)).take t.w) k)):=by
      intro i;by_cases hi:i<n
      . obtain⟨x,h1,h2,_⟩:=R5 t hg.2 (he i hi);exact⟨x,λ _=>⟨h1,h2⟩⟩
      . have h0:∀ l:List CT,Nonempty (DL l):=by
         intro l
         induction l with
         |nil=>exact⟨()⟩
         |cons a r ih=>obtain⟨y⟩:=ih;exact⟨(a.dflt,y)⟩
        obtain⟨y⟩:=h0 t.cts;exact⟨y,λ h=>absurd h hi⟩
     let f:Nat->DL t.cts:=λ i=>Classical.choose (ex i)
     have hf:∀ i,i<n->DL.wf t.cts (f i)/\∀ k,RC σ (ωro σ) .fz (Aa (DL.enc t.cts (f i)) k) (get ((bs.drop (i*t.w)).take t.w) k):=λ i hi=>Classical.choose_spec (ex i) hi
     let L:List (Hl t.cts).D:=(List.range n).map λ i=>DL.rt t.cts (f i)
     have hL:L.length=n:=by simp[L]
     have hLw:∀ e∈L.map (RT.enc (Hl t.cts)),e.length=t.w:=by
      intro e he;obtain⟨y,hy,rfl⟩:=List.mem_map.mp he;obtain⟨i,_,rfl⟩:=List.mem_map.mp hy;rw[DL.rt_enc _ _ hne,DL.len,KO]
     have hcell:∀ k,k<L.length*t.w->RC σ (ωro σ) .fz (Aa (L.map (RT.enc (Hl t.cts))).flatten k) (get bs (0+k)):=by
      intro k hk
      have hdm:k / t.w*t.w+k % t.w=k:=by rw[Xh];exact XL k t.w
      have hmod:=KS k hw0
      have hdiv:k / t.w<n:=by rw[hL] at hk;exact(Xn hw0).2 hk
      have e1:=kl (L.map (RT.enc (Hl t.cts))) (k / t.w) (k % t.w) hLw hmod (by rw[Bc,hL];exact hdiv);rw[hdm] at e1;rw[e1,kH _ _ _ (by rw[hL];exact hdiv),Cf];have e2:=Zn bs (k / t.w*t.w) t.w (k % t.w) hmod;rw[hdm] at e2
      have e3:L[k / t.w]'(by rw[hL];exact hdiv)=DL.rt t.cts (f (k / t.w)):=by simp[L]
      rw[e3,DL.rt_enc _ _ hne,<- e2];exact(hf _ hdiv).2 _
     have hwf:∀ x∈L,RT.wf (Hl t.cts) x:=by
      intro x hx;obtain⟨i,hi,rfl⟩:=List.mem_map.mp hx;exact DL.rt_wf _ _ hne (hf i (List.mem_range.mp hi)).1
     have hle:0+(L.map (RT.enc (Hl t.cts))).length*t.w<=bs.length:=by rw[Bc,hL,hbl];omega
     refine⟨(L,()),⟨⟨by rw[hL];exact hn,hwf⟩,trivial⟩,λ i=>?_,λ i hd p=>?_⟩
     . cases i with
       |succ i=>exact .undef _ _
       |zero=>exact .sl _ _ _ _ _ _ _ hb (by simp) (ωro_frz hb) (λ e=>by cases e) (by rw[Bc,hL]) hLw hle λ k hk=>hcell k (by rw[Bc] at hk;exact hk)
     . cases i with
       |succ i=>exact .undef _ _
       |zero=>exact .sl _ _ _ _ _ _ _ hb (by simp) (ωro_frz hb) (λ _ e=>by rcases e with e|⟨_,_,e⟩<;>cases e) (by rw[Bc,hL]) hLw hle λ k hk=>hcell k (by rw[Bc] at hk;exact hk)
structure ArgD (σ:Ad) (v:PV) (u:V):Prop where
 rc:∀ hd p c,RC σ (ωro σ) (.at hd p) (v.fcell c) (u.fcell c)
 sh:AZ v u
 nx:∀ c i pb tp,(v.fcell c).q≠some (.bor (.x i) pb tp)
theorem ZcB{v:V}(h:v.cell=true):(∀ us,v≠.agg us)/\∀ us,v≠.tup us:=by
 constructor<;>rintro us rfl<;>cases h
theorem dE:∀ (l:List CT) (x:DL l) (i:Nat) (a:Hd) (pb:List Nat) (tp:Bool),(Aa (DL.encF l x) i).q≠some (.bor a pb tp)
 |[],_,_,_,_,_=>by simp[DL.encF,Aa,PV.q]
 |c::r,x,0,a,pb,tp=>by cases c<;>simp[DL.encF,Aa,CT.dv,DV.enc,PV.q]
 |_::r,x,i+1,a,pb,tp=>dE r x.2 i a pb tp
theorem lI{σ:Ad}{a:Ty×Bool}{u:V}(hg:W0 a=true)(h:ArgOk σ a u):∃ x:(Mw a).D,(Mw a).wf x/\ArgD σ ((Mw a).dv x).enc u:=by
 obtain⟨ty,b⟩:=a
 cases b with
 | true=>
   obtain⟨cs,rfl,hs,hc⟩:=h;obtain⟨x,h1,_,h3⟩:=R5 ty hg hs;have hle:=hs.len;refine⟨DL.ag ty.cts x,DL.ag_wf _ _ h1,?_⟩
   have he:((Mw (ty,true)).dv (DL.ag ty.cts x)).enc= .agg (DL.encF ty.cts x):=by
    show PV.agg _=PV.agg _;rw[DL.ag_enc]
   rw[he];refine⟨λ hd p c=>?_,⟨cs,rfl,by rw[hle,DL.lenF,KO]⟩,λ c i pb tp=>?_⟩
   . match c with
     |[]=>exact .undef _ _
     |[c]=>exact h3 c hd p
     |_::_::_=>exact .undef _ _
   . match c with
     |[]=>simp[PV.fcell,PV.q]
     |[c]=>exact dE _ _ _ _ _ _
     |_::_::_=>simp[PV.fcell,PV.q]
 | false =>
   obtain⟨hs,hc⟩:=h;simp only[W0,Ah,A0] at hg;obtain⟨x,h1,_,h3⟩:=R5 ty hg.1 hs
   have key:∀ (l:List CT) (x:DL l),l.length=1->DL.wf l x->(∀ i hd p,RC σ (ωro σ) (.at hd p) (Aa (DL.encF l x) i) (get [u] i)) ->
    ∃ y:(match l with|[c]=>HT.one .frz c|_=>HT.agg []).D,(match l with|[c]=>HT.one .frz c|_=>HT.agg []).wf y/\ArgD σ ((match l with|[c]=>HT.one .frz c|_=>HT.agg []).dv y).enc u:=by
    intro l x hl hwf h3
    match l,x,hl,hwf,h3 with
    | [c],x,_,hwf,h3=>
      have hsc:=ZcB hc
      have hnf:∀ p,p≠[0]->((CT.dv .frz c x.1).enc).fcell p= .fl .undef:=by
       intro p hp;cases c<;>(match p with|[]=>rfl|[0]=>exact absurd rfl hp|(_+1)::_=>rfl|0::_::_=>rfl)
      have hf0:((CT.dv .frz c x.1).enc).fcell [0]=(CT.dv .frz c x.1).enc:=by cases c<;>rfl
      have hu0:u.fcell [0]=u:=by cases u<;>first|rfl|exact absurd rfl (hsc.1 _)|exact absurd rfl (hsc.2 _)
      refine⟨x.1,hwf.1,⟨λ hd p q=>?_,?_,λ q i pb tp=>?_⟩⟩
      . by_cases hq:q=[0]
        . subst hq;show RC σ (ωro σ) (.at hd p) (((CT.dv .frz c x.1).enc).fcell [0]) (u.fcell [0]);rw[hf0,hu0];exact h3 0 hd p
        . show RC σ (ωro σ) (.at hd p) (((CT.dv .frz c x.1).enc).fcell q) (u.fcell q);rw[hnf q hq];exact .undef _ _
      . show AZ ((CT.dv .frz c x.1).enc) u;cases c<;>exact hsc
      . show (((CT.dv .frz c x.1).enc).fcell q).q≠_;by_cases hq:q=[0]
        . subst hq;rw[hf0];exact dE [c] x 0 _ _ _
        . rw[hnf q hq];simp[PV.q]
   exact key ty.cts x hg.2 h1 h3
theorem ak{σ:Ad}:∀ {tys:List (Ty×Bool)} {us:List V},tys.all W0=true->P3 σ tys us->∃ x:TuX (tys.map Mw),TuX.wf _ x/\us.length=tys.length /\
 ∀ t,ArgD σ (Aa (DV.encL (Dq (tys.map Mw) x)) t) (get us t)
 |[],[],_,_=>⟨(),trivial,rfl,λ t=>⟨λ hd p c=>by
  have:(PV.fl V.undef).fcell c= .fl .undef:=by match c with|[]=>rfl|[0]=>rfl|(_+1)::_=>rfl|0::_::_=>rfl
  show RC σ (ωro σ) (.at hd p) ((PV.fl V.undef).fcell c) _
  rw[this];exact .undef _ _,trivial,λ c i pb tp=>by
  have:(PV.fl V.undef).fcell c= .fl .undef:=by match c with|[]=>rfl|[0]=>rfl|(_+1)::_=>rfl|0::_::_=>rfl
  show ((PV.fl V.undef).fcell c).q≠_
  rw[this];simp[PV.q]⟩⟩
 | [a],[u],hg,h=>by
   simp only[GB,List.all_nil,Mh] at hg;obtain⟨x,h1,h2⟩:=lI hg h.1;obtain⟨_,_,_,h4⟩:=ak (σ:=σ) (tys:=[]) (us:=[]) rfl trivial;refine⟨x,h1,rfl,λ t=>?_⟩
   cases t with
   |zero=>exact h2
   |succ t=>exact h4 t
 | a::b::r,u::us,hg,h=>by
   rw[GB,Ah] at hg;obtain⟨x,h1,h2⟩:=lI hg.1 h.1;obtain⟨y,h3,h4,h5⟩:=ak (tys:=b::r) (us:=us) hg.2 h.2;refine⟨(x,y),⟨h1,h3⟩,by simp[h4],λ t=>?_⟩
   cases t with
   |zero=>exact h2
   |succ t=>exact h5 t
 |[_],_::_::_,_,h=>h.2.elim
 |[_],[],_,h=>h.elim
 |_::_::_,[],_,h=>h.elim
 |[],_::_,_,h=>h.elim
theorem Zdo{σ:Ad}{as:List PV}{us:List V}(hl:as.length=us.length)(h:∀ t,ArgD σ (Aa as t) (get us t)):RS σ (ωro σ) (ωro σ) (λ _=>0) ⟨as,[],[]⟩ ⟨us,[],σ⟩ X0:=by
 have no:∀ l hd p,ωro σ l≠.own hd p:=by intro l hd p e;unfold ωro at e;split at e<;>cases e
 have nop:∀ l i,ωro σ l≠.ptr i:=by intro l i e;unfold ωro at e;split at e<;>cases e
 have hund:∀ c,(PV.fl V.undef).fcell c= .fl .undef:=by
  intro c;match c with|[]=>rfl|[0]=>rfl|(_+1)::_=>rfl|0::_::_=>rfl
 have cat:∀ (c:List Nat) (l:List V),(A9 [] l c).1= .fl .undef:=by
  intro c l;match c with|[]=>rfl|[_]=>rfl|_::_::_=>rfl
 refine⟨⟨λ hd p=>?_,λ l l' hd p e=>absurd e (no l hd p),λ l l' i e=>absurd e (nop l i),λ l e=>?_,λ l e=>?_⟩,λ t=>(h t).sh,λ i=>trivial,hl,rfl,λ i=>rfl,λ i c=>rfl,λ i c=>rfl,λ i hi=>(by cases hi),λ l i e=>absurd e (nop l i),λ l i p e=>absurd e (no l _ p),⟨BI _,λ l _ _=>⟨rfl,rfl⟩,λ l hlt e=>(by rw[e];simp),λ l i e=>e⟩,λ hd p i pb tp=>?_⟩
 . cases hd with
   |s t=>exact(h t).rc _ _ _
   |b i=>show RC σ (ωro σ) _ (A9 [] (AW [] i) p).1 _;rw[cat];exact .undef _ _
   |h i=>show RC σ (ωro σ) _ (A9 [] _ p).1 _;rw[cat];exact .undef _ _
   |x i=>show RC σ (ωro σ) _ ((PV.fl V.undef).fcell p) _;rw[hund];exact .undef _ _
 . rcases e with⟨hd,p,e⟩|⟨i,e⟩
   . exact absurd e (no l hd p)
   . exact absurd e (nop l i)
 . unfold ωro at e;split at e
   . assumption
   . cases e
 . cases hd with
   |s t=>exact(h t).nx p i pb tp
   |b j=>show (A9 [] (AW [] j) p).1.q≠_;rw[cat];simp[PV.q]
   |h j=>show (A9 [] _ p).1.q≠_;rw[cat];simp[PV.q]
   |x j=>show ((PV.fl V.undef).fcell p).q≠_;rw[hund];simp[PV.q]
theorem Zdf {f:DFun} {tys:List (Ty×Bool)} {hs:List HT} {s:Be} (hsp:D4 s (Da f.er)) (hhs:tys.map Mw=hs) (hg:tys.all W0=true) (ho:AllD f.body.obs)
 (hst:Qi f hs (.one (.one .own .bool))=true) (hc:∀ x,Qa f hs (.one (.one .own .bool)) x=true)
 (law:∀ x:TuX hs,TuX.wf hs x->NN f hs (.one (.one .own .bool)) x/\NX f hs (.one (.one .own .bool)) x=true) (σ:Ad) (us:List V) (hro:EN σ) (ha:P3 σ tys us):s us σ λ r _=>r= .bool true:=by
 subst hhs
 obtain⟨x,h1,h2,h3⟩:=ak hg ha
 obtain⟨l1,l2⟩:=law x h1
 have hlen:(DV.encL (Dq (tys.map Mw) x)).length=us.length:=by rw[E3,Na,Bc,h2]
 refine hsp σ (ωro σ) (λ _=>0) _ us [] (λ r _=>r= .fl (.bool true)) _ (Zdo hlen h3) (λ l hd p e=>?_) ?_ λ u h' r H' ω' ρ' hQ R' _=>?_
 . exfalso;unfold ωro at e;split at e<;>cases e
 . refine lB ho hst x (hc x) l1 λ H=>?_
   rw[l2];rfl
 . subst hQ
   have r:=R'.core.rc (.x 0) [0];have hs:=R'.shx 0;have r:RC h' ω' (.at (.x 0) [0]) (.fl (.bool true)) (u.fcell [0]):=r
   have hu:u.fcell [0]=u:=by
    have hs:AZ (.fl (.bool true)) u:=hs
    cases u<;>first|rfl|exact absurd rfl (hs.1 _)|exact absurd rfl (hs.2 _)
   rw[hu] at r;cases r;rfl
def rk(pu:Bool)(res:List ARes)(h0:Ad)(Q:V->Ad->Prop):Gd:=Yb ⟨0,0,0,pu,res,.skip⟩ h0 Q
@[congr] theorem Zeu {c:ACode} {k:Gd} {st st':St} (h:st=st'):ET c k st=ET c k st':=by rw[h]
@[congr] theorem Zes {o:List AOper} {k:St->Prop} {st st':St} (h:st=st'):Dh o k st=Dh o k st':=by rw[h]
@[congr] theorem Zet {o:AOp} {d:Option Nat} {k:St->Prop} {st st':St} (h:st=st'):Bg o d k st=Bg o d k st':=by rw[h]
@[congr] theorem Zeq {n:St->Prop} {k:Gd} {e e':AExit} {st st':St} (he:e=e') (h:st=st'):NU n k e st=NU n k e' st':=by rw[he,h]
@[congr] theorem Zen {i:Nat} {k:Gd} {e e':AExit} {st st':St} (he:e=e') (h:st=st'):PU i k e st=PU i k e' st':=by rw[he,h]
@[congr] theorem Zev {pu:Bool} {res:List ARes} {h0:Ad} {Q:V->Ad->Prop} {e e':AExit} {st st':St} (he:e=e') (h:st=st'):rk pu res h0 Q e st=rk pu res h0 Q e' st':=by rw[he,h]
def ZdC:V->Option V
 |.nils=>some (.int .i64 0)
 |.slice _ _ n=>some (.int .i64 n)
 |_=>none
def mb(hp:Ad)(n:Option Nat):V->Option V
 |.ptr l o=>(rd hp l o (n.getD 1)).bind λ cs=>Dp n cs
 |_=>none
def aD(bx:List (List V))(hp:Ad)(n:Nat)(a x:V):Option (V×List (List V)×Ad):=match a with
 |.ptr l o=>if x.cells.length=n/\x.cells.all V.cell then (wr hp l o x.cells).bind λ h=>some (.undef,bx,h) else none
 |_=>none
theorem bind_some{α:Type}(o:Option α):(o.bind λ x=>some x)=o:=by cases o<;>rfl
section
variable {α:Type}
def Qo(f:α->Int->α×Int):List α->Int->List α×Int
 |[],m=>([],m)
 |a::r,m=>((f a m).1::(Qo f r (f a m).2).1,(Qo f r (f a m).2).2)
end
def Zds:IntKind->Int->Int
 |.i64,m=>m
 |k,m=>k.wrap m
mutual
def CT.mkI:(t:CT)->t.D->Int->t.D×Int
 |.int k,_,m=>(Zds k m,IntKind.i64.wrap (m+1))
 |.bool,_,m=>((m.tmod 3 == 0:Bool),IntKind.i64.wrap (m+1))
 |.str,s,m=>(s,m)
 |.ifc,b,m=>(b,m)
 |.sl r,l,m=>Qo (RT.mkI r) l m
 |.slf _,l,m=>(l,m)
def RT.mkI:(r:RT)->r.D->Int->r.D×Int
 |.one t,x,m=>CT.mkI t x m
 |.cons t r,x,m=>(((CT.mkI t x.1 m).1,(RT.mkI r x.2 (CT.mkI t x.1 m).2).1),(RT.mkI r x.2 (CT.mkI t x.1 m).2).2)
end
mutual
def CT.wl:(t:CT)->t.D->Prop
 |.sl r,l=>l.length<=9223372036854775807/\∀ a:r.D,List.Mem a l->RT.wl r a
 |_,_=>True
def RT.wl:(r:RT)->r.D->Prop
 |.one t,x=>CT.wl t x
 |.cons t r,x=>CT.wl t x.1/\RT.wl r x.2
end
section
variable {h h':Ad} {ω:Nat->W} {hd:Hd} {p:List Nat}
abbrev NH (ω:Nat->W) (hd:Hd) (p:List Nat):Nat->Prop:=λ l=>∃ q,ω l= .own hd (p++q)
abbrev MS (h:Ad) (ω:Nat->W) (hd:Hd) (p:List Nat) (r:RT) (l:List r.D) (u:V):Prop:=RC h ω (.inn hd p) (.sl .own (l.map r.enc)) u
theorem MS.len{r:RT}{l:List r.D}{u:V}(M:MS h ω hd p r l u):ZdC u=some (.int .i64 (l.length:Int)):=by
 unfold MS at M;generalize he:l.map r.enc=es at M
 have hl:l.length=es.length:=by rw[<- he,Bc]
 cases M with
 |nil=>rw[hl];rfl
 |sl _ _ _ l o n b h1 hk hc hne hn hw hle hr=>rw[hl,<- hn];rfl
theorem MS.ok1{r:RT}{l:List r.D}{u:V}(M:MS h ω hd p r l u):u.ok1=true/\u.cell=true:=by
 unfold MS at M;generalize l.map r.enc=es at M;cases M<;>exact⟨rfl,rfl⟩
theorem MS.slice{r:RT}{l:List r.D}{u:V}(M:MS h ω hd p r l u)(hl:0<l.length):∃ b,u= .slice b 0 l.length:=by
 unfold MS at M;generalize he:l.map r.enc=es at M
 have hl':l.length=es.length:=by rw[<- he,Bc]
 cases M with
 |nil=>rw[hl'] at hl;simp at hl
 | sl _ _ _ b o n bk h1 hk hc hne hn hw hle hr=>
   obtain⟨_,rfl,_⟩:=hc;exact⟨b,by rw[hl',hn]⟩
theorem MS.upd {r:RT} {l:List r.D} {b n:Nat} (M:MS h ω hd p r l (.slice b 0 n)) {i off:Nat} (hi:i<l.length) (hoff:off<r.w) {y:r.D} {c:PV} (hy:r.enc y=AM (r.enc (l.getD i r.dflt)) off [c])
 {bk:Blk} (h1:h[b]?=some bk) {cs':List V} (h1':h'[b]?=some { bk with cs:=cs' }) (hcl:cs'.length=bk.cs.length) {v:V} (hcs:∀ k,get cs' k=if k=i*r.w+off then v else get bk.cs k)
 (hO:∀ x,x≠b->(∀ q,ω x≠.own hd (p++(i*r.w+off)::q))->h'[x]?=h[x]?) (hc:RC h' ω (.inn hd (p++[i*r.w+off])) c v):MS h' ω hd p r (l.set i y) (.slice b 0 n):=by
 unfold MS at M ⊢
 rw[<- bw,hy,<- Ni r l i hi]
 generalize he:l.map r.enc=es at M
 have hl':l.length=es.length:=by rw[<- he,Bc]
 have hwr:∀ e∈es,e.length=r.w:=by rw[<- he];intro e h;obtain⟨x,_,rfl⟩:=List.mem_map.1 h;exact Nk r x
 have hi':i<es.length:=by rw[<- hl'];exact hi
 cases M with
 | sl _ _ _ _ o _ bk' h1b hk hch hne hn hw hle hr=>
   rw[h1] at h1b;cases h1b
   have hbw:bk.w=r.w:=by rw[<- hw _ (Gw (l:=es) hi')];exact hwr _ (Gw hi')
   have hel:=W8 hw hi';obtain⟨hb1,_,hb3⟩:=hch
   refine RC.sl _ .own _ b 0 n { bk with cs:=cs' } h1' hk ⟨hb1,rfl,hb3⟩ (λ _ _ h=>by have:=congrArg List.length h;rw[LQ] at this;simp only[AJ] at this;omega) (by rw[LQ];exact hn) (cD hw (by rw[Hq];exact hel)) (by rw[LQ];simp only[hcl];exact hle) λ k hk'=>?_
   simp only[LQ] at hk';rw[kh hw hi' (by rw[hbw];simp only[AH,AJ];omega) k hk',Cf,hcs];simp only[AH,AJ,hbw];by_cases hkk:k=i*r.w+off
   . subst hkk;rw[Ac ⟨by omega,by omega⟩,Ac rfl,Nat.sub_self];exact hc
   . rw[Ae (by omega),Ae hkk];have r0:=hr k hk';rw[Cf] at r0;refine r0.inn0 (f:=Ren.id) (T:=λ x=>x=b\/∃ q,ω x= .own hd (p++(i*r.w+off)::q)) ⟨λ x e=>⟨e,hO x (by rintro rfl;rw[hb1] at e;cases e) (λ q e'=>by rw[e] at e';cases e')⟩,λ x a q e hn=>⟨by rw[e];rfl,hO x (λ h=>hn (.inl h)) (λ q' e'=>hn (.inr ⟨q',e'⟩))⟩⟩ (λ x q e hT=>?_) (λ q=>rfl);rcases hT with rfl|⟨q',e'⟩
     . rw[hb1] at e;simp only[W.own.injEq] at e;have:=congrArg List.length e.2;simp at this
     . rw[e] at e';simp only[W.own.injEq,Co,Eg,CW,List.append_cancel_left_eq,G5] at e';exact hkk e'.2.1
theorem MS.store {r:RT} {l:List r.D} {b n:Nat} (M:MS h ω hd p r l (.slice b 0 n)) {i off:Nat} (hi:i<l.length) (hoff:off<r.w) {v:V} (hv:v.flat=true) (hvc:v.cells=[v]) {y:r.D} (hy:r.enc y=AM (r.enc (l.getD i r.dflt)) off [.fl v])
 (hinj:∀ l l' a q,ω l= .own a q->ω l'= .own a q->l=l') (bx:List (List V)):∃ h',aD bx h 1 (.ptr b (i*r.w+off)) v=some (.undef,bx,h')/\Only (NH ω hd p) h h'/\MS h' ω hd p r (l.set i y) (.slice b 0 n):=by
 have M0:=M
 unfold MS at M0
 generalize he:l.map r.enc=es at M0
 have hl':l.length=es.length:=by rw[<- he,Bc]
 have hwr:∀ e∈es,e.length=r.w:=by rw[<- he];intro e h;obtain⟨x,_,rfl⟩:=List.mem_map.1 h;exact Nk r x
 have hi':i<es.length:=by rw[<- hl'];exact hi
 cases M0 with
 | sl _ _ _ _ o _ bk h1 hk hch hne hn hw hle hr=>
   have hbw:bk.w=r.w:=by rw[<- hw _ (Gw (l:=es) hi')];exact hwr _ (Gw hi')
   obtain⟨hb1,_,hb3⟩:=hch
   have hlt:i*r.w+off<bk.cs.length:=by
    have:(i+1)*r.w<=es.length*r.w:=KR _ hi';rw[EJ,GD] at this;rw[hbw] at hle;omega
   have hb:b<h.length:=Ce h1
   have hset:∀ k,(h.set b { bk with cs:=splice bk.cs (i*r.w+off) [v] })[k]?=if k=b then some { bk with cs:=splice bk.cs (i*r.w+off) [v] } else h[k]?:=by
    intro k;rw[G7];by_cases hk:b=k
    . subst hk;simp[hb]
    . rw[Ae hk,Ae (λ h'=>hk h'.symm)]
   have hvcell:[v].all V.cell=true:=by
    cases v<;>first|rfl|(simp[V.flat] at hv)
   refine⟨h.set b { bk with cs:=splice bk.cs (i*r.w+off) [v] },?_,⟨by simp,λ x hx=>?_,λ x bx' hx=>?_⟩,M.upd hi hoff hy h1 (cs':=splice bk.cs (i*r.w+off) [v]) (v:=v) (by rw[hset,Ac rfl]) (GZ _ _ _) (λ k=>?_) (λ x hx _=>by rw[hset,Ae hx]) (.v _ _ hv)⟩
   . have hwr':wr h b (i*r.w+off) [v]=some (h.set b { bk with cs:=splice bk.cs (i*r.w+off) [v] }):=by
      rw[wr,h1];simp only;rw[Ac ⟨hb3,by simp only[AH,AJ];omega⟩]
     simp only[aD,hvc,hvcell,AH,AJ,hwr'];rfl
   . rw[hset,Ae];rintro rfl;exact hx ⟨[],by rw[hb1];simp⟩
   . by_cases hxb:x=b
     . subst hxb;rw[h1] at hx;cases hx;exact⟨{ bk with cs:=splice bk.cs (i*r.w+off) [v] },by rw[hset,Ac rfl],rfl,rfl,GZ _ _ _⟩
     . exact⟨bx',by rw[hset,Ae hxb];exact hx,rfl,rfl,rfl⟩
   . rw[V1 _ _ _ _ (by simp only[AH,AJ];omega)];simp only[AH,AJ];by_cases hkk:k=i*r.w+off
     . subst hkk;rw[Ac ⟨by omega,by omega⟩,Ac rfl,Nat.sub_self];rfl
     . rw[Ae (by omega),Ae hkk]
theorem MS.load{r:RT}{l:List r.D}{b n:Nat}(M:MS h ω hd p r l (.slice b 0 n)){i off:Nat}(hi:i<l.length)(hoff:off<r.w){r':RT}{l':List r'.D}(hx:Aa (r.enc (l.getD i r.dflt)) off= .sl .own (l'.map r'.enc)) :
 ∃ u,mb h none (.ptr b (i*r.w+off))=some u/\MS h ω hd (p++[i*r.w+off]) r' l' u/\∃ bk,h[b]?=some bk/\get bk.cs (i*r.w+off)=u:=by
 have M0:=M
 unfold MS at M0
 rw[<- Ni r l i hi] at hx
 generalize he:l.map r.enc=es at M0 hx
 have hl':l.length=es.length:=by rw[<- he,Bc]
 have hwr:∀ e∈es,e.length=r.w:=by rw[<- he];intro e h;obtain⟨x,_,rfl⟩:=List.mem_map.1 h;exact Nk r x
 have hi':i<es.length:=by rw[<- hl'];exact hi
 cases M0 with
 | sl _ _ _ _ o _ bk h1 hk hch hne hn hw hle hr=>
   have hbw:bk.w=r.w:=by rw[<- hw _ (Gw (l:=es) hi')];exact hwr _ (Gw hi')
   have hm:(i+1)*r.w<=es.length*r.w:=KR _ hi';rw[EJ,GD] at hm
   have hlt:i*r.w+off<bk.cs.length:=by rw[hbw] at hle;omega
   have r0:=hr (i*r.w+off) (by rw[hbw];omega);rw[Cf] at r0;have hf:Aa es.flatten (i*r.w+off)=Aa (Cl es i) off:=KM (w:=r.w) (by rw[<- hbw];exact hw) i off hoff;rw[hf,hx] at r0;refine⟨get bk.cs (i*r.w+off),?_,r0,bk,h1,rfl⟩
   have e1:rd h b (i*r.w+off) 1=some ((bk.cs.drop (i*r.w+off)).take 1):=by
    rw[rd,h1];simp only;rw[Ac ⟨hk,by omega⟩]
   show (rd h b (i*r.w+off) 1).bind (Dp none)=_;rw[e1];rw[cG hlt];simp only[cJ,List.take_zero,JA,Dp,Dl,Bf hlt];rfl
theorem MS.sub {r:RT} {l:List r.D} {b n:Nat} (M:MS h ω hd p r l (.slice b 0 n)) {i off:Nat} (hi:i<l.length) (hoff:off<r.w) {u:V} {bk:Blk} (h1:h[b]?=some bk) (hu:get bk.cs (i*r.w+off)=u)
 (hO:Only (NH ω hd (p++[i*r.w+off])) h h') {r':RT} {l':List r'.D} (hr:MS h' ω hd (p++[i*r.w+off]) r' l' u) {y:r.D} (hy:r.enc y=AM (r.enc (l.getD i r.dflt)) off [.sl .own (l'.map r'.enc)]) :
 Only (NH ω hd p) h h'/\MS h' ω hd p r (l.set i y) (.slice b 0 n):=by
 have hb1:ω b= .own hd p:=by
  have M0:=M;unfold MS at M0;generalize l.map r.enc=es at M0
  cases M0 with
  |sl _ _ _ _ o _ bk h1 hk hch hne hn hw hle hr=>exact hch.1
 refine⟨hO.mono λ x ⟨q,e⟩=>⟨(i*r.w+off)::q,by rw[e];simp⟩,M.upd hi hoff hy h1 (cs':=bk.cs) (v:=u) ?_ rfl (λ k=>?_) (λ x _ hx=>hO.off x (fun⟨q,e⟩=>hx q (by rw[e];simp))) hr⟩
 . rw[hO.off b]
   . exact h1
   . rintro⟨q,e⟩;rw[hb1] at e;simp only[W.own.injEq] at e;have:=congrArg List.length e.2;simp at this
 . split
   . rename_i hk;rw[hk,hu]
   . rfl
theorem MS.frame{r:RT}{l:List r.D}{u:V}(M:MS h ω hd p r l u){i:Nat}(hi:i<l.length):MS h ω hd p r (l.set i (l.getD i r.dflt)) u:=by
 have:l.set i (l.getD i r.dflt)=l:=by
  rw[Ee,Bf hi];simp
 rw[this];exact M
theorem ZS{r:RT}{l:List r.D}{i:Nat}(hi:i<l.length)(x:r.D):(l.set i x).getD i r.dflt=x:=by
 rw[Ee,List.getElem?_set_self (by simpa using hi)];rfl
theorem MS.st {r:RT} {l:List r.D} {b n i:Nat} {x:r.D} (M:MS h ω hd p r (l.set i x) (.slice b 0 n)) (hi:i<l.length) {off:Nat} (hoff:off<r.w) {v:V} (hv:v.flat=true) (hvc:v.cells=[v]) {y:r.D} (hy:r.enc y=AM (r.enc x) off [.fl v])
 (hinj:∀ l l' a q,ω l= .own a q->ω l'= .own a q->l=l') (bx:List (List V)):∃ h',aD bx h 1 (.ptr b (i*r.w+off)) v=some (.undef,bx,h')/\Only (NH ω hd p) h h'/\MS h' ω hd p r (l.set i y) (.slice b 0 n):=by
 obtain⟨h',e1,e2,e3⟩:=M.store (i:=i) (off:=off) (by simpa using hi) hoff hv hvc (y:=y) (by rw[ZS hi];exact hy) hinj bx
 rw[List.set_set] at e3
 exact⟨h',e1,e2,e3⟩
theorem MS.sb{r:RT}{l:List r.D}{b n i:Nat}{x:r.D}(M:MS h ω hd p r (l.set i x) (.slice b 0 n))(hi:i<l.length){off:Nat}(hoff:off<r.w){r':RT}{l':List r'.D}(hx:Aa (r.enc x) off= .sl .own (l'.map r'.enc)) :
 ∃ u,mb h none (.ptr b (i*r.w+off))=some u/\MS h ω hd (p++[i*r.w+off]) r' l' u /\
   ∀ (h':Ad) (l'':List r'.D) (y:r.D),Only (NH ω hd (p++[i*r.w+off])) h h'->MS h' ω hd (p++[i*r.w+off]) r' l'' u->r.enc y=AM (r.enc x) off [.sl .own (l''.map r'.enc)]->Only (NH ω hd p) h h'/\MS h' ω hd p r (l.set i y) (.slice b 0 n):=by
 obtain⟨u,e1,e2,bk,e3,e4⟩:=M.load (i:=i) (off:=off) (by simpa using hi) hoff (r':=r') (l':=l') (by rw[ZS hi];exact hx)
 refine⟨u,e1,e2,λ h' l'' y hO hM hy=>?_⟩
 obtain⟨k1,k2⟩:=M.sub (i:=i) (off:=off) (by simpa using hi) hoff e3 e4 hO hM (y:=y) (by rw[ZS hi];exact hy)
 rw[List.set_set] at k2
 exact⟨k1,k2⟩
theorem RC.flat1{H:Ad}{m:Md}{x u:V}(r:RC H ω m (.fl x) u)(hx:x≠.undef):u=x:=by
 cases r with
 |undef=>exact absurd rfl hx
 |v=>rfl
end
def SlC(s:Be)(r:RT):Prop:=∀ (h:Ad) (ω:Nat->W) (hd:Hd) (p:List Nat) (l:List r.D) (u:V) (m:Int) (Q:V->Ad->Prop),CT.wl (.sl r) l->(∀ l l' a q,ω l= .own a q->ω l'= .own a q->l=l')->MS h ω hd p r l u ->
 (∀ h',Only (NH ω hd p) h h'->MS h' ω hd p r (Qo r.mkI l m).1 u->Q (.int .i64 (Qo r.mkI l m).2) h')->s [u,.int .i64 m] h Q
def Zec(r:RT):DMk:=⟨.one (.sl r),false,λ l=>CT.wl (.sl r) l,λ l m=>Qo r.mkI l m,false⟩
theorem SlC.sound{s:Be}{r:RT}(hs:SlC s r):XB s (Zec r).P:=by
 rintro h ω hd P b AB us u m K Q hinj hu hl hr ⟨x,rfl,hok,hK⟩ hQ;have hu:us=[u]:=hu;subst hu;have h0:=hr 0 (by show 0<1;omega)
 refine hs h ω hd (P++[b]) x u m Q hok hinj h0 λ h' hO hM=>?_
 refine hQ _ _ h' hK rfl (hO.mono λ l ⟨q,e⟩=>⟨0,_,q,by show 0<1;omega,rfl,by rw[e];simp⟩) λ c hc=>?_
 have:c=0:=by have:c<1:=hc;omega
 subst this;exact hM
structure Fn where
 d:DFun
 h:List HT
 q:QT
@[irreducible] def Fn.S(F:Fn):Be:=EK F.d.er.er
@[irreducible] def Fn.P(F:Fn):Cb:=Da F.d.er
@[irreducible] def Fn.V(F:Fn)(x:TuX F.h):F.q.D:=(shut λ x=>NX F.d F.h F.q x).1 x
@[irreducible] def Fn.O(F:Fn)(x:TuX F.h):Prop:=(shut λ x=>NN F.d F.h F.q x).1 x
def Fn.D(F:Fn):Mp:=dA F.h F.q F.O F.V
theorem Fn.v(F:Fn)(x:TuX F.h):F.V x=NX F.d F.h F.q x:=by unfold Fn.V;exact congrFun (shut _).2 x
theorem Fn.o(F:Fn)(x:TuX F.h):F.O x=NN F.d F.h F.q x:=by unfold Fn.O;exact congrFun (shut _).2 x
def Fn.A(F:Fn):Prop:=D4 F.S F.P
def Fn.B(F:Fn):Prop:=XC F.P F.D
theorem AV{F:Fn}(o:AllP F.d.er.body.obs):F.A:=by unfold Fn.A Fn.S Fn.P;exact FZ o
theorem AX{F:Fn}(o:AllD F.d.body.obs)(st:Qi F.d F.h F.q=true)(c:∀ x,Qa F.d F.h F.q x=true):F.B:=by
 unfold Fn.B Fn.P;exact zM o st c (λ x h=>Eq.mp (F.o x) h) (λ x=>(F.v x).symm)
@[reducible] def oF (i d:Nat) (F:Fn) (args:List Opnd):DOper:=⟨i,some d,.call false F.S F.P F.D args,none,[]⟩
@[reducible] def xF (i d:Nat) (F:Fn) (args:List Opnd) (a:List Nat):DOper:=⟨i,some d,.call false F.S F.P F.D args,none,a⟩
theorem lF{P:Program}(hm:P.follows .mixedOrders=true){F:Fn}{f:FuncId}{fn:Func}{obs:List (FuncId×Be)}(hf:P.funcs[f]?=some fn)(hk:EP P fn F.d.er.er=true)(ho:ER P fn F.d.er.er=obs)(hob:AllSound P obs):Az P f F.S:=by
 unfold Fn.S;exact FY hm hf hk ho hob
section
set_option maxRecDepth 8000
def xb:DCode:=(.seq [2,1,0] (.region [oa 0 6 (.mv An)]) (.seq [6] (.region [om 0 7 0,om 1 8 1,oa 2 9 (.bin .geq (.t 7) (.t 8)),om 3 10 9,og 4 11 (.mv (.t 0)) 10 true,og 5 12 (.mv (.t 2)) 10 true,og 6 13 (.bin .leq (.t 11) (.t 12)) 10 true,oa 7 14 (.pick (.t 10) (.t 13) An),om 8 6 14]) .ret))
def BM:Fn:=⟨⟨3,15,0,true,[.tmp 6],xb⟩,[.one .frz (.int .i64),.one .frz (.int .i64),.one .frz (.int .i64)],.one (.one .own (.bool))⟩
theorem Gk:BM.A:=AV trivial
def BH:CS->Bool:=BM.V
def Ec:CS->Prop:=BM.O
theorem Gj:BM.B:=AX trivial (by kernel_rfl) (λ x=>by kernel_rfl)
def sg:DCode:=(.seq [1] (.region [oa 0 1 (.boxB 0 4 (.t 0)),oa 1 2 (.mv An)]) (.seq [3,1] (.region [oa 0 6 (.fieldA 1 (.t 1)),oa 1 7 (.loadB 0 none (.t 6)),oF 2 8 BM [(.t 7),Au,(.c (.int .i64 56))],om 3 3 8]) (.seq [4,3,1] (.region [oa 0 9 (.fieldA 2 (.t 1)),oa 1 10 (.loadB 0 none (.t 9)),oF 2 11 BM [(.t 10),Au,(.c (.int .i64 15))],om 3 4 11]) (.seq [5,4,3,1] (.region [oa 0 12 (.fieldA 3 (.t 1)),oa 1 13 (.loadB 0 none (.t 12)),oF 2 14 BM [(.t 13),Au,(.c (.int .i64 3))],om 3 5 14]) (.seq [] (.seq [16,5,4,3,1] (.region [oa 0 15 (.fieldA 0 (.t 1)),oa 1 16 (.loadB 0 none (.t 15))]) (.block 0 (.seq [17,16,5,4,3,1] (.seq [17,16,5,4,3,1] (.region [oa 0 18 (.bin .eql (.t 16) AE),om 1 17 18]) (.cond (.t 17) .skip (.seq [17,16,5,4,3,1] (.region [oa 0 19 (.bin .eql (.t 16) Au),om 1 17 19]) (.cond (.t 17) .skip (.region [oa 0 20 (.bin .eql (.t 16) (.c (.int .i64 10))),om 1 17 20]))))) (.cond (.t 17) (.seq [2] (.region [oa 0 21 (.fieldA 1 (.t 1)),oa 1 22 (.loadB 0 none (.t 21)),oa 2 23 (.bin .eql (.t 22) AE),om 3 24 23,og 4 25 (.fieldA 2 (.t 1)) 24 true,og 5 26 (.loadB 0 none (.t 25)) 24 true,og 6 27 (.bin .eql (.t 26) AE) 24 true,oa 7 28 (.pick (.t 24) (.t 27) An),om 8 29 28,og 9 30 (.fieldA 3 (.t 1)) 29 true,og 10 31 (.loadB 0 none (.t 30)) 29 true,og 11 32 (.bin .eql (.t 31) AE) 29 true,oa 12 33 (.pick (.t 29) (.t 32) An),om 13 2 33]) .ret) (.seq [34,16,5,4,3,1] (.region [oa 0 35 (.bin .eql (.t 16) (.c (.int .i64 2))),om 1 34 35]) (.cond (.t 34) (.seq [2] (.region [oa 0 36 (.fieldA 3 (.t 1)),oa 1 37 (.loadB 0 none (.t 36)),oa 2 38 (.bin .eql (.t 37) AE),om 3 39 38,og 4 40 (.mv (.t 3)) 39 true,og 5 41 (.mv (.t 40)) 39 true,og 6 42 (.fieldA 1 (.t 1)) 41 false,og 7 43 (.loadB 0 none (.t 42)) 41 false,og 8 44 (.bin .eql (.t 43) AE) 41 false,og 9 45 (.mv (.t 44)) 41 false,og 10 46 (.mv (.t 4)) 45 true,og 11 47 (.pick (.t 45) (.t 46) An) 41 false,og 12 48 (.pick (.t 41) AR (.t 47)) 39 true,oa 13 49 (.pick (.t 39) (.t 48) An),om 14 50 49,og 15 51 (.mv (.t 4)) 50 true,og 16 52 (.mv (.t 51)) 50 true,og 17 53 (.fieldA 2 (.t 1)) 52 false,og 18 54 (.loadB 0 none (.t 53)) 52 false,og 19 55 (.bin .eql (.t 54) AE) 52 false,og 20 56 (.pick (.t 52) AR (.t 55)) 50 true,oa 21 57 (.pick (.t 50) (.t 56) An),om 22 2 57]) .ret) (.seq [58,16,5,4,3,1] (.seq [58,16,5,4,3,1] (.region [oa 0 59 (.bin .eql (.t 16) (.c (.int .i64 3))),om 1 58 59]) (.cond (.t 58) .skip (.region [oa 0 60 (.bin .eql (.t 16) (.c (.int .i64 4))),om 1 58 60]))) (.cond (.t 58) (.seq [2] (.region [om 0 61 5,om 1 62 61,og 2 63 (.fieldA 1 (.t 1)) 62 true,og 3 64 (.loadB 0 none (.t 63)) 62 true,og 4 65 (.bin .eql (.t 64) AE) 62 true,oa 5 66 (.pick (.t 62) (.t 65) An),om 6 67 66,og 7 68 (.fieldA 2 (.t 1)) 67 true,og 8 69 (.loadB 0 none (.t 68)) 67 true,og 9 70 (.bin .eql (.t 69) AE) 67 true,oa 10 71 (.pick (.t 67) (.t 70) An),om 11 2 71]) .ret) (.seq [72,16,5,4,3,1] (.seq [72,16,5,4,3,1] (.region [oa 0 73 (.bin .eql (.t 16) (.c (.int .i64 5))),om 1 72 73]) (.cond (.t 72) .skip (.region [oa 0 74 (.bin .eql (.t 16) (.c (.int .i64 9))),om 1 72 74]))) (.cond (.t 72) (.seq [2] (.region [oa 0 75 (.fieldA 3 (.t 1)),oa 1 76 (.loadB 0 none (.t 75)),oF 2 77 BM [(.t 76),AE,(.c (.int .i64 3))],om 3 78 77,og 4 79 (.fieldA 1 (.t 1)) 78 true,og 5 80 (.loadB 0 none (.t 79)) 78 true,og 6 81 (.bin .eql (.t 80) AE) 78 true,oa 7 82 (.pick (.t 78) (.t 81) An),om 8 83 82,og 9 84 (.fieldA 2 (.t 1)) 83 true,og 10 85 (.loadB 0 none (.t 84)) 83 true,og 11 86 (.bin .eql (.t 85) AE) 83 true,oa 12 87 (.pick (.t 83) (.t 86) An),om 13 2 87]) .ret) (.seq [88,16,5,4,3,1] (.region [oa 0 89 (.bin .eql (.t 16) (.c (.int .i64 6))),om 1 88 89]) (.cond (.t 88) (.seq [2] (.region [om 0 90 3,om 1 91 90,og 2 92 (.mv (.t 4)) 91 true,oa 3 93 (.pick (.t 91) (.t 92) An),om 4 94 93,og 5 95 (.fieldA 3 (.t 1)) 94 true,og 6 96 (.loadB 0 none (.t 95)) 94 true,og 7 97 (.bin .eql (.t 96) AE) 94 true,oa 8 98 (.pick (.t 94) (.t 97) An),om 9 2 98]) .ret) (.seq [99,16,5,4,3,1] (.region [oa 0 100 (.bin .eql (.t 16) (.c (.int .i64 7))),om 1 99 100]) (.cond (.t 99) (.seq [2] (.region [om 0 101 3,om 1 102 101,og 2 103 (.mv (.t 5)) 102 true,oa 3 104 (.pick (.t 102) (.t 103) An),om 4 105 104,og 5 106 (.fieldA 2 (.t 1)) 105 true,og 6 107 (.loadB 0 none (.t 106)) 105 true,og 7 108 (.bin .eql (.t 107) AE) 105 true,oa 8 109 (.pick (.t 105) (.t 108) An),om 9 2 109]) .ret) (.seq [110,4,1] (.region [oa 0 111 (.bin .eql (.t 16) (.c (.int .i64 8))),om 1 110 111]) (.cond (.t 110) (.seq [2] (.region [om 0 112 4,om 1 113 112,og 2 114 (.fieldA 1 (.t 1)) 113 true,og 3 115 (.loadB 0 none (.t 114)) 113 true,og 4 116 (.bin .eql (.t 115) AE) 113 true,oa 5 117 (.pick (.t 113) (.t 116) An),om 6 118 117,og 7 119 (.fieldA 3 (.t 1)) 118 true,og 8 120 (.loadB 0 none (.t 119)) 118 true,og 9 121 (.bin .eql (.t 120) AE) 118 true,oa 10 122 (.pick (.t 118) (.t 121) An),om 11 2 122]) .ret) .skip)))))))))))))))) (.seq [2] (.region [oa 0 2 (.mv An)]) .ret))))))
def Ek:Fn:=⟨⟨1,123,1,true,[.tmp 2],sg⟩,[.agg [Aw,Aw,Aw,Aw]],.one (.one .own (.bool))⟩
theorem T1:Ek.A:=AV ⟨Gk,Gk,Gk,Gk,trivial⟩
def Eb:CH->Bool:=Ek.V
def MG:CH->Prop:=Ek.O
theorem Ul:Ek.B:=AX ⟨Gj,Gj,Gj,Gj,trivial⟩ (by kernel_rfl) (λ x=>by kernel_rfl)
def uB:DCode:=(.seq [0] (.region [oa 0 2 (.mv An)]) (.seq [2] (.region [om 0 3 0,oa 1 4 (.bin .geq (.t 3) Au),om 2 5 4,og 3 6 (.mv (.t 0)) 5 true,og 4 7 (.bin .leq (.t 6) (.c (.int .i64 56))) 5 true,oa 5 8 (.pick (.t 5) (.t 7) An),om 6 2 8]) .ret))
def FX:Fn:=⟨⟨1,9,0,true,[.tmp 2],uB⟩,[.one .frz (.int .i64)],.one (.one .own (.bool))⟩
theorem Zd:FX.A:=AV trivial
def Ir:Int->Bool:=FX.V
def OC:Int->Prop:=FX.O
theorem Zc:FX.B:=AX trivial (by kernel_rfl) (λ x=>by kernel_rfl)
def uT:DCode:=(.seq [0] (.region [oa 0 2 (.mv An)]) (.seq [2] (.region [om 0 3 0,oa 1 4 (.bin .geq (.t 3) Au),om 2 5 4,og 3 6 (.mv (.t 0)) 5 true,og 4 7 (.bin .leq (.t 6) (.c (.int .i64 15))) 5 true,oa 5 8 (.pick (.t 5) (.t 7) An),om 6 2 8]) .ret))
def Em:Fn:=⟨⟨1,9,0,true,[.tmp 2],uT⟩,[.one .frz (.int .i64)],.one (.one .own (.bool))⟩
theorem Zj:Em.A:=AV trivial
def OR:Int->Bool:=Em.V
def MP:Int->Prop:=Em.O
theorem Zh:Em.B:=AX trivial (by kernel_rfl) (λ x=>by kernel_rfl)
def sW:DCode:=(.seq [0] (.region [oa 0 2 (.mv An)]) (.seq [2] (.region [om 0 3 0,oa 1 4 (.bin .geq (.t 3) Au),om 2 5 4,og 3 6 (.mv (.t 0)) 5 true,og 4 7 (.bin .leq (.t 6) (.c (.int .i64 3))) 5 true,oa 5 8 (.pick (.t 5) (.t 7) An),om 6 2 8]) .ret))
def FV:Fn:=⟨⟨1,9,0,true,[.tmp 2],sW⟩,[.one .frz (.int .i64)],.one (.one .own (.bool))⟩
theorem fN:FV.A:=AV trivial
def UM:Int->Bool:=FV.V
def QU:Int->Prop:=FV.O
theorem fW:FV.B:=AX trivial (by kernel_rfl) (λ x=>by kernel_rfl)
def rF:DCode:=(.seq [1] (.region [oa 0 1 (.boxB 0 4 (.t 0)),oa 1 2 (.mv An)]) (.seq [] (.seq [4,1] (.region [oa 0 3 (.fieldA 0 (.t 1)),oa 1 4 (.loadB 0 none (.t 3))]) (.block 0 (.seq [5,4,1] (.seq [5,4,1] (.region [oa 0 6 (.bin .eql (.t 4) AE),om 1 5 6]) (.cond (.t 5) .skip (.seq [5,4,1] (.region [oa 0 7 (.bin .eql (.t 4) Au),om 1 5 7]) (.cond (.t 5) .skip (.region [oa 0 8 (.bin .eql (.t 4) (.c (.int .i64 10))),om 1 5 8]))))) (.cond (.t 5) (.seq [2] (.region [oa 0 9 (.fieldA 1 (.t 1)),oa 1 10 (.loadB 0 none (.t 9)),oa 2 11 (.bin .eql (.t 10) AE),om 3 12 11,og 4 13 (.fieldA 2 (.t 1)) 12 true,og 5 14 (.loadB 0 none (.t 13)) 12 true,og 6 15 (.bin .eql (.t 14) AE) 12 true,oa 7 16 (.pick (.t 12) (.t 15) An),om 8 17 16,og 9 18 (.fieldA 3 (.t 1)) 17 true,og 10 19 (.loadB 0 none (.t 18)) 17 true,og 11 20 (.bin .eql (.t 19) AE) 17 true,oa 12 21 (.pick (.t 17) (.t 20) An),om 13 2 21]) .ret) (.seq [22,4,1] (.region [oa 0 23 (.bin .eql (.t 4) (.c (.int .i64 2))),om 1 22 23]) (.cond (.t 22) (.seq [2] (.region [oa 0 24 (.fieldA 3 (.t 1)),oa 1 25 (.loadB 0 none (.t 24)),oa 2 26 (.bin .eql (.t 25) AE),om 3 27 26,og 4 28 (.fieldA 1 (.t 1)) 27 true,og 5 29 (.loadB 0 none (.t 28)) 27 true,og 6 30 (.bin .eql (.t 29) AE) 27 true,og 7 31 (.mv (.t 30)) 27 true,og 8 32 (.fieldA 1 (.t 1)) 31 false,og 9 33 (.loadB 0 none (.t 32)) 31 false,⟨10,some 34,.call false FX.S FX.P FX.D [(.t 33)],(some (31,false)),[]⟩,og 11 35 (.pick (.t 31) AR (.t 34)) 27 true,oa 12 36 (.pick (.t 27) (.t 35) An),om 13 37 36,og 14 38 (.fieldA 2 (.t 1)) 37 true,og 15 39 (.loadB 0 none (.t 38)) 37 true,og 16 40 (.bin .eql (.t 39) AE) 37 true,og 17 41 (.mv (.t 40)) 37 true,og 18 42 (.fieldA 2 (.t 1)) 41 false,og 19 43 (.loadB 0 none (.t 42)) 41 false,⟨20,some 44,.call false Em.S Em.P Em.D [(.t 43)],(some (41,false)),[]⟩,og 21 45 (.pick (.t 41) AR (.t 44)) 37 true,oa 22 46 (.pick (.t 37) (.t 45) An),om 23 47 46,og 24 48 (.fieldA 1 (.t 1)) 47 true,og 25 49 (.loadB 0 none (.t 48)) 47 true,og 26 50 (.bin .neq (.t 49) AE) 47 true,og 27 51 (.mv (.t 50)) 47 true,og 28 52 (.fieldA 2 (.t 1)) 51 false,og 29 53 (.loadB 0 none (.t 52)) 51 false,og 30 54 (.bin .neq (.t 53) AE) 51 false,og 31 55 (.pick (.t 51) AR (.t 54)) 47 true,oa 32 56 (.pick (.t 47) (.t 55) An),om 33 2 56]) .ret) (.seq [57,4,1] (.seq [57,4,1] (.region [oa 0 58 (.bin .eql (.t 4) (.c (.int .i64 3))),om 1 57 58]) (.cond (.t 57) .skip (.region [oa 0 59 (.bin .eql (.t 4) (.c (.int .i64 4))),om 1 57 59]))) (.cond (.t 57) (.seq [2] (.region [oa 0 60 (.fieldA 1 (.t 1)),oa 1 61 (.loadB 0 none (.t 60)),oa 2 62 (.bin .eql (.t 61) AE),om 3 63 62,og 4 64 (.fieldA 2 (.t 1)) 63 true,og 5 65 (.loadB 0 none (.t 64)) 63 true,og 6 66 (.bin .eql (.t 65) AE) 63 true,oa 7 67 (.pick (.t 63) (.t 66) An),om 8 68 67,og 9 69 (.fieldA 3 (.t 1)) 68 true,og 10 70 (.loadB 0 none (.t 69)) 68 true,⟨11,some 71,.call false FV.S FV.P FV.D [(.t 70)],(some (68,true)),[]⟩,oa 12 72 (.pick (.t 68) (.t 71) An),om 13 2 72]) .ret) (.seq [73,4,1] (.region [oa 0 74 (.bin .eql (.t 4) (.c (.int .i64 5))),om 1 73 74]) (.cond (.t 73) (.seq [2] (.region [oa 0 75 (.fieldA 1 (.t 1)),oa 1 76 (.loadB 0 none (.t 75)),oa 2 77 (.bin .eql (.t 76) AE),om 3 78 77,og 4 79 (.fieldA 2 (.t 1)) 78 true,og 5 80 (.loadB 0 none (.t 79)) 78 true,og 6 81 (.bin .eql (.t 80) AE) 78 true,oa 7 82 (.pick (.t 78) (.t 81) An),om 8 83 82,og 9 84 (.fieldA 3 (.t 1)) 83 true,og 10 85 (.loadB 0 none (.t 84)) 83 true,og 11 86 (.bin .geq (.t 85) AE) 83 true,oa 12 87 (.pick (.t 83) (.t 86) An),om 13 88 87,og 14 89 (.fieldA 3 (.t 1)) 88 true,og 15 90 (.loadB 0 none (.t 89)) 88 true,og 16 91 (.bin .leq (.t 90) (.c (.int .i64 3))) 88 true,oa 17 92 (.pick (.t 88) (.t 91) An),om 18 2 92]) .ret) (.seq [93,4,1] (.region [oa 0 94 (.bin .eql (.t 4) (.c (.int .i64 9))),om 1 93 94]) (.cond (.t 93) (.seq [2] (.region [oa 0 95 (.fieldA 1 (.t 1)),oa 1 96 (.loadB 0 none (.t 95)),oa 2 97 (.bin .eql (.t 96) AE),om 3 98 97,og 4 99 (.fieldA 2 (.t 1)) 98 true,og 5 100 (.loadB 0 none (.t 99)) 98 true,og 6 101 (.bin .eql (.t 100) AE) 98 true,oa 7 102 (.pick (.t 98) (.t 101) An),om 8 103 102,og 9 104 (.fieldA 3 (.t 1)) 103 true,og 10 105 (.loadB 0 none (.t 104)) 103 true,og 11 106 (.bin .geq (.t 105) AE) 103 true,oa 12 107 (.pick (.t 103) (.t 106) An),om 13 108 107,og 14 109 (.fieldA 3 (.t 1)) 108 true,og 15 110 (.loadB 0 none (.t 109)) 108 true,og 16 111 (.bin .leq (.t 110) (.c (.int .i64 3))) 108 true,oa 17 112 (.pick (.t 108) (.t 111) An),om 18 2 112]) .ret) (.seq [113,4,1] (.region [oa 0 114 (.bin .eql (.t 4) (.c (.int .i64 6))),om 1 113 114]) (.cond (.t 113) (.seq [2] (.region [oa 0 115 (.fieldA 1 (.t 1)),oa 1 116 (.loadB 0 none (.t 115)),oF 2 117 FX [(.t 116)],om 3 118 117,og 4 119 (.fieldA 2 (.t 1)) 118 true,og 5 120 (.loadB 0 none (.t 119)) 118 true,⟨6,some 121,.call false Em.S Em.P Em.D [(.t 120)],(some (118,true)),[]⟩,oa 7 122 (.pick (.t 118) (.t 121) An),om 8 123 122,og 9 124 (.fieldA 3 (.t 1)) 123 true,og 10 125 (.loadB 0 none (.t 124)) 123 true,og 11 126 (.bin .eql (.t 125) AE) 123 true,oa 12 127 (.pick (.t 123) (.t 126) An),om 13 2 127]) .ret) (.seq [128,4,1] (.region [oa 0 129 (.bin .eql (.t 4) (.c (.int .i64 7))),om 1 128 129]) (.cond (.t 128) (.seq [2] (.region [oa 0 130 (.fieldA 1 (.t 1)),oa 1 131 (.loadB 0 none (.t 130)),oF 2 132 FX [(.t 131)],om 3 133 132,og 4 134 (.fieldA 2 (.t 1)) 133 true,og 5 135 (.loadB 0 none (.t 134)) 133 true,og 6 136 (.bin .eql (.t 135) AE) 133 true,oa 7 137 (.pick (.t 133) (.t 136) An),om 8 138 137,og 9 139 (.fieldA 3 (.t 1)) 138 true,og 10 140 (.loadB 0 none (.t 139)) 138 true,⟨11,some 141,.call false FV.S FV.P FV.D [(.t 140)],(some (138,true)),[]⟩,oa 12 142 (.pick (.t 138) (.t 141) An),om 13 2 142]) .ret) (.seq [143,1] (.region [oa 0 144 (.bin .eql (.t 4) (.c (.int .i64 8))),om 1 143 144]) (.cond (.t 143) (.seq [2] (.region [oa 0 145 (.fieldA 1 (.t 1)),oa 1 146 (.loadB 0 none (.t 145)),oa 2 147 (.bin .eql (.t 146) AE),om 3 148 147,og 4 149 (.fieldA 2 (.t 1)) 148 true,og 5 150 (.loadB 0 none (.t 149)) 148 true,⟨6,some 151,.call false Em.S Em.P Em.D [(.t 150)],(some (148,true)),[]⟩,oa 7 152 (.pick (.t 148) (.t 151) An),om 8 153 152,og 9 154 (.fieldA 3 (.t 1)) 153 true,og 10 155 (.loadB 0 none (.t 154)) 153 true,og 11 156 (.bin .eql (.t 155) AE) 153 true,oa 12 157 (.pick (.t 153) (.t 156) An),om 13 2 157]) .ret) .skip)))))))))))))))))) (.seq [2] (.region [oa 0 2 (.mv An)]) .ret)))
def EY:Fn:=⟨⟨1,158,1,true,[.tmp 2],rF⟩,[.agg [Aw,Aw,Aw,Aw]],.one (.one .own (.bool))⟩
theorem T9:EY.A:=AV ⟨Zd,Zj,fN,Zd,Zj,Zd,fN,Zj,trivial⟩
def Bt:CH->Bool:=EY.V
def MI:CH->Prop:=EY.O
theorem Um:EY.B:=AX ⟨Zc,Zh,fW,Zc,Zh,Zc,fW,Zh,trivial⟩ (by kernel_rfl) (λ x=>by kernel_rfl)
end
section
set_option maxRecDepth 100000
theorem Zy (x):BH x=(bAnd (iGe x.1 x.2.1) (iLe x.1 x.2.2)):=(BM.v x).trans (by kernel_rfl)
theorem O1 (x):Ec x=True:=(BM.o x).trans (by kernel_rfl)
theorem r6 (x):Eb x=(bSel (bOr (iEq x.1 0) (bOr (iEq x.1 1) (iEq x.1 10))) (bAnd (iEq x.2.1 0) (bAnd (iEq x.2.2.1 0) (iEq x.2.2.2 0))) (bSel (iEq x.1 2) (bAnd (iEq x.2.2.2 0) (bSel (BH (x.2.1,1,56)) (bOr (BH (x.2.2.1,1,15)) (iEq x.2.2.1 0)) (bAnd (iEq x.2.1 0) (bAnd (BH (x.2.2.1,1,15)) (bOr (BH (x.2.2.1,1,15)) (iEq x.2.2.1 0)))))) (bSel (bOr (iEq x.1 3) (iEq x.1 4)) (bAnd (BH (x.2.2.2,1,3)) (bAnd (iEq x.2.1 0) (iEq x.2.2.1 0))) (bSel (bOr (iEq x.1 5) (iEq x.1 9)) (bAnd (BH (x.2.2.2,0,3)) (bAnd (iEq x.2.1 0) (iEq x.2.2.1 0))) (bSel (iEq x.1 6) (bAnd (BH (x.2.1,1,56)) (bAnd (BH (x.2.2.1,1,15)) (iEq x.2.2.2 0))) (bSel (iEq x.1 7) (bAnd (BH (x.2.1,1,56)) (bAnd (BH (x.2.2.2,1,3)) (iEq x.2.2.1 0))) (bAnd (iEq x.1 8) (bAnd (BH (x.2.2.1,1,15)) (bAnd (iEq x.2.1 0) (iEq x.2.2.2 0)))))))))):=(Ek.v x).trans (by kernel_rfl)
theorem rU (x):MG x=((Ec (x.2.1,1,56))/\((Ec (x.2.2.1,1,15))/\((Ec (x.2.2.2,1,3))/\(((bOr (iEq x.1 0) (bOr (iEq x.1 1) (iEq x.1 10)))=true->True)/\((bOr (iEq x.1 0) (bOr (iEq x.1 1) (iEq x.1 10)))=false->(((iEq x.1 2)=true->True)/\((iEq x.1 2)=false->(((bOr (iEq x.1 3) (iEq x.1 4))=true->True)/\((bOr (iEq x.1 3) (iEq x.1 4))=false->(((bOr (iEq x.1 5) (iEq x.1 9))=true->(Ec (x.2.2.2,0,3)))/\((bOr (iEq x.1 5) (iEq x.1 9))=false->True))))))))))):=(Ek.o x).trans (by kernel_rfl)
theorem U1 (x):Ir x=(bAnd (iGe x 1) (iLe x 56)):=(FX.v x).trans (by kernel_rfl)
theorem ud (x):OC x=True:=(FX.o x).trans (by kernel_rfl)
theorem UO (x):OR x=(bAnd (iGe x 1) (iLe x 15)):=(Em.v x).trans (by kernel_rfl)
theorem vg (x):MP x=True:=(Em.o x).trans (by kernel_rfl)
theorem Y9 (x):UM x=(bAnd (iGe x 1) (iLe x 3)):=(FV.v x).trans (by kernel_rfl)
theorem sE (x):QU x=True:=(FV.o x).trans (by kernel_rfl)
theorem QI (x):Bt x=(bSel (bOr (iEq x.1 0) (bOr (iEq x.1 1) (iEq x.1 10))) (bAnd (iEq x.2.1 0) (bAnd (iEq x.2.2.1 0) (iEq x.2.2.2 0))) (bSel (iEq x.1 2) (bAnd (iEq x.2.2.2 0) (bSel (iEq x.2.1 0) (bSel (iEq x.2.2.1 0) (bOr (iNe x.2.1 0) (iNe x.2.2.1 0)) (bAnd (OR x.2.2.1) (bOr (iNe x.2.1 0) (iNe x.2.2.1 0)))) (bAnd (Ir x.2.1) (bSel (iEq x.2.2.1 0) (bOr (iNe x.2.1 0) (iNe x.2.2.1 0)) (bAnd (OR x.2.2.1) (bOr (iNe x.2.1 0) (iNe x.2.2.1 0))))))) (bSel (bOr (iEq x.1 3) (iEq x.1 4)) (bAnd (iEq x.2.1 0) (bAnd (iEq x.2.2.1 0) (UM x.2.2.2))) (bSel (iEq x.1 5) (bAnd (iEq x.2.1 0) (bAnd (iEq x.2.2.1 0) (bAnd (iGe x.2.2.2 0) (iLe x.2.2.2 3)))) (bSel (iEq x.1 9) (bAnd (iEq x.2.1 0) (bAnd (iEq x.2.2.1 0) (bAnd (iGe x.2.2.2 0) (iLe x.2.2.2 3)))) (bSel (iEq x.1 6) (bAnd (Ir x.2.1) (bAnd (OR x.2.2.1) (iEq x.2.2.2 0))) (bSel (iEq x.1 7) (bAnd (Ir x.2.1) (bAnd (iEq x.2.2.1 0) (UM x.2.2.2))) (bAnd (iEq x.1 8) (bAnd (iEq x.2.1 0) (bAnd (OR x.2.2.1) (iEq x.2.2.2 0))))))))))):=(EY.v x).trans (by kernel_rfl)
theorem sr (x):MI x=(((bOr (iEq x.1 0) (bOr (iEq x.1 1) (iEq x.1 10)))=true->True)/\((bOr (iEq x.1 0) (bOr (iEq x.1 1) (iEq x.1 10)))=false->(((iEq x.1 2)=true->(((iEq x.2.2.2 0)=true->(((iEq x.2.1 0)=true->(((iEq x.2.2.1 0)=true->True)/\((iEq x.2.2.1 0)=false->(MP x.2.2.1))))/\((iEq x.2.1 0)=false->((OC x.2.1)/\(((Ir x.2.1)=true->(((iEq x.2.2.1 0)=true->True)/\((iEq x.2.2.1 0)=false->(MP x.2.2.1))))/\((Ir x.2.1)=false->True))))))/\((iEq x.2.2.2 0)=false->True)))/\((iEq x.1 2)=false->(((bOr (iEq x.1 3) (iEq x.1 4))=true->(((iEq x.2.1 0)=true->(((iEq x.2.2.1 0)=true->(QU x.2.2.2))/\((iEq x.2.2.1 0)=false->True)))/\((iEq x.2.1 0)=false->True)))/\((bOr (iEq x.1 3) (iEq x.1 4))=false->(((iEq x.1 5)=true->True)/\((iEq x.1 5)=false->(((iEq x.1 9)=true->True)/\((iEq x.1 9)=false->(((iEq x.1 6)=true->((OC x.2.1)/\(((Ir x.2.1)=true->(MP x.2.2.1))/\((Ir x.2.1)=false->True))))/\((iEq x.1 6)=false->(((iEq x.1 7)=true->((OC x.2.1)/\(((Ir x.2.1)=true->(((iEq x.2.2.1 0)=true->(QU x.2.2.2))/\((iEq x.2.2.1 0)=false->True)))/\((Ir x.2.1)=false->True))))/\((iEq x.1 7)=false->(((iEq x.1 8)=true->(((iEq x.2.1 0)=true->(MP x.2.2.1))/\((iEq x.2.1 0)=false->True)))/\((iEq x.1 8)=false->True)))))))))))))))):=(EY.o x).trans (by kernel_rfl)
attribute [irreducible] BH Ec Eb MG Ir OC OR MP UM QU Bt MI
end
section
set_option maxRecDepth 8000
def qq:DCode:=(.seq [1] (.region [oa 0 1 (.boxB 0 4 (.t 0)),oa 1 2 (.mv An)]) (.seq [2] (.region [oa 0 3 (.loadB 0 (some 4) (.t 1)),oF 1 4 Ek [(.t 3)],om 2 5 4,og 3 6 (.fieldA 0 (.t 1)) 5 true,og 4 7 (.loadB 0 none (.t 6)) 5 true,og 5 8 (.bin .eql (.t 7) (.c (.int .i64 6))) 5 true,og 6 9 (.mv (.t 8)) 5 true,og 7 10 (.fieldA 0 (.t 1)) 9 false,og 8 11 (.loadB 0 none (.t 10)) 9 false,og 9 12 (.bin .eql (.t 11) (.c (.int .i64 7))) 9 false,og 10 13 (.pick (.t 9) AR (.t 12)) 5 true,oa 11 14 (.pick (.t 5) (.t 13) An),om 12 2 14]) .ret))
def FR:Fn:=⟨⟨1,15,1,true,[.tmp 2],qq⟩,[.agg [Aw,Aw,Aw,Aw]],.one (.one .own (.bool))⟩
theorem YG:FR.A:=AV ⟨T1,trivial⟩
def Kd:CH->Bool:=FR.V
def Oh:CH->Prop:=FR.O
theorem YI:FR.B:=AX ⟨Ul,trivial⟩ (by kernel_rfl) (λ x=>by kernel_rfl)
def uk:DCode:=(.seq [0] (.region [oa 0 2 (.mv An)]) (.seq [3,0] (.region [oi 0 3 0]) (.seq [] (.seq [4,3,0] (.region [oi 0 4 0]) (.block 0 (.loop [0,3,4] 1 (.seq [4,3,0] (.seq [9,4,3,0] (.region [om 0 6 4,on 1 7 0,oa 2 8 (.len (.t 7)),oa 3 9 (.bin .lss (.t 6) (.t 8))]) (.cond (.t 9) .skip (.exit 0))) (.seq [4,3,0] (.block 1 (.seq [5,4,3,0] (.region [on 0 12 0,om 1 13 4,oa 2 14 (.indexA 5 (.t 12) (.t 13)),oa 3 15 (.fieldA 1 (.t 14)),ob 4 16 (.loadH (some 4) (.t 15)),oa 5 5 (.allocB 0 [Ab,Ab,Ab,Ab]),os 6 (.storeB 0 4 (.t 5) (.t 16))]) (.seq [4,3,0] (.seq [48,4,3,0] (.region [on 0 17 0,om 1 18 4,oa 2 19 (.indexA 5 (.t 17) (.t 18)),oa 3 20 (.fieldA 0 (.t 19)),oa 4 21 (.loadH none (.t 20)),oF 5 22 BM [(.t 21),AE,(.c (.int .i64 31))],oa 6 23 (.un .not (.t 22)),om 7 24 23,og 8 25 (.mv (.t 3)) 24 false,⟨9,some 26,.a true (.mv (.t 0)) none,(some (24,false)),[]⟩,og 10 27 (.mv (.t 4)) 24 false,og 11 28 (.indexA 5 (.t 26) (.t 27)) 24 false,og 12 29 (.fieldA 0 (.t 28)) 24 false,og 13 30 (.loadH none (.t 29)) 24 false,og 14 31 (.bin .shr (.t 25) (.t 30)) 24 false,og 15 32 (.bin .and (.t 31) Au) 24 false,og 16 33 (.bin .eql (.t 32) Au) 24 false,oa 17 34 (.pick (.t 24) AR (.t 33)),om 18 35 34,og 19 36 (.loadB 0 (some 4) (.t 5)) 35 false,⟨20,some 37,.call false Ek.S Ek.P Ek.D [(.t 36)],(some (35,false)),[]⟩,og 21 38 (.un .not (.t 37)) 35 false,oa 22 39 (.pick (.t 35) AR (.t 38)),om 23 40 39,og 24 41 (.fieldA 0 (.t 5)) 40 false,og 25 42 (.loadB 0 none (.t 41)) 40 false,og 26 43 (.bin .eql (.t 42) Au) 40 false,oa 27 44 (.pick (.t 40) AR (.t 43)),om 28 45 44,og 29 46 (.loadB 0 (some 4) (.t 5)) 45 false,⟨30,some 47,.call false FR.S FR.P FR.D [(.t 46)],(some (45,false)),[]⟩,oa 31 48 (.pick (.t 45) AR (.t 47))]) (.cond (.t 48) (.seq [2] (.region [oa 0 2 (.mv An)]) .ret) .skip)) (.region [om 0 49 3,on 1 50 0,om 2 51 4,oa 3 52 (.indexA 5 (.t 50) (.t 51)),oa 4 53 (.fieldA 0 (.t 52)),oa 5 54 (.loadH none (.t 53)),oa 6 55 (.bin .shl Au (.t 54)),oa 7 56 (.bin .or (.t 49) (.t 55)),om 8 3 56])))) (.region [om 0 10 4,oa 1 11 (.bin .add (.t 10) Au),om 2 4 11])))))) (.seq [2] (.region [oa 0 2 (.mv AR)]) .ret))))
def El:Fn:=⟨⟨1,57,1,true,[.tmp 2],uk⟩,[.one .frz (.sl Bj)],.one (.one .own (.bool))⟩
theorem UX:El.A:=AV ⟨Gk,T1,YG,trivial⟩
def EF:Bz->Bool:=El.V
def MN:Bz->Prop:=El.O
theorem U2:El.B:=AX ⟨Gj,Ul,YI,trivial⟩ (by kernel_rfl) (λ x=>by kernel_rfl)
def xZ:DCode:=(.seq [1,0] (.region [oi 0 4 0]) (.seq [4] (.region [om 0 5 0,om 1 6 1,oa 2 7 (.bin .shr (.t 5) (.t 6)),oa 3 8 (.bin .and (.t 7) Au),om 4 4 8]) .ret))
def GX:Fn:=⟨⟨2,9,0,true,[.tmp 4],xZ⟩,[.one .frz (.int .i64),.one .frz (.int .i64)],.one (.one .own (.int .i64))⟩
theorem iV:GX.A:=AV trivial
def Eo:A6->Int:=GX.V
def VZ:A6->Prop:=GX.O
theorem iL:GX.B:=AX trivial (by kernel_rfl) (λ x=>by kernel_rfl)
def uW:DCode:=(.seq [0] (.region [oa 0 2 (.mv An)]) (.seq [3,0] (.region [oi 0 3 0]) (.seq [] (.seq [8,7,6,3] (.region [on 0 6 0,oa 1 7 (.len (.t 6)),oi 2 8 0]) (.block 0 (.loop [3,6,7,8] 1 (.seq [9,8,7,6,3] (.region [oa 0 9 (.bin .lss (.t 8) (.t 7))]) (.seq [8,7,6,3] (.cond (.t 9) .skip (.exit 0)) (.seq [8,7,6,3] (.block 1 (.seq [8,7,6,5,3] (.region [oa 0 10 (.indexA 5 (.t 6) (.t 8)),ob 1 11 (.loadH (some 5) (.t 10)),oa 2 5 (.allocB 0 [Ab,Ab,Ab,Ab,Ab]),os 3 (.storeB 0 5 (.t 5) (.t 11))]) (.seq [8,7,6,5,3] (.seq [32,8,7,6,5,3] (.region [oa 0 12 (.fieldA 0 (.t 5)),oa 1 13 (.loadB 0 none (.t 12)),oa 2 14 (.bin .lss (.t 13) AE),om 3 15 14,og 4 16 (.fieldA 0 (.t 5)) 15 false,og 5 17 (.loadB 0 none (.t 16)) 15 false,og 6 18 (.bin .gtr (.t 17) (.c (.int .i64 31))) 15 false,oa 7 19 (.pick (.t 15) AR (.t 18)),om 8 20 19,og 9 21 (.mv (.t 3)) 20 false,og 10 22 (.fieldA 0 (.t 5)) 20 false,og 11 23 (.loadB 0 none (.t 22)) 20 false,⟨12,some 24,.call false GX.S GX.P GX.D [(.t 21),(.t 23)],(some (20,false)),[]⟩,og 13 25 (.bin .eql (.t 24) Au) 20 false,oa 14 26 (.pick (.t 20) AR (.t 25)),om 15 27 26,og 16 28 (.fieldA 1 (.t 5)) 27 false,og 17 29 (.loadB 0 (some 4) (.t 28)) 27 false,⟨18,some 30,.call false EY.S EY.P EY.D [(.t 29)],(some (27,false)),[]⟩,og 19 31 (.un .not (.t 30)) 27 false,oa 20 32 (.pick (.t 27) AR (.t 31))]) (.cond (.t 32) (.seq [2] (.region [oa 0 2 (.mv An)]) .ret) .skip)) (.seq [8,7,6,5,3] (.seq [35,8,7,6,5,3] (.region [oa 0 33 (.fieldA 1 (.t 5)),oa 1 34 (.fieldA 0 (.t 33)),oa 2 35 (.loadB 0 none (.t 34))]) (.block 2 (.seq [36,8,7,6,5,3] (.seq [36,35,8,7,6,5,3] (.region [oa 0 37 (.bin .eql (.t 35) Au),om 1 36 37]) (.cond (.t 36) .skip (.seq [36,35,8,7,6,5,3] (.region [oa 0 38 (.bin .eql (.t 35) (.c (.int .i64 6))),om 1 36 38]) (.cond (.t 36) .skip (.region [oa 0 39 (.bin .eql (.t 35) (.c (.int .i64 7))),om 1 36 39]))))) (.cond (.t 36) (.seq [2] (.region [oa 0 2 (.mv An)]) .ret) .skip)))) (.region [om 0 40 3,oa 1 41 (.fieldA 0 (.t 5)),oa 2 42 (.loadB 0 none (.t 41)),oa 3 43 (.bin .shl Au (.t 42)),oa 4 44 (.bin .or (.t 40) (.t 43)),om 5 3 44]))))) (.region [oa 0 45 (.bin .add (.t 8) Au),om 1 8 45]))))))) (.seq [2] (.region [oa 0 2 (.mv AR)]) .ret))))
def E2:Fn:=⟨⟨1,46,1,true,[.tmp 2],uW⟩,[.one .frz (.sl Bj)],.one (.one .own (.bool))⟩
theorem UQ:E2.A:=AV ⟨iV,T9,trivial⟩
def Ct:Bz->Bool:=E2.V
def MM:Bz->Prop:=E2.O
theorem UY:E2.B:=AX ⟨iL,Um,trivial⟩ (by kernel_rfl) (λ x=>by kernel_rfl)
def sf:DCode:=(.seq [1,0] (.region [oi 0 4 0]) (.seq [5,1,0] (.region [oi 0 5 1]) (.seq [5,1] (.seq [8,5,1,0] (.region [om 0 7 0,oF 1 8 BM [(.t 7),AE,(.c (.int .i64 15))]]) (.cond (.t 8) (.region [om 0 9 0,oa 1 10 (.bin .or Au (.t 9)),om 2 5 10]) .skip)) (.seq [5] (.seq [6,5,1] (.region [oi 0 6 0]) (.block 0 (.loop [1,5,6] 1 (.seq [6,5,1] (.seq [18,6,5,1] (.region [om 0 11 6,on 1 12 1,oa 2 13 (.len (.t 12)),oa 3 14 (.bin .lss (.t 11) (.t 13)),om 4 15 14,⟨5,some 16,.a true (.mv (.t 1)) none,(some (15,true)),[]⟩,⟨6,some 17,.call false El.S El.P El.D [(.t 16)],(some (15,true)),[]⟩,oa 7 18 (.pick (.t 15) (.t 17) An)]) (.cond (.t 18) .skip (.exit 0))) (.seq [6,5,1] (.block 1 (.seq [27,6,5,1] (.region [on 0 21 1,om 1 22 6,oa 2 23 (.indexA 5 (.t 21) (.t 22)),oa 3 24 (.fieldA 1 (.t 23)),oa 4 25 (.fieldA 0 (.t 24)),oa 5 26 (.loadH none (.t 25)),oa 6 27 (.bin .eql (.t 26) (.c (.int .i64 3)))]) (.cond (.t 27) (.region [om 0 28 5,on 1 29 1,om 2 30 6,oa 3 31 (.indexA 5 (.t 29) (.t 30)),oa 4 32 (.fieldA 1 (.t 31)),oa 5 33 (.fieldA 3 (.t 32)),oa 6 34 (.loadH none (.t 33)),oa 7 35 (.bin .shl Au (.t 34)),oa 8 36 (.bin .or (.t 28) (.t 35)),om 9 5 36]) .skip))) (.region [om 0 19 6,oa 1 20 (.bin .add (.t 19) Au),om 2 6 20])))))) (.seq [4] (.region [om 0 37 5,om 1 4 37]) .ret)))))
def Kg:Fn:=⟨⟨2,38,0,true,[.tmp 4],sf⟩,[.one .frz (.int .i64),.one .frz (.sl Bj)],.one (.one .own (.int .i64))⟩
theorem rS:Kg.A:=AV ⟨Gk,UX,trivial⟩
def QS:XV->Int:=Kg.V
def Uk:XV->Prop:=Kg.O
theorem rL:Kg.B:=AX ⟨Gj,U2,trivial⟩ (by kernel_rfl) (λ x=>by kernel_rfl)
def qY:DCode:=(.seq [1,0] (.region [oi 0 4 0]) (.seq [5,1,0] (.region [oi 0 5 1]) (.seq [5,1] (.seq [13,5,1,0] (.region [om 0 8 0,oa 1 9 (.bin .geq (.t 8) AE),om 2 10 9,og 3 11 (.mv (.t 0)) 10 true,og 4 12 (.bin .leq (.t 11) (.c (.int .i64 15))) 10 true,oa 5 13 (.pick (.t 10) (.t 12) An)]) (.cond (.t 13) (.region [om 0 14 5,om 1 15 0,oa 2 16 (.bin .or (.t 14) (.t 15)),om 3 5 16]) .skip)) (.seq [5,1] (.seq [19,5,1] (.region [on 0 17 1,oF 1 18 E2 [(.t 17)],oa 2 19 (.un .not (.t 18))]) (.cond (.t 19) (.seq [4] (.region [om 0 20 5,om 1 4 20]) .ret) .skip)) (.seq [5] (.seq [23,22,21,5] (.region [on 0 21 1,oa 1 22 (.len (.t 21)),oi 2 23 0]) (.block 0 (.loop [5,21,22,23] 1 (.seq [24,23,22,21,5] (.region [oa 0 24 (.bin .lss (.t 23) (.t 22))]) (.seq [23,22,21,5] (.cond (.t 24) .skip (.exit 0)) (.seq [23,22,21,5] (.block 1 (.seq [23,22,21,7,5] (.region [oa 0 25 (.indexA 5 (.t 21) (.t 23)),ob 1 26 (.loadH (some 5) (.t 25)),oa 2 7 (.allocB 0 [Ab,Ab,Ab,Ab,Ab]),os 3 (.storeB 0 5 (.t 7) (.t 26))]) (.seq [30,23,22,21,7,5] (.region [oa 0 27 (.fieldA 1 (.t 7)),oa 1 28 (.fieldA 0 (.t 27)),oa 2 29 (.loadB 0 none (.t 28)),oa 3 30 (.bin .eql (.t 29) (.c (.int .i64 3)))]) (.cond (.t 30) (.region [om 0 31 5,oa 1 32 (.fieldA 1 (.t 7)),oa 2 33 (.fieldA 3 (.t 32)),oa 3 34 (.loadB 0 none (.t 33)),oa 4 35 (.bin .shl Au (.t 34)),oa 5 36 (.bin .or (.t 31) (.t 35)),om 6 5 36]) .skip)))) (.region [oa 0 37 (.bin .add (.t 23) Au),om 1 23 37]))))))) (.seq [4] (.region [om 0 38 5,om 1 4 38]) .ret))))))
def Kh:Fn:=⟨⟨2,39,1,true,[.tmp 4],qY⟩,[.one .frz (.int .i64),.one .frz (.sl Bj)],.one (.one .own (.int .i64))⟩
theorem rq:Kh.A:=AV ⟨UQ,trivial⟩
def E0:XV->Int:=Kh.V
def Uq:XV->Prop:=Kh.O
theorem se:Kh.B:=AX ⟨UY,trivial⟩ (by kernel_rfl) (λ x=>by kernel_rfl)
end
section
set_option maxRecDepth 100000
theorem YD (x):Kd x=(bAnd (Eb (x.1,x.2.1,x.2.2.1,x.2.2.2)) (bOr (iEq x.1 6) (iEq x.1 7))):=(FR.v x).trans (by kernel_rfl)
theorem qg (x):Oh x=(MG (x.1,x.2.1,x.2.2.1,x.2.2.2)):=(FR.o x).trans (by kernel_rfl)
theorem tF (x):EF x=(bNot (iLt (Am (fun(x0:A6)=>(bAnd (iLt x0.2 (lLen x)) (bNot (bOr (bNot (BH ((lGet x (iNat x0.2) (0,0,0,0,0)).1,0,31))) (bOr (iEq (iAnd .i64 (iShr .i64 x0.1 (lGet x (iNat x0.2) (0,0,0,0,0)).1) 1) 1) (bOr (bNot (Eb ((lGet x (iNat x0.2) (0,0,0,0,0)).2.1,(lGet x (iNat x0.2) (0,0,0,0,0)).2.2.1,(lGet x (iNat x0.2) (0,0,0,0,0)).2.2.2.1,(lGet x (iNat x0.2) (0,0,0,0,0)).2.2.2.2))) (bOr (iEq (lGet x (iNat x0.2) (0,0,0,0,0)).2.1 1) (Kd ((lGet x (iNat x0.2) (0,0,0,0,0)).2.1,(lGet x (iNat x0.2) (0,0,0,0,0)).2.2.1,(lGet x (iNat x0.2) (0,0,0,0,0)).2.2.2.1,(lGet x (iNat x0.2) (0,0,0,0,0)).2.2.2.2))))))))) (fun(x0:A6)=>((iOr .i64 x0.1 (iShl .i64 1 (lGet x (iNat x0.2) (0,0,0,0,0)).1)),(iAdd .i64 x0.2 1))) (0,0)).2 (lLen x))):=(El.v x).trans (by kernel_rfl)
theorem tO (x):MN x=(LoopOk (fun(x0:A6)=>(bAnd (iLt x0.2 (lLen x)) (bNot (bOr (bNot (BH ((lGet x (iNat x0.2) (0,0,0,0,0)).1,0,31))) (bOr (iEq (iAnd .i64 (iShr .i64 x0.1 (lGet x (iNat x0.2) (0,0,0,0,0)).1) 1) 1) (bOr (bNot (Eb ((lGet x (iNat x0.2) (0,0,0,0,0)).2.1,(lGet x (iNat x0.2) (0,0,0,0,0)).2.2.1,(lGet x (iNat x0.2) (0,0,0,0,0)).2.2.2.1,(lGet x (iNat x0.2) (0,0,0,0,0)).2.2.2.2))) (bOr (iEq (lGet x (iNat x0.2) (0,0,0,0,0)).2.1 1) (Kd ((lGet x (iNat x0.2) (0,0,0,0,0)).2.1,(lGet x (iNat x0.2) (0,0,0,0,0)).2.2.1,(lGet x (iNat x0.2) (0,0,0,0,0)).2.2.2.1,(lGet x (iNat x0.2) (0,0,0,0,0)).2.2.2.2))))))))) (fun(x0:A6)=>((iOr .i64 x0.1 (iShl .i64 1 (lGet x (iNat x0.2) (0,0,0,0,0)).1)),(iAdd .i64 x0.2 1))) (fun(x0:A6)=>(((iLt x0.2 (lLen x))=true->((((0:Int)<=x0.2)/\(x0.2<(((List.length x):Int))))/\(((iNat x0.2)<(List.length x))/\(((((0:Int)<=x0.2)/\(x0.2<(((List.length x):Int))))/\(((iNat x0.2)<(List.length x))/\((Ec ((lGet x (iNat x0.2) (0,0,0,0,0)).1,0,31))/\(((bNot (BH ((lGet x (iNat x0.2) (0,0,0,0,0)).1,0,31)))=true->True)/\((bNot (BH ((lGet x (iNat x0.2) (0,0,0,0,0)).1,0,31)))=false->((((0:Int)<=x0.2)/\(x0.2<(((List.length x):Int))))/\(((iNat x0.2)<(List.length x))/\(((0:Int)<=(lGet x (iNat x0.2) (0,0,0,0,0)).1)/\(((iEq (iAnd .i64 (iShr .i64 x0.1 (lGet x (iNat x0.2) (0,0,0,0,0)).1) 1) 1)=true->True)/\((iEq (iAnd .i64 (iShr .i64 x0.1 (lGet x (iNat x0.2) (0,0,0,0,0)).1) 1) 1)=false->((MG ((lGet x (iNat x0.2) (0,0,0,0,0)).2.1,(lGet x (iNat x0.2) (0,0,0,0,0)).2.2.1,(lGet x (iNat x0.2) (0,0,0,0,0)).2.2.2.1,(lGet x (iNat x0.2) (0,0,0,0,0)).2.2.2.2))/\(((bNot (Eb ((lGet x (iNat x0.2) (0,0,0,0,0)).2.1,(lGet x (iNat x0.2) (0,0,0,0,0)).2.2.1,(lGet x (iNat x0.2) (0,0,0,0,0)).2.2.2.1,(lGet x (iNat x0.2) (0,0,0,0,0)).2.2.2.2)))=true->True)/\((bNot (Eb ((lGet x (iNat x0.2) (0,0,0,0,0)).2.1,(lGet x (iNat x0.2) (0,0,0,0,0)).2.2.1,(lGet x (iNat x0.2) (0,0,0,0,0)).2.2.2.1,(lGet x (iNat x0.2) (0,0,0,0,0)).2.2.2.2)))=false->(((iEq (lGet x (iNat x0.2) (0,0,0,0,0)).2.1 1)=true->True)/\((iEq (lGet x (iNat x0.2) (0,0,0,0,0)).2.1 1)=false->(Oh ((lGet x (iNat x0.2) (0,0,0,0,0)).2.1,(lGet x (iNat x0.2) (0,0,0,0,0)).2.2.1,(lGet x (iNat x0.2) (0,0,0,0,0)).2.2.2.1,(lGet x (iNat x0.2) (0,0,0,0,0)).2.2.2.2)))))))))))))))))/\(((bOr (bNot (BH ((lGet x (iNat x0.2) (0,0,0,0,0)).1,0,31))) (bOr (iEq (iAnd .i64 (iShr .i64 x0.1 (lGet x (iNat x0.2) (0,0,0,0,0)).1) 1) 1) (bOr (bNot (Eb ((lGet x (iNat x0.2) (0,0,0,0,0)).2.1,(lGet x (iNat x0.2) (0,0,0,0,0)).2.2.1,(lGet x (iNat x0.2) (0,0,0,0,0)).2.2.2.1,(lGet x (iNat x0.2) (0,0,0,0,0)).2.2.2.2))) (bOr (iEq (lGet x (iNat x0.2) (0,0,0,0,0)).2.1 1) (Kd ((lGet x (iNat x0.2) (0,0,0,0,0)).2.1,(lGet x (iNat x0.2) (0,0,0,0,0)).2.2.1,(lGet x (iNat x0.2) (0,0,0,0,0)).2.2.2.1,(lGet x (iNat x0.2) (0,0,0,0,0)).2.2.2.2))))))=true->True)/\((bOr (bNot (BH ((lGet x (iNat x0.2) (0,0,0,0,0)).1,0,31))) (bOr (iEq (iAnd .i64 (iShr .i64 x0.1 (lGet x (iNat x0.2) (0,0,0,0,0)).1) 1) 1) (bOr (bNot (Eb ((lGet x (iNat x0.2) (0,0,0,0,0)).2.1,(lGet x (iNat x0.2) (0,0,0,0,0)).2.2.1,(lGet x (iNat x0.2) (0,0,0,0,0)).2.2.2.1,(lGet x (iNat x0.2) (0,0,0,0,0)).2.2.2.2))) (bOr (iEq (lGet x (iNat x0.2) (0,0,0,0,0)).2.1 1) (Kd ((lGet x (iNat x0.2) (0,0,0,0,0)).2.1,(lGet x (iNat x0.2) (0,0,0,0,0)).2.2.1,(lGet x (iNat x0.2) (0,0,0,0,0)).2.2.2.1,(lGet x (iNat x0.2) (0,0,0,0,0)).2.2.2.2))))))=false->((((0:Int)<=x0.2)/\(x0.2<(((List.length x):Int))))/\(((iNat x0.2)<(List.length x))/\((0:Int)<=(lGet x (iNat x0.2) (0,0,0,0,0)).1)))))))))/\((iLt x0.2 (lLen x))=false->True))) (0,0)):=(El.o x).trans (by kernel_rfl)
theorem VS (x):Eo x=(iAnd .i64 (iShr .i64 x.1 x.2) 1):=(GX.v x).trans (by kernel_rfl)
theorem iI (x):VZ x=((0:Int)<=x.2):=(GX.o x).trans (by kernel_rfl)
theorem U5 (x):Ct x=(bNot (iLt (Am (fun(x0:A6)=>(bAnd (iLt x0.2 (lLen x)) (bAnd (bNot (bOr (iLt (lGet x (iNat x0.2) (0,0,0,0,0)).1 0) (bOr (iGt (lGet x (iNat x0.2) (0,0,0,0,0)).1 31) (bOr (iEq (Eo (x0.1,(lGet x (iNat x0.2) (0,0,0,0,0)).1)) 1) (bNot (Bt ((lGet x (iNat x0.2) (0,0,0,0,0)).2.1,(lGet x (iNat x0.2) (0,0,0,0,0)).2.2.1,(lGet x (iNat x0.2) (0,0,0,0,0)).2.2.2.1,(lGet x (iNat x0.2) (0,0,0,0,0)).2.2.2.2))))))) (bNot (bOr (iEq (lGet x (iNat x0.2) (0,0,0,0,0)).2.1 1) (bOr (iEq (lGet x (iNat x0.2) (0,0,0,0,0)).2.1 6) (iEq (lGet x (iNat x0.2) (0,0,0,0,0)).2.1 7))))))) (fun(x0:A6)=>((iOr .i64 x0.1 (iShl .i64 1 (lGet x (iNat x0.2) (0,0,0,0,0)).1)),(iAdd .i64 x0.2 1))) (0,0)).2 (lLen x))):=(E2.v x).trans (by kernel_rfl)
theorem vo (x):MM x=(LoopOk (fun(x0:A6)=>(bAnd (iLt x0.2 (lLen x)) (bAnd (bNot (bOr (iLt (lGet x (iNat x0.2) (0,0,0,0,0)).1 0) (bOr (iGt (lGet x (iNat x0.2) (0,0,0,0,0)).1 31) (bOr (iEq (Eo (x0.1,(lGet x (iNat x0.2) (0,0,0,0,0)).1)) 1) (bNot (Bt ((lGet x (iNat x0.2) (0,0,0,0,0)).2.1,(lGet x (iNat x0.2) (0,0,0,0,0)).2.2.1,(lGet x (iNat x0.2) (0,0,0,0,0)).2.2.2.1,(lGet x (iNat x0.2) (0,0,0,0,0)).2.2.2.2))))))) (bNot (bOr (iEq (lGet x (iNat x0.2) (0,0,0,0,0)).2.1 1) (bOr (iEq (lGet x (iNat x0.2) (0,0,0,0,0)).2.1 6) (iEq (lGet x (iNat x0.2) (0,0,0,0,0)).2.1 7))))))) (fun(x0:A6)=>((iOr .i64 x0.1 (iShl .i64 1 (lGet x (iNat x0.2) (0,0,0,0,0)).1)),(iAdd .i64 x0.2 1))) (fun(x0:A6)=>(((iLt x0.2 (lLen x))=true->((((0:Int)<=x0.2)/\(x0.2<(((List.length x):Int))))/\(((iNat x0.2)<(List.length x))/\((((iLt (lGet x (iNat x0.2) (0,0,0,0,0)).1 0)=true->True)/\((iLt (lGet x (iNat x0.2) (0,0,0,0,0)).1 0)=false->(((iGt (lGet x (iNat x0.2) (0,0,0,0,0)).1 31)=true->True)/\((iGt (lGet x (iNat x0.2) (0,0,0,0,0)).1 31)=false->((VZ (x0.1,(lGet x (iNat x0.2) (0,0,0,0,0)).1))/\(((iEq (Eo (x0.1,(lGet x (iNat x0.2) (0,0,0,0,0)).1)) 1)=true->True)/\((iEq (Eo (x0.1,(lGet x (iNat x0.2) (0,0,0,0,0)).1)) 1)=false->(MI ((lGet x (iNat x0.2) (0,0,0,0,0)).2.1,(lGet x (iNat x0.2) (0,0,0,0,0)).2.2.1,(lGet x (iNat x0.2) (0,0,0,0,0)).2.2.2.1,(lGet x (iNat x0.2) (0,0,0,0,0)).2.2.2.2)))))))))/\(((bOr (iLt (lGet x (iNat x0.2) (0,0,0,0,0)).1 0) (bOr (iGt (lGet x (iNat x0.2) (0,0,0,0,0)).1 31) (bOr (iEq (Eo (x0.1,(lGet x (iNat x0.2) (0,0,0,0,0)).1)) 1) (bNot (Bt ((lGet x (iNat x0.2) (0,0,0,0,0)).2.1,(lGet x (iNat x0.2) (0,0,0,0,0)).2.2.1,(lGet x (iNat x0.2) (0,0,0,0,0)).2.2.2.1,(lGet x (iNat x0.2) (0,0,0,0,0)).2.2.2.2))))))=true->True)/\((bOr (iLt (lGet x (iNat x0.2) (0,0,0,0,0)).1 0) (bOr (iGt (lGet x (iNat x0.2) (0,0,0,0,0)).1 31) (bOr (iEq (Eo (x0.1,(lGet x (iNat x0.2) (0,0,0,0,0)).1)) 1) (bNot (Bt ((lGet x (iNat x0.2) (0,0,0,0,0)).2.1,(lGet x (iNat x0.2) (0,0,0,0,0)).2.2.1,(lGet x (iNat x0.2) (0,0,0,0,0)).2.2.2.1,(lGet x (iNat x0.2) (0,0,0,0,0)).2.2.2.2))))))=false->(((bOr (iEq (lGet x (iNat x0.2) (0,0,0,0,0)).2.1 1) (bOr (iEq (lGet x (iNat x0.2) (0,0,0,0,0)).2.1 6) (iEq (lGet x (iNat x0.2) (0,0,0,0,0)).2.1 7)))=true->True)/\((bOr (iEq (lGet x (iNat x0.2) (0,0,0,0,0)).2.1 1) (bOr (iEq (lGet x (iNat x0.2) (0,0,0,0,0)).2.1 6) (iEq (lGet x (iNat x0.2) (0,0,0,0,0)).2.1 7)))=false->((0:Int)<=(lGet x (iNat x0.2) (0,0,0,0,0)).1)))))))))/\((iLt x0.2 (lLen x))=false->True))) (0,0)):=(E2.o x).trans (by kernel_rfl)
theorem rG (x):QS x=(Am (fun(x0:A6)=>(bAnd (iLt x0.2 (lLen x.2)) (EF x.2))) (fun(x0:A6)=>((bSel (iEq (lGet x.2 (iNat x0.2) (0,0,0,0,0)).2.1 3) (iOr .i64 x0.1 (iShl .i64 1 (lGet x.2 (iNat x0.2) (0,0,0,0,0)).2.2.2.2)) x0.1),(iAdd .i64 x0.2 1))) ((bSel (BH (x.1,0,15)) (iOr .i64 1 x.1) 1),0)).1:=(Kg.v x).trans (by kernel_rfl)
theorem qR (x):Uk x=((Ec (x.1,0,15))/\(LoopOk (fun(x0:A6)=>(bAnd (iLt x0.2 (lLen x.2)) (EF x.2))) (fun(x0:A6)=>((bSel (iEq (lGet x.2 (iNat x0.2) (0,0,0,0,0)).2.1 3) (iOr .i64 x0.1 (iShl .i64 1 (lGet x.2 (iNat x0.2) (0,0,0,0,0)).2.2.2.2)) x0.1),(iAdd .i64 x0.2 1))) (fun(x0:A6)=>((((iLt x0.2 (lLen x.2))=true->(MN x.2))/\((iLt x0.2 (lLen x.2))=false->True))/\(((bAnd (iLt x0.2 (lLen x.2)) (EF x.2))=true->((((0:Int)<=x0.2)/\(x0.2<(((List.length x.2):Int))))/\(((iNat x0.2)<(List.length x.2))/\(((iEq (lGet x.2 (iNat x0.2) (0,0,0,0,0)).2.1 3)=true->((((0:Int)<=x0.2)/\(x0.2<(((List.length x.2):Int))))/\(((iNat x0.2)<(List.length x.2))/\((0:Int)<=(lGet x.2 (iNat x0.2) (0,0,0,0,0)).2.2.2.2))))/\((iEq (lGet x.2 (iNat x0.2) (0,0,0,0,0)).2.1 3)=false->True)))))/\((bAnd (iLt x0.2 (lLen x.2)) (EF x.2))=false->True)))) ((bSel (BH (x.1,0,15)) (iOr .i64 1 x.1) 1),0))):=(Kg.o x).trans (by kernel_rfl)
theorem rR (x):E0 x=(bSel (bNot (Ct x.2)) (bSel (bAnd (iGe x.1 0) (iLe x.1 15)) (iOr .i64 1 x.1) 1) (Am (fun(x0:A6)=>(iLt x0.2 (lLen x.2))) (fun(x0:A6)=>((bSel (iEq (lGet x.2 (iNat x0.2) (0,0,0,0,0)).2.1 3) (iOr .i64 x0.1 (iShl .i64 1 (lGet x.2 (iNat x0.2) (0,0,0,0,0)).2.2.2.2)) x0.1),(iAdd .i64 x0.2 1))) ((bSel (bAnd (iGe x.1 0) (iLe x.1 15)) (iOr .i64 1 x.1) 1),0)).1):=(Kh.v x).trans (by kernel_rfl)
theorem rT (x):Uq x=((MM x.2)/\(((bNot (Ct x.2))=true->True)/\((bNot (Ct x.2))=false->(LoopOk (fun(x0:A6)=>(iLt x0.2 (lLen x.2))) (fun(x0:A6)=>((bSel (iEq (lGet x.2 (iNat x0.2) (0,0,0,0,0)).2.1 3) (iOr .i64 x0.1 (iShl .i64 1 (lGet x.2 (iNat x0.2) (0,0,0,0,0)).2.2.2.2)) x0.1),(iAdd .i64 x0.2 1))) (fun(x0:A6)=>(((iLt x0.2 (lLen x.2))=true->((((0:Int)<=x0.2)/\(x0.2<(((List.length x.2):Int))))/\(((iNat x0.2)<(List.length x.2))/\(((iEq (lGet x.2 (iNat x0.2) (0,0,0,0,0)).2.1 3)=true->((0:Int)<=(lGet x.2 (iNat x0.2) (0,0,0,0,0)).2.2.2.2))/\((iEq (lGet x.2 (iNat x0.2) (0,0,0,0,0)).2.1 3)=false->True)))))/\((iLt x0.2 (lLen x.2))=false->True))) ((bSel (bAnd (iGe x.1 0) (iLe x.1 15)) (iOr .i64 1 x.1) 1),0))))):=(Kh.o x).trans (by kernel_rfl)
attribute [irreducible] Kd Oh EF MN Eo VZ Ct MM QS Uk E0 Uq
end
section
set_option maxRecDepth 8000
def si:DCode:=(.seq [1] (.region [oa 0 1 (.boxB 0 2 (.t 0)),oa 1 2 (.mv An)]) (.seq [1] (.seq [3,1] (.region [oi 0 3 0]) (.block 0 (.loop [1,3] 1 (.seq [3,1] (.seq [10,3,1] (.region [om 0 6 3,oa 1 7 (.fieldA 1 (.t 1)),oa 2 8 (.loadB 0 none (.t 7)),oa 3 9 (.len (.t 8)),oa 4 10 (.bin .lss (.t 6) (.t 9))]) (.cond (.t 10) .skip (.exit 0))) (.seq [3,1] (.block 1 (.seq [3,1] (.seq [21,3,1] (.region [oa 0 13 (.fieldA 1 (.t 1)),xA 1 14 (.loadB 0 none (.t 13)) (rg 1),om 2 15 3,xA 3 16 (.indexA 1 (.t 14) (.t 15)) (rg 3),xA 4 17 (.loadH none (.t 16)) (rg 4),xA 5 18 (.len (.t 17)) (rg 5),oa 6 19 (.fieldA 0 (.t 1)),xA 7 20 (.loadB 0 none (.t 19)) [6],xA 8 21 (.bin .neq (.t 18) (.t 20)) (rg 8)]) (.cond (.t 21) (.seq [2] (.region [oa 0 2 (.mv An)]) .ret) .skip)) (.seq [4,3,1] (.region [oi 0 4 0]) (.block 2 (.loop [1,3,4] 1 (.seq [4,3,1] (.seq [29,4,3,1] (.region [om 0 22 4,oa 1 23 (.fieldA 1 (.t 1)),oa 2 24 (.loadB 0 none (.t 23)),om 3 25 3,oa 4 26 (.indexA 1 (.t 24) (.t 25)),oa 5 27 (.loadH none (.t 26)),oa 6 28 (.len (.t 27)),oa 7 29 (.bin .lss (.t 22) (.t 28))]) (.cond (.t 29) .skip (.exit 2))) (.seq [4,3,1] (.block 3 (.seq [5,4,3,1] (.region [oa 0 32 (.fieldA 1 (.t 1)),oa 1 33 (.loadB 0 none (.t 32)),om 2 34 3,oa 3 35 (.indexA 1 (.t 33) (.t 34)),oa 4 36 (.loadH none (.t 35)),om 5 37 4,oa 6 38 (.indexA 4 (.t 36) (.t 37)),ob 7 39 (.loadH (some 4) (.t 38)),oa 8 5 (.allocB 1 [Ab,Ab,Ab,Ab]),os 9 (.storeB 1 4 (.t 5) (.t 39))]) (.seq [64,4,3,1] (.region [oa 0 40 (.loadB 1 (some 4) (.t 5)),oF 1 41 Ek [(.t 40)],oa 2 42 (.un .not (.t 41)),om 3 43 42,og 4 44 (.fieldA 0 (.t 5)) 43 false,og 5 45 (.loadB 1 none (.t 44)) 43 false,og 6 46 (.bin .eql (.t 45) Au) 43 false,og 7 47 (.mv (.t 46)) 43 false,og 8 48 (.mv (.t 3)) 47 true,og 9 49 (.bin .eql (.t 48) AE) 47 true,og 10 50 (.pick (.t 47) (.t 49) An) 43 false,oa 11 51 (.pick (.t 43) AR (.t 50)),om 12 52 51,og 13 53 (.fieldA 0 (.t 5)) 52 false,og 14 54 (.loadB 1 none (.t 53)) 52 false,og 15 55 (.bin .neq (.t 54) (.c (.int .i64 9))) 52 false,og 16 56 (.mv (.t 55)) 52 false,og 17 57 (.fieldA 3 (.t 5)) 56 true,og 18 58 (.loadB 1 none (.t 57)) 56 true,og 19 59 (.fieldA 1 (.t 1)) 56 true,og 20 60 (.loadB 0 none (.t 59)) 56 true,og 21 61 (.len (.t 60)) 56 true,og 22 62 (.bin .geq (.t 58) (.t 61)) 56 true,og 23 63 (.pick (.t 56) (.t 62) An) 52 false,oa 24 64 (.pick (.t 52) AR (.t 63))]) (.cond (.t 64) (.seq [2] (.region [oa 0 2 (.mv An)]) .ret) .skip)))) (.region [om 0 30 4,oa 1 31 (.bin .add (.t 30) Au),om 2 4 31])))))))) (.region [om 0 11 3,oa 1 12 (.bin .add (.t 11) Au),om 2 3 12])))))) (.seq [2] (.region [oa 0 65 (.fieldA 0 (.t 1)),oa 1 66 (.loadB 0 none (.t 65)),oF 2 67 BM [(.t 66),Au,(.c (.int .i64 32))],om 3 68 67,og 4 69 (.fieldA 1 (.t 1)) 68 true,og 5 70 (.loadB 0 none (.t 69)) 68 true,og 6 71 (.len (.t 70)) 68 true,⟨7,some 72,.call false BM.S BM.P BM.D [(.t 71),Au,(.c (.int .i64 4))],(some (68,true)),[]⟩,oa 8 73 (.pick (.t 68) (.t 72) An),om 9 2 73]) .ret)))
def Ij:Fn:=⟨⟨1,74,2,true,[.tmp 2],si⟩,[.agg [Aw,(.frz,.sl (.one (.sl BA)))]],.one (.one .own (.bool))⟩
theorem fo:Ij.A:=AV ⟨T1,Gk,Gk,trivial⟩
def GO:CZ->Bool:=Ij.V
def QH:CZ->Prop:=Ij.O
theorem fy:Ij.B:=AX ⟨Ul,Gj,Gj,trivial⟩ (by kernel_rfl) (λ x=>by kernel_rfl)
def rm:DCode:=(.seq [1] (.region [oa 0 1 (.boxB 0 2 (.t 0)),oa 1 2 (.mv An)]) (.seq [1] (.seq [26,1] (.region [oa 0 7 (.fieldA 0 (.t 1)),oa 1 8 (.loadB 0 none (.t 7)),oa 2 9 (.bin .lss (.t 8) Au),om 3 10 9,og 4 11 (.fieldA 0 (.t 1)) 10 false,og 5 12 (.loadB 0 none (.t 11)) 10 false,og 6 13 (.bin .gtr (.t 12) (.c (.int .i64 32))) 10 false,oa 7 14 (.pick (.t 10) AR (.t 13)),om 8 15 14,og 9 16 (.fieldA 1 (.t 1)) 15 false,og 10 17 (.loadB 0 none (.t 16)) 15 false,og 11 18 (.len (.t 17)) 15 false,og 12 19 (.bin .lss (.t 18) Au) 15 false,oa 13 20 (.pick (.t 15) AR (.t 19)),om 14 21 20,og 15 22 (.fieldA 1 (.t 1)) 21 false,og 16 23 (.loadB 0 none (.t 22)) 21 false,og 17 24 (.len (.t 23)) 21 false,og 18 25 (.bin .gtr (.t 24) (.c (.int .i64 4))) 21 false,oa 19 26 (.pick (.t 21) AR (.t 25))]) (.cond (.t 26) (.seq [2] (.region [oa 0 2 (.mv An)]) .ret) .skip)) (.seq [] (.seq [30,29,28,1] (.region [oa 0 27 (.fieldA 1 (.t 1)),oa 1 28 (.loadB 0 none (.t 27)),oa 2 29 (.len (.t 28)),oi 3 30 0]) (.block 0 (.loop [1,28,29,30] 1 (.seq [31,30,29,28,1] (.region [oa 0 31 (.bin .lss (.t 30) (.t 29))]) (.seq [30,29,28,1] (.cond (.t 31) .skip (.exit 0)) (.seq [30,29,28,1] (.block 1 (.seq [30,29,28,4,3,1] (.region [om 0 32 30,oa 1 33 (.indexA 1 (.t 28) (.t 30)),oa 2 34 (.loadH none (.t 33)),om 3 3 32,on 4 4 34]) (.seq [30,29,28,4,3,1] (.seq [39,30,29,28,4,3,1] (.region [on 0 35 4,oa 1 36 (.len (.t 35)),oa 2 37 (.fieldA 0 (.t 1)),oa 3 38 (.loadB 0 none (.t 37)),oa 4 39 (.bin .neq (.t 36) (.t 38))]) (.cond (.t 39) (.seq [2] (.region [oa 0 2 (.mv An)]) .ret) .skip)) (.seq [42,41,40,30,29,28,3,1] (.region [on 0 40 4,oa 1 41 (.len (.t 40)),oi 2 42 0]) (.block 2 (.loop [1,3,28,29,30,40,41,42] 1 (.seq [43,42,41,40,30,29,28,3,1] (.region [oa 0 43 (.bin .lss (.t 42) (.t 41))]) (.seq [42,41,40,30,29,28,3,1] (.cond (.t 43) .skip (.exit 2)) (.seq [42,41,40,30,29,28,3,1] (.block 3 (.seq [42,41,40,30,29,28,6,3,1] (.region [oa 0 44 (.indexA 4 (.t 40) (.t 42)),ob 1 45 (.loadH (some 4) (.t 44)),oa 2 6 (.allocB 1 [Ab,Ab,Ab,Ab]),os 3 (.storeB 1 4 (.t 6) (.t 45))]) (.seq [70,42,41,40,30,29,28,3,1] (.region [oa 0 46 (.loadB 1 (some 4) (.t 6)),oF 1 47 EY [(.t 46)],oa 2 48 (.un .not (.t 47)),om 3 49 48,og 4 50 (.mv (.t 3)) 49 false,og 5 51 (.bin .eql (.t 50) AE) 49 false,og 6 52 (.mv (.t 51)) 49 false,og 7 53 (.fieldA 0 (.t 6)) 52 true,og 8 54 (.loadB 1 none (.t 53)) 52 true,og 9 55 (.bin .eql (.t 54) Au) 52 true,og 10 56 (.pick (.t 52) (.t 55) An) 49 false,oa 11 57 (.pick (.t 49) AR (.t 56)),om 12 58 57,og 13 59 (.fieldA 0 (.t 6)) 58 false,og 14 60 (.loadB 1 none (.t 59)) 58 false,og 15 61 (.bin .neq (.t 60) (.c (.int .i64 9))) 58 false,og 16 62 (.mv (.t 61)) 58 false,og 17 63 (.fieldA 3 (.t 6)) 62 true,og 18 64 (.loadB 1 none (.t 63)) 62 true,og 19 65 (.fieldA 1 (.t 1)) 62 true,og 20 66 (.loadB 0 none (.t 65)) 62 true,og 21 67 (.len (.t 66)) 62 true,og 22 68 (.bin .geq (.t 64) (.t 67)) 62 true,og 23 69 (.pick (.t 62) (.t 68) An) 58 false,oa 24 70 (.pick (.t 58) AR (.t 69))]) (.cond (.t 70) (.seq [2] (.region [oa 0 2 (.mv An)]) .ret) .skip)))) (.region [oa 0 71 (.bin .add (.t 42) Au),om 1 42 71])))))))))) (.region [oa 0 72 (.bin .add (.t 30) Au),om 1 30 72]))))))) (.seq [2] (.region [oa 0 2 (.mv AR)]) .ret))))
def Ke:Fn:=⟨⟨1,73,2,true,[.tmp 2],rm⟩,[.agg [Aw,(.frz,.sl (.one (.sl BA)))]],.one (.one .own (.bool))⟩
theorem r5:Ke.A:=AV ⟨T9,trivial⟩
def Ea:CZ->Bool:=Ke.V
def QL:CZ->Prop:=Ke.O
theorem rJ:Ke.B:=AX ⟨Um,trivial⟩ (by kernel_rfl) (λ x=>by kernel_rfl)
def th:DCode:=(.seq [3,2,1] (.region [oa 0 3 (.boxB 0 2 (.t 0)),oi 1 6 0]) (.seq [3,2,1] (.seq [18,3,2,1] (.region [oa 0 8 (.loadB 0 (some 2) (.t 3)),oF 1 9 Ij [(.t 8)],oa 2 10 (.un .not (.t 9)),om 3 11 10,og 4 12 (.mv (.t 2)) 11 false,og 5 13 (.fieldA 0 (.t 3)) 11 false,og 6 14 (.loadB 0 none (.t 13)) 11 false,og 7 15 (.bin .sub (.t 14) Au) 11 false,⟨8,some 16,.call false BM.S BM.P BM.D [(.t 12),AE,(.t 15)],(some (11,false)),[]⟩,og 9 17 (.un .not (.t 16)) 11 false,oa 10 18 (.pick (.t 11) AR (.t 17))]) (.cond (.t 18) (.seq [6] (.region [oi 0 6 (-1)]) .ret) .skip)) (.seq [] (.seq [7,3,2,1] (.region [oa 0 19 (.fieldA 1 (.t 3)),oa 1 20 (.loadB 0 none (.t 19)),oa 2 21 (.len (.t 20)),oa 3 22 (.bin .sub (.t 21) Au),om 4 7 22]) (.block 0 (.loop [1,2,3,7] 1 (.seq [7,3,2,1] (.seq [24,7,3,2,1] (.region [om 0 23 7,oa 1 24 (.bin .gtr (.t 23) AE)]) (.cond (.t 24) .skip (.exit 0))) (.seq [7,3,2,1] (.block 1 (.seq [43,7,3,2,1] (.region [om 0 27 1,om 1 28 7,oa 2 29 (.bin .shr (.t 27) (.t 28)),oa 3 30 (.bin .and (.t 29) Au),oa 4 31 (.bin .eql (.t 30) Au),om 5 32 31,og 6 33 (.fieldA 1 (.t 3)) 32 true,og 7 34 (.loadB 0 none (.t 33)) 32 true,og 8 35 (.mv (.t 7)) 32 true,og 9 36 (.indexA 1 (.t 34) (.t 35)) 32 true,og 10 37 (.loadH none (.t 36)) 32 true,og 11 38 (.mv (.t 2)) 32 true,og 12 39 (.indexA 4 (.t 37) (.t 38)) 32 true,og 13 40 (.fieldA 0 (.t 39)) 32 true,og 14 41 (.loadH none (.t 40)) 32 true,og 15 42 (.bin .neq (.t 41) Au) 32 true,oa 16 43 (.pick (.t 32) (.t 42) An)]) (.cond (.t 43) (.seq [6] (.region [om 0 44 7,om 1 6 44]) .ret) .skip))) (.region [om 0 25 7,oa 1 26 (.bin .sub (.t 25) Au),om 2 7 26])))))) (.seq [6] (.region [oi 0 6 0]) .ret))))
def Kj:Fn:=⟨⟨3,45,1,true,[.tmp 6],th⟩,[.agg [Aw,(.frz,.sl (.one (.sl BA)))],.one .frz (.int .i64),.one .frz (.int .i64)],.one (.one .own (.int .i64))⟩
theorem sv:Kj.A:=AV ⟨fo,Gk,trivial⟩
def FW:JK->Int:=Kj.V
def UB:JK->Prop:=Kj.O
theorem sH:Kj.B:=AX ⟨fy,Gj,trivial⟩ (by kernel_rfl) (λ x=>by kernel_rfl)
def sN:DCode:=(.seq [3,2,1] (.region [oa 0 3 (.boxB 0 2 (.t 0)),oi 1 6 0]) (.seq [] (.seq [7,3,2,1] (.region [oa 0 8 (.fieldA 1 (.t 3)),oa 1 9 (.loadB 0 none (.t 8)),oa 2 10 (.len (.t 9)),oa 3 11 (.bin .sub (.t 10) Au),om 4 7 11]) (.block 0 (.loop [1,2,3,7] 1 (.seq [7,3,2,1] (.seq [13,7,3,2,1] (.region [om 0 12 7,oa 1 13 (.bin .gtr (.t 12) AE)]) (.cond (.t 13) .skip (.exit 0))) (.seq [7,3,2,1] (.block 1 (.seq [31,7,3,2,1] (.region [om 0 16 1,om 1 17 7,oF 2 18 GX [(.t 16),(.t 17)],oa 3 19 (.bin .eql (.t 18) Au),om 4 20 19,og 5 21 (.fieldA 1 (.t 3)) 20 true,og 6 22 (.loadB 0 none (.t 21)) 20 true,og 7 23 (.mv (.t 7)) 20 true,og 8 24 (.indexA 1 (.t 22) (.t 23)) 20 true,og 9 25 (.loadH none (.t 24)) 20 true,og 10 26 (.mv (.t 2)) 20 true,og 11 27 (.indexA 4 (.t 25) (.t 26)) 20 true,og 12 28 (.fieldA 0 (.t 27)) 20 true,og 13 29 (.loadH none (.t 28)) 20 true,og 14 30 (.bin .neq (.t 29) Au) 20 true,oa 15 31 (.pick (.t 20) (.t 30) An)]) (.cond (.t 31) (.seq [6] (.region [om 0 32 7,om 1 6 32]) .ret) .skip))) (.region [om 0 14 7,oa 1 15 (.bin .sub (.t 14) Au),om 2 7 15])))))) (.seq [6] (.region [oi 0 6 0]) .ret)))
def Kq:Fn:=⟨⟨3,33,1,true,[.tmp 6],sN⟩,[.agg [Aw,(.frz,.sl (.one (.sl BA)))],.one .frz (.int .i64),.one .frz (.int .i64)],.one (.one .own (.int .i64))⟩
theorem sw:Kq.A:=AV ⟨iV,trivial⟩
def Q5:JK->Int:=Kq.V
def QX:JK->Prop:=Kq.O
theorem tz:Kq.B:=AX ⟨iL,trivial⟩ (by kernel_rfl) (λ x=>by kernel_rfl)
def rf:DCode:=(.seq [6,3,2,1] (.region [oa 0 3 (.boxB 0 2 (.t 0)),oa 1 6 (.allocB 1 [Ab,Ab,Ab,Ab])]) (.seq [7,6,3,2] (.region [oa 0 8 (.loadB 0 (some 2) (.t 3)),om 1 9 1,om 2 10 2,oF 3 11 Kj [(.t 8),(.t 9),(.t 10)],om 4 7 11]) (.seq [7,6,3,2] (.seq [13,7,6,3,2] (.region [om 0 12 7,oa 1 13 (.bin .lss (.t 12) AE)]) (.cond (.t 13) (.seq [6] (.region [oa 0 14 (.build [Ab,Ab,Ab,Ab] []),os 1 (.storeB 1 4 (.t 6) (.t 14))]) .ret) .skip)) (.seq [6] (.region [oa 0 15 (.fieldA 1 (.t 3)),oa 1 16 (.loadB 0 none (.t 15)),om 2 17 7,oa 3 18 (.indexA 1 (.t 16) (.t 17)),oa 4 19 (.loadH none (.t 18)),om 5 20 2,oa 6 21 (.indexA 4 (.t 19) (.t 20)),ob 7 22 (.loadH (some 4) (.t 21)),os 8 (.storeB 1 4 (.t 6) (.t 22))]) .ret))))
def Kf:Fn:=⟨⟨3,23,2,true,[.cell 6 (some 4)],rf⟩,[.agg [Aw,(.frz,.sl (.one (.sl BA)))],.one .frz (.int .i64),.one .frz (.int .i64)],.one (.agg [Aq,Aq,Aq,Aq])⟩
theorem rE:Kf.A:=AV ⟨sv,trivial⟩
def UH:JK->Int×Int×Int×Int:=Kf.V
def Ui:JK->Prop:=Kf.O
theorem rK:Kf.B:=AX ⟨sH,trivial⟩ (by kernel_rfl) (λ x=>by kernel_rfl)
end
section
set_option maxRecDepth 100000
theorem rC (x):GO x=(bAnd (bNot (iLt (Am (fun(x0:Int)=>(bAnd (iLt x0 (lLen x.2)) (bAnd (bNot (iNe (lLen (lGet x.2 (iNat x0) [])) x.1)) (bNot (iLt (Am (fun(x1:Int)=>(bAnd (iLt x1 (lLen (lGet x.2 (iNat x0) []))) (bNot (bOr (bNot (Eb ((lGet (lGet x.2 (iNat x0) []) (iNat x1) (0,0,0,0)).1,(lGet (lGet x.2 (iNat x0) []) (iNat x1) (0,0,0,0)).2.1,(lGet (lGet x.2 (iNat x0) []) (iNat x1) (0,0,0,0)).2.2.1,(lGet (lGet x.2 (iNat x0) []) (iNat x1) (0,0,0,0)).2.2.2))) (bSel (iEq (lGet (lGet x.2 (iNat x0) []) (iNat x1) (0,0,0,0)).1 1) (bOr (iEq x0 0) (bAnd (iNe (lGet (lGet x.2 (iNat x0) []) (iNat x1) (0,0,0,0)).1 9) (iGe (lGet (lGet x.2 (iNat x0) []) (iNat x1) (0,0,0,0)).2.2.2 (lLen x.2)))) (bAnd (iNe (lGet (lGet x.2 (iNat x0) []) (iNat x1) (0,0,0,0)).1 9) (iGe (lGet (lGet x.2 (iNat x0) []) (iNat x1) (0,0,0,0)).2.2.2 (lLen x.2)))))))) (fun(x1:Int)=>(iAdd .i64 x1 1)) 0) (lLen (lGet x.2 (iNat x0) []))))))) (fun(x0:Int)=>(iAdd .i64 x0 1)) 0) (lLen x.2))) (bAnd (BH (x.1,1,32)) (BH ((lLen x.2),1,4)))):=(Ij.v x).trans (by kernel_rfl)
theorem r9 (x):QH x=((LoopOk (fun(x0:Int)=>(bAnd (iLt x0 (lLen x.2)) (bAnd (bNot (iNe (lLen (lGet x.2 (iNat x0) [])) x.1)) (bNot (iLt (Am (fun(x1:Int)=>(bAnd (iLt x1 (lLen (lGet x.2 (iNat x0) []))) (bNot (bOr (bNot (Eb ((lGet (lGet x.2 (iNat x0) []) (iNat x1) (0,0,0,0)).1,(lGet (lGet x.2 (iNat x0) []) (iNat x1) (0,0,0,0)).2.1,(lGet (lGet x.2 (iNat x0) []) (iNat x1) (0,0,0,0)).2.2.1,(lGet (lGet x.2 (iNat x0) []) (iNat x1) (0,0,0,0)).2.2.2))) (bSel (iEq (lGet (lGet x.2 (iNat x0) []) (iNat x1) (0,0,0,0)).1 1) (bOr (iEq x0 0) (bAnd (iNe (lGet (lGet x.2 (iNat x0) []) (iNat x1) (0,0,0,0)).1 9) (iGe (lGet (lGet x.2 (iNat x0) []) (iNat x1) (0,0,0,0)).2.2.2 (lLen x.2)))) (bAnd (iNe (lGet (lGet x.2 (iNat x0) []) (iNat x1) (0,0,0,0)).1 9) (iGe (lGet (lGet x.2 (iNat x0) []) (iNat x1) (0,0,0,0)).2.2.2 (lLen x.2)))))))) (fun(x1:Int)=>(iAdd .i64 x1 1)) 0) (lLen (lGet x.2 (iNat x0) []))))))) (fun(x0:Int)=>(iAdd .i64 x0 1)) (fun(x0:Int)=>(((iLt x0 (lLen x.2))=true->((((0:Int)<=x0)/\(x0<(((List.length x.2):Int))))/\(((iNat x0)<(List.length x.2))/\(((iNe (lLen (lGet x.2 (iNat x0) [])) x.1)=true->True)/\((iNe (lLen (lGet x.2 (iNat x0) [])) x.1)=false->(LoopOk (fun(x1:Int)=>(bAnd (iLt x1 (lLen (lGet x.2 (iNat x0) []))) (bNot (bOr (bNot (Eb ((lGet (lGet x.2 (iNat x0) []) (iNat x1) (0,0,0,0)).1,(lGet (lGet x.2 (iNat x0) []) (iNat x1) (0,0,0,0)).2.1,(lGet (lGet x.2 (iNat x0) []) (iNat x1) (0,0,0,0)).2.2.1,(lGet (lGet x.2 (iNat x0) []) (iNat x1) (0,0,0,0)).2.2.2))) (bSel (iEq (lGet (lGet x.2 (iNat x0) []) (iNat x1) (0,0,0,0)).1 1) (bOr (iEq x0 0) (bAnd (iNe (lGet (lGet x.2 (iNat x0) []) (iNat x1) (0,0,0,0)).1 9) (iGe (lGet (lGet x.2 (iNat x0) []) (iNat x1) (0,0,0,0)).2.2.2 (lLen x.2)))) (bAnd (iNe (lGet (lGet x.2 (iNat x0) []) (iNat x1) (0,0,0,0)).1 9) (iGe (lGet (lGet x.2 (iNat x0) []) (iNat x1) (0,0,0,0)).2.2.2 (lLen x.2)))))))) (fun(x1:Int)=>(iAdd .i64 x1 1)) (fun(x1:Int)=>((((0:Int)<=x0)/\(x0<(((List.length x.2):Int))))/\(((iNat x0)<(List.length x.2))/\(((iLt x1 (lLen (lGet x.2 (iNat x0) [])))=true->((((0:Int)<=x0)/\(x0<(((List.length x.2):Int))))/\(((iNat x0)<(List.length x.2))/\((((0:Int)<=x1)/\(x1<(((List.length (lGet x.2 (iNat x0) [])):Int))))/\(((iNat x1)<(List.length (lGet x.2 (iNat x0) [])))/\(MG ((lGet (lGet x.2 (iNat x0) []) (iNat x1) (0,0,0,0)).1,(lGet (lGet x.2 (iNat x0) []) (iNat x1) (0,0,0,0)).2.1,(lGet (lGet x.2 (iNat x0) []) (iNat x1) (0,0,0,0)).2.2.1,(lGet (lGet x.2 (iNat x0) []) (iNat x1) (0,0,0,0)).2.2.2)))))))/\((iLt x1 (lLen (lGet x.2 (iNat x0) [])))=false->True))))) 0))))))/\((iLt x0 (lLen x.2))=false->True))) 0)/\(((iLt (Am (fun(x0:Int)=>(bAnd (iLt x0 (lLen x.2)) (bAnd (bNot (iNe (lLen (lGet x.2 (iNat x0) [])) x.1)) (bNot (iLt (Am (fun(x1:Int)=>(bAnd (iLt x1 (lLen (lGet x.2 (iNat x0) []))) (bNot (bOr (bNot (Eb ((lGet (lGet x.2 (iNat x0) []) (iNat x1) (0,0,0,0)).1,(lGet (lGet x.2 (iNat x0) []) (iNat x1) (0,0,0,0)).2.1,(lGet (lGet x.2 (iNat x0) []) (iNat x1) (0,0,0,0)).2.2.1,(lGet (lGet x.2 (iNat x0) []) (iNat x1) (0,0,0,0)).2.2.2))) (bSel (iEq (lGet (lGet x.2 (iNat x0) []) (iNat x1) (0,0,0,0)).1 1) (bOr (iEq x0 0) (bAnd (iNe (lGet (lGet x.2 (iNat x0) []) (iNat x1) (0,0,0,0)).1 9) (iGe (lGet (lGet x.2 (iNat x0) []) (iNat x1) (0,0,0,0)).2.2.2 (lLen x.2)))) (bAnd (iNe (lGet (lGet x.2 (iNat x0) []) (iNat x1) (0,0,0,0)).1 9) (iGe (lGet (lGet x.2 (iNat x0) []) (iNat x1) (0,0,0,0)).2.2.2 (lLen x.2)))))))) (fun(x1:Int)=>(iAdd .i64 x1 1)) 0) (lLen (lGet x.2 (iNat x0) []))))))) (fun(x0:Int)=>(iAdd .i64 x0 1)) 0) (lLen x.2))=true->True)/\((iLt (Am (fun(x0:Int)=>(bAnd (iLt x0 (lLen x.2)) (bAnd (bNot (iNe (lLen (lGet x.2 (iNat x0) [])) x.1)) (bNot (iLt (Am (fun(x1:Int)=>(bAnd (iLt x1 (lLen (lGet x.2 (iNat x0) []))) (bNot (bOr (bNot (Eb ((lGet (lGet x.2 (iNat x0) []) (iNat x1) (0,0,0,0)).1,(lGet (lGet x.2 (iNat x0) []) (iNat x1) (0,0,0,0)).2.1,(lGet (lGet x.2 (iNat x0) []) (iNat x1) (0,0,0,0)).2.2.1,(lGet (lGet x.2 (iNat x0) []) (iNat x1) (0,0,0,0)).2.2.2))) (bSel (iEq (lGet (lGet x.2 (iNat x0) []) (iNat x1) (0,0,0,0)).1 1) (bOr (iEq x0 0) (bAnd (iNe (lGet (lGet x.2 (iNat x0) []) (iNat x1) (0,0,0,0)).1 9) (iGe (lGet (lGet x.2 (iNat x0) []) (iNat x1) (0,0,0,0)).2.2.2 (lLen x.2)))) (bAnd (iNe (lGet (lGet x.2 (iNat x0) []) (iNat x1) (0,0,0,0)).1 9) (iGe (lGet (lGet x.2 (iNat x0) []) (iNat x1) (0,0,0,0)).2.2.2 (lLen x.2)))))))) (fun(x1:Int)=>(iAdd .i64 x1 1)) 0) (lLen (lGet x.2 (iNat x0) []))))))) (fun(x0:Int)=>(iAdd .i64 x0 1)) 0) (lLen x.2))=false->((Ec (x.1,1,32))/\(((BH (x.1,1,32))=true->(Ec ((lLen x.2),1,4)))/\((BH (x.1,1,32))=false->True)))))):=(Ij.o x).trans (by kernel_rfl)
theorem YV (x):Ea x=(bAnd (bNot (bOr (iLt x.1 1) (bOr (iGt x.1 32) (bOr (iLt (lLen x.2) 1) (iGt (lLen x.2) 4))))) (bNot (iLt (Am (fun(x0:Int)=>(bAnd (iLt x0 (lLen x.2)) (bAnd (bNot (iNe (lLen (lGet x.2 (iNat x0) [])) x.1)) (bNot (iLt (Am (fun(x1:Int)=>(bAnd (iLt x1 (lLen (lGet x.2 (iNat x0) []))) (bNot (bOr (bNot (Bt ((lGet (lGet x.2 (iNat x0) []) (iNat x1) (0,0,0,0)).1,(lGet (lGet x.2 (iNat x0) []) (iNat x1) (0,0,0,0)).2.1,(lGet (lGet x.2 (iNat x0) []) (iNat x1) (0,0,0,0)).2.2.1,(lGet (lGet x.2 (iNat x0) []) (iNat x1) (0,0,0,0)).2.2.2))) (bSel (iEq x0 0) (bOr (iEq (lGet (lGet x.2 (iNat x0) []) (iNat x1) (0,0,0,0)).1 1) (bAnd (iNe (lGet (lGet x.2 (iNat x0) []) (iNat x1) (0,0,0,0)).1 9) (iGe (lGet (lGet x.2 (iNat x0) []) (iNat x1) (0,0,0,0)).2.2.2 (lLen x.2)))) (bAnd (iNe (lGet (lGet x.2 (iNat x0) []) (iNat x1) (0,0,0,0)).1 9) (iGe (lGet (lGet x.2 (iNat x0) []) (iNat x1) (0,0,0,0)).2.2.2 (lLen x.2)))))))) (fun(x1:Int)=>(iAdd .i64 x1 1)) 0) (lLen (lGet x.2 (iNat x0) []))))))) (fun(x0:Int)=>(iAdd .i64 x0 1)) 0) (lLen x.2)))):=(Ke.v x).trans (by kernel_rfl)
theorem rr (x):QL x=(((bOr (iLt x.1 1) (bOr (iGt x.1 32) (bOr (iLt (lLen x.2) 1) (iGt (lLen x.2) 4))))=true->True)/\((bOr (iLt x.1 1) (bOr (iGt x.1 32) (bOr (iLt (lLen x.2) 1) (iGt (lLen x.2) 4))))=false->(LoopOk (fun(x0:Int)=>(bAnd (iLt x0 (lLen x.2)) (bAnd (bNot (iNe (lLen (lGet x.2 (iNat x0) [])) x.1)) (bNot (iLt (Am (fun(x1:Int)=>(bAnd (iLt x1 (lLen (lGet x.2 (iNat x0) []))) (bNot (bOr (bNot (Bt ((lGet (lGet x.2 (iNat x0) []) (iNat x1) (0,0,0,0)).1,(lGet (lGet x.2 (iNat x0) []) (iNat x1) (0,0,0,0)).2.1,(lGet (lGet x.2 (iNat x0) []) (iNat x1) (0,0,0,0)).2.2.1,(lGet (lGet x.2 (iNat x0) []) (iNat x1) (0,0,0,0)).2.2.2))) (bSel (iEq x0 0) (bOr (iEq (lGet (lGet x.2 (iNat x0) []) (iNat x1) (0,0,0,0)).1 1) (bAnd (iNe (lGet (lGet x.2 (iNat x0) []) (iNat x1) (0,0,0,0)).1 9) (iGe (lGet (lGet x.2 (iNat x0) []) (iNat x1) (0,0,0,0)).2.2.2 (lLen x.2)))) (bAnd (iNe (lGet (lGet x.2 (iNat x0) []) (iNat x1) (0,0,0,0)).1 9) (iGe (lGet (lGet x.2 (iNat x0) []) (iNat x1) (0,0,0,0)).2.2.2 (lLen x.2)))))))) (fun(x1:Int)=>(iAdd .i64 x1 1)) 0) (lLen (lGet x.2 (iNat x0) []))))))) (fun(x0:Int)=>(iAdd .i64 x0 1)) (fun(x0:Int)=>(((iLt x0 (lLen x.2))=true->((((0:Int)<=x0)/\(x0<(((List.length x.2):Int))))/\(((iNat x0)<(List.length x.2))/\(((iNe (lLen (lGet x.2 (iNat x0) [])) x.1)=true->True)/\((iNe (lLen (lGet x.2 (iNat x0) [])) x.1)=false->(LoopOk (fun(x1:Int)=>(bAnd (iLt x1 (lLen (lGet x.2 (iNat x0) []))) (bNot (bOr (bNot (Bt ((lGet (lGet x.2 (iNat x0) []) (iNat x1) (0,0,0,0)).1,(lGet (lGet x.2 (iNat x0) []) (iNat x1) (0,0,0,0)).2.1,(lGet (lGet x.2 (iNat x0) []) (iNat x1) (0,0,0,0)).2.2.1,(lGet (lGet x.2 (iNat x0) []) (iNat x1) (0,0,0,0)).2.2.2))) (bSel (iEq x0 0) (bOr (iEq (lGet (lGet x.2 (iNat x0) []) (iNat x1) (0,0,0,0)).1 1) (bAnd (iNe (lGet (lGet x.2 (iNat x0) []) (iNat x1) (0,0,0,0)).1 9) (iGe (lGet (lGet x.2 (iNat x0) []) (iNat x1) (0,0,0,0)).2.2.2 (lLen x.2)))) (bAnd (iNe (lGet (lGet x.2 (iNat x0) []) (iNat x1) (0,0,0,0)).1 9) (iGe (lGet (lGet x.2 (iNat x0) []) (iNat x1) (0,0,0,0)).2.2.2 (lLen x.2)))))))) (fun(x1:Int)=>(iAdd .i64 x1 1)) (fun(x1:Int)=>(((iLt x1 (lLen (lGet x.2 (iNat x0) [])))=true->((((0:Int)<=x1)/\(x1<(((List.length (lGet x.2 (iNat x0) [])):Int))))/\(((iNat x1)<(List.length (lGet x.2 (iNat x0) [])))/\(MI ((lGet (lGet x.2 (iNat x0) []) (iNat x1) (0,0,0,0)).1,(lGet (lGet x.2 (iNat x0) []) (iNat x1) (0,0,0,0)).2.1,(lGet (lGet x.2 (iNat x0) []) (iNat x1) (0,0,0,0)).2.2.1,(lGet (lGet x.2 (iNat x0) []) (iNat x1) (0,0,0,0)).2.2.2)))))/\((iLt x1 (lLen (lGet x.2 (iNat x0) [])))=false->True))) 0))))))/\((iLt x0 (lLen x.2))=false->True))) 0))):=(Ke.o x).trans (by kernel_rfl)
theorem tD (x):FW x=(bSel (bOr (bNot (GO (x.1.1,x.1.2))) (bNot (BH (x.2.2,0,(iSub .i64 x.1.1 1))))) (-1) (bSel (iGt (Am (fun(x0:Int)=>(bAnd (iGt x0 0) (bNot (bAnd (iEq (iAnd .i64 (iShr .i64 x.2.1 x0) 1) 1) (iNe (lGet (lGet x.1.2 (iNat x0) []) (iNat x.2.2) (0,0,0,0)).1 1))))) (fun(x0:Int)=>(iSub .i64 x0 1)) (iSub .i64 (lLen x.1.2) 1)) 0) (Am (fun(x0:Int)=>(bAnd (iGt x0 0) (bNot (bAnd (iEq (iAnd .i64 (iShr .i64 x.2.1 x0) 1) 1) (iNe (lGet (lGet x.1.2 (iNat x0) []) (iNat x.2.2) (0,0,0,0)).1 1))))) (fun(x0:Int)=>(iSub .i64 x0 1)) (iSub .i64 (lLen x.1.2) 1)) 0)):=(Kj.v x).trans (by kernel_rfl)
theorem tf (x):UB x=(((QH (x.1.1,x.1.2))/\(((bNot (GO (x.1.1,x.1.2)))=true->True)/\((bNot (GO (x.1.1,x.1.2)))=false->(Ec (x.2.2,0,(iSub .i64 x.1.1 1))))))/\(((bOr (bNot (GO (x.1.1,x.1.2))) (bNot (BH (x.2.2,0,(iSub .i64 x.1.1 1)))))=true->True)/\((bOr (bNot (GO (x.1.1,x.1.2))) (bNot (BH (x.2.2,0,(iSub .i64 x.1.1 1)))))=false->(LoopOk (fun(x0:Int)=>(bAnd (iGt x0 0) (bNot (bAnd (iEq (iAnd .i64 (iShr .i64 x.2.1 x0) 1) 1) (iNe (lGet (lGet x.1.2 (iNat x0) []) (iNat x.2.2) (0,0,0,0)).1 1))))) (fun(x0:Int)=>(iSub .i64 x0 1)) (fun(x0:Int)=>(((iGt x0 0)=true->(((0:Int)<=x0)/\(((iEq (iAnd .i64 (iShr .i64 x.2.1 x0) 1) 1)=true->((((0:Int)<=x0)/\(x0<(((List.length x.1.2):Int))))/\(((iNat x0)<(List.length x.1.2))/\((((0:Int)<=x.2.2)/\(x.2.2<(((List.length (lGet x.1.2 (iNat x0) [])):Int))))/\((iNat x.2.2)<(List.length (lGet x.1.2 (iNat x0) [])))))))/\((iEq (iAnd .i64 (iShr .i64 x.2.1 x0) 1) 1)=false->True))))/\((iGt x0 0)=false->True))) (iSub .i64 (lLen x.1.2) 1))))):=(Kj.o x).trans (by kernel_rfl)
theorem Zb (x):Q5 x=(bSel (iGt (Am (fun(x0:Int)=>(bAnd (iGt x0 0) (bNot (bAnd (iEq (Eo (x.2.1,x0)) 1) (iNe (lGet (lGet x.1.2 (iNat x0) []) (iNat x.2.2) (0,0,0,0)).1 1))))) (fun(x0:Int)=>(iSub .i64 x0 1)) (iSub .i64 (lLen x.1.2) 1)) 0) (Am (fun(x0:Int)=>(bAnd (iGt x0 0) (bNot (bAnd (iEq (Eo (x.2.1,x0)) 1) (iNe (lGet (lGet x.1.2 (iNat x0) []) (iNat x.2.2) (0,0,0,0)).1 1))))) (fun(x0:Int)=>(iSub .i64 x0 1)) (iSub .i64 (lLen x.1.2) 1)) 0):=(Kq.v x).trans (by kernel_rfl)
theorem sO (x):QX x=(LoopOk (fun(x0:Int)=>(bAnd (iGt x0 0) (bNot (bAnd (iEq (Eo (x.2.1,x0)) 1) (iNe (lGet (lGet x.1.2 (iNat x0) []) (iNat x.2.2) (0,0,0,0)).1 1))))) (fun(x0:Int)=>(iSub .i64 x0 1)) (fun(x0:Int)=>(((iGt x0 0)=true->((VZ (x.2.1,x0))/\(((iEq (Eo (x.2.1,x0)) 1)=true->((((0:Int)<=x0)/\(x0<(((List.length x.1.2):Int))))/\(((iNat x0)<(List.length x.1.2))/\((((0:Int)<=x.2.2)/\(x.2.2<(((List.length (lGet x.1.2 (iNat x0) [])):Int))))/\((iNat x.2.2)<(List.length (lGet x.1.2 (iNat x0) [])))))))/\((iEq (Eo (x.2.1,x0)) 1)=false->True))))/\((iGt x0 0)=false->True))) (iSub .i64 (lLen x.1.2) 1)):=(Kq.o x).trans (by kernel_rfl)
@[irreducible] def BR(x:JK):Int:=(bSel (bOr (bNot (Ea (x.1.1,x.1.2))) (bOr (iLt x.2.2 0) (iGe x.2.2 x.1.1))) (-1) (Q5 ((x.1.1,x.1.2),x.2.1,x.2.2)))
@[irreducible] def Ux(x:JK):Prop:=((QL (x.1.1,x.1.2))/\(((bOr (bNot (Ea (x.1.1,x.1.2))) (bOr (iLt x.2.2 0) (iGe x.2.2 x.1.1)))=true->True)/\((bOr (bNot (Ea (x.1.1,x.1.2))) (bOr (iLt x.2.2 0) (iGe x.2.2 x.1.1)))=false->(QX ((x.1.1,x.1.2),x.2.1,x.2.2)))))
theorem sn (x):UH x=(bSel (iLt (FW ((x.1.1,x.1.2),x.2.1,x.2.2)) 0) (0,0,0,0) ((lGet (lGet x.1.2 (iNat (FW ((x.1.1,x.1.2),x.2.1,x.2.2))) []) (iNat x.2.2) (0,0,0,0)).1,(lGet (lGet x.1.2 (iNat (FW ((x.1.1,x.1.2),x.2.1,x.2.2))) []) (iNat x.2.2) (0,0,0,0)).2.1,(lGet (lGet x.1.2 (iNat (FW ((x.1.1,x.1.2),x.2.1,x.2.2))) []) (iNat x.2.2) (0,0,0,0)).2.2.1,(lGet (lGet x.1.2 (iNat (FW ((x.1.1,x.1.2),x.2.1,x.2.2))) []) (iNat x.2.2) (0,0,0,0)).2.2.2)):=(Kf.v x).trans (by kernel_rfl)
theorem qP (x):Ui x=((UB ((x.1.1,x.1.2),x.2.1,x.2.2))/\(((iLt (FW ((x.1.1,x.1.2),x.2.1,x.2.2)) 0)=true->True)/\((iLt (FW ((x.1.1,x.1.2),x.2.1,x.2.2)) 0)=false->((((0:Int)<=(FW ((x.1.1,x.1.2),x.2.1,x.2.2)))/\((FW ((x.1.1,x.1.2),x.2.1,x.2.2))<(((List.length x.1.2):Int))))/\(((iNat (FW ((x.1.1,x.1.2),x.2.1,x.2.2)))<(List.length x.1.2))/\((((0:Int)<=x.2.2)/\(x.2.2<(((List.length (lGet x.1.2 (iNat (FW ((x.1.1,x.1.2),x.2.1,x.2.2))) [])):Int))))/\((iNat x.2.2)<(List.length (lGet x.1.2 (iNat (FW ((x.1.1,x.1.2),x.2.1,x.2.2))) []))))))))):=(Kf.o x).trans (by kernel_rfl)
@[irreducible] def Ji(x:JK):Int×Int×Int×Int:=(bSel (iLt (BR ((x.1.1,x.1.2),x.2.1,x.2.2)) 0) (0,0,0,0) ((lGet (lGet x.1.2 (iNat (BR ((x.1.1,x.1.2),x.2.1,x.2.2))) []) (iNat x.2.2) (0,0,0,0)).1,(lGet (lGet x.1.2 (iNat (BR ((x.1.1,x.1.2),x.2.1,x.2.2))) []) (iNat x.2.2) (0,0,0,0)).2.1,(lGet (lGet x.1.2 (iNat (BR ((x.1.1,x.1.2),x.2.1,x.2.2))) []) (iNat x.2.2) (0,0,0,0)).2.2.1,(lGet (lGet x.1.2 (iNat (BR ((x.1.1,x.1.2),x.2.1,x.2.2))) []) (iNat x.2.2) (0,0,0,0)).2.2.2))
@[irreducible] def fw(x:JK):Prop:=((Ux ((x.1.1,x.1.2),x.2.1,x.2.2))/\(((iLt (BR ((x.1.1,x.1.2),x.2.1,x.2.2)) 0)=true->True)/\((iLt (BR ((x.1.1,x.1.2),x.2.1,x.2.2)) 0)=false->((((0:Int)<=(BR ((x.1.1,x.1.2),x.2.1,x.2.2)))/\((BR ((x.1.1,x.1.2),x.2.1,x.2.2))<(((List.length x.1.2):Int))))/\(((iNat (BR ((x.1.1,x.1.2),x.2.1,x.2.2)))<(List.length x.1.2))/\((((0:Int)<=x.2.2)/\(x.2.2<(((List.length (lGet x.1.2 (iNat (BR ((x.1.1,x.1.2),x.2.1,x.2.2))) [])):Int))))/\((iNat x.2.2)<(List.length (lGet x.1.2 (iNat (BR ((x.1.1,x.1.2),x.2.1,x.2.2))) [])))))))))
attribute [irreducible] GO QH Ea QL FW UB Q5 QX UH Ui
end
end
end Go.Ag
